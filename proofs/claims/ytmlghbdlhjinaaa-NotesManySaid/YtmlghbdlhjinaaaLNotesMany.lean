/-
  The walk of the law NotesMany; printed by a program of this repo. No condition.
-/
import Derived.Test.YtmlghbdlhjinaaaWT
import Derived.Test.YtmlghbdlhjinaaaW5
namespace Dm
open Go Go.RowKit Go.Proofs

set_option maxHeartbeats 4000000 in
theorem law08_NotesMany_ok {w : World} {F : SH} {n : Int}  (hs : Sep w F (blks []) w F []) {r : Bool} (hS : law08_NotesMany n = some r) :
    Calls Try.prog 14 [.int .i64 n].toArray w (Gives (fun u w' => ∃ (F' : SH), u = .bool r ∧ Sep w F (blks []) w' F' [])) := by
  generalize (blks []) = R at hs ⊢
  unfold law08_NotesMany at hS
  refine fn_ok (vs := [.int .i64 n]) Try.func14 rfl 80 Try.ntmps14 (Nat.le_of_ble_eq_true rfl) ?_
  intro a hf
  replace hf := Fr.cast (L' := [(0, .int .i64 n)]) hf (by kernel_rfl)
  refine sq ?_
  refine reg ?_
  refine st tbOk 1 [0] (L' := [(0, .int .i64 n)]) hf (by kernel_rfl) ?_
  clear hf; clear a; intro a hf
  refine wpList_nil ?_
  refine sq ?_
  refine reg ?_
  have hT := of_bd hS; clear hS; obtain ⟨z1, hz1, hS⟩ := hT
  refine clV ent23 (vs := []) (caps := []) hf (by kernel_rfl) (by kernel_rfl) (by kernel_rfl) (by kernel_rfl) (law08_awake_ok (hs.enter [] rfl rfl) hz1) ?_
  clear hf; clear a; intro v w1 a hT hf; obtain ⟨F1, rfl, hr⟩ := hT
  replace hs : Sep w F R w1 F1 [] := hs.back [] [] rfl rfl rfl rfl hr
  clear hr
  replace hf := Fr.keep (ks := [0, 12]) (L' := [(0, .int .i64 n), (12, .bool z1)]) hf (by kernel_rfl)
  refine st tbOk 1 [0, 3] (L' := [(0, .int .i64 n), (3, .bool z1)]) hf (by kernel_rfl) ?_
  clear hf; clear a; intro a hf
  refine wpList_nil ?_
  refine sq ?_
  refine sq ?_
  refine reg ?_
  refine st tbOk 2 [0, 14] (L' := [(0, .int .i64 n), (14, .bool (!z1))]) hf (by kernel_rfl) ?_
  clear hf; clear a; intro a hf
  refine wpList_nil ?_
  refine cnd (b := !z1) hf (by kernel_rfl) (fun hb1 => ?_) (fun hb1 => ?_)
  · replace hS := of_t hb1 hS
    refine sq ?_
    refine reg ?_
    refine st tbOk 1 [2] (L' := [(2, .bool false)]) hf (by kernel_rfl) ?_
    clear hf; clear a; intro a hf
    refine wpList_nil ?_
    have hr := Option.some.inj hS; subst hr
    refine wp_ret ?_
    exact ret_ok hf (vs := [.bool false]) (by kernel_rfl) ⟨_, rfl, hs.sel [] rfl rfl⟩
  · replace hS := of_f hb1 hS
    refine wp_skip ?_
    refine sq ?_
    refine reg ?_
    have hT := of_let hS; clear hS; obtain ⟨k_1, hl1, hS⟩ := hT
    refine st tbOk 4 [4] (L' := [(4, .int .i64 k_1)]) hf (by subst hl1; kernel_rfl) ?_
    clear hf; clear a; intro a hf
    refine wpList_nil ?_
    refine sq ?_
    refine reg ?_
    refine st tbOk 1 [4, 19] (L' := [(4, .int .i64 k_1), (19, .int .i64 k_1)]) hf (by kernel_rfl) ?_
    clear hf; clear a; intro a hf
    have hT := of_gd hS; clear hS; obtain ⟨hc1, hS⟩ := hT
    refine mkR tbOk u22 i5 rfl rfl (t := (tI .u8)) rfl rfl (0 : Int) hs.le rfl (k := .i64) (k' := .i64) (n := k_1) hc1 hf (by kernel_rfl) (by kernel_rfl) (by kernel_rfl) (by kernel_rfl) ?_
    clear hf; clear a; intro w2 a ho hx hf
    replace hs : Sep w F R w2 F1 [.row 5 (tI .u8) (.slice (some ⟨w1.heap.size, 0, none⟩) (List.replicate (Int.toNat k_1) (0 : Int)).length (Int.toNat k_1)) (List.replicate (Int.toNat k_1) (0 : Int))] := hs.newRow ho hx
    clear ho hx
    replace hf := Fr.keep (ks := [4, 20]) (L' := [(4, .int .i64 k_1), (20, .slice (some ⟨w1.heap.size, 0, none⟩) (List.replicate (Int.toNat k_1) (0 : Int)).length (Int.toNat k_1))]) hf (by kernel_rfl)
    refine st tbOk 1 [4, 21] (L' := [(4, .int .i64 k_1), (21, .agg #[strV [97, 98, 99], .int .u32 0, .slice (some ⟨w1.heap.size, 0, none⟩) (List.replicate (Int.toNat k_1) (0 : Int)).length (Int.toNat k_1)])]) hf (by kernel_rfl) ?_
    clear hf; clear a; intro a hf
    obtain ⟨F2, _, hs⟩ := hs.frz 0 rfl
    replace hs : Sep w F R w2 F2 [.ro (tI .u8) (.slice (some ⟨w1.heap.size, 0, none⟩) (List.replicate (Int.toNat k_1) (0 : Int)).length (Int.toNat k_1)) (List.replicate (Int.toNat k_1) (0 : Int))] := hs
    refine bsR tbOk u37 i54 rfl (t := ty53) (vs := [(0, .agg #[strV [97, 98, 99], .int .u32 0, .slice (some ⟨w1.heap.size, 0, none⟩) (List.replicate (Int.toNat k_1) (0 : Int)).length (Int.toNat k_1)])]) (cells := #[strV [97, 98, 99], .int .u32 0, .slice (some ⟨w1.heap.size, 0, none⟩) (List.replicate (Int.toNat k_1) (0 : Int)).length (Int.toNat k_1)]) ([([97, 98, 99], 0, (List.replicate (Int.toNat k_1) (0 : Int)))] : List ((List UInt8) × Int × (List Int))) hs.le hf (by kernel_rfl) (by kernel_rfl) (by kernel_rfl) rfl (by kernel_rfl) ⟨_, _, rfl, ⟨(some ⟨w1.heap.size, 0, none⟩), (Int.toNat k_1), rfl, hs.ro 0 rfl⟩, rfl⟩ rfl ?_
    clear hf; clear a; intro w3 a ho hx hf
    replace hs : Sep w F R w3 F2 [.row 54 ty53 (.slice (some ⟨w2.heap.size, 0, none⟩) ([([97, 98, 99], 0, (List.replicate (Int.toNat k_1) (0 : Int)))] : List ((List UInt8) × Int × (List Int))).length ([([97, 98, 99], 0, (List.replicate (Int.toNat k_1) (0 : Int)))] : List ((List UInt8) × Int × (List Int))).length) ([([97, 98, 99], 0, (List.replicate (Int.toNat k_1) (0 : Int)))] : List ((List UInt8) × Int × (List Int))), .ro (tI .u8) (.slice (some ⟨w1.heap.size, 0, none⟩) (List.replicate (Int.toNat k_1) (0 : Int)).length (Int.toNat k_1)) (List.replicate (Int.toNat k_1) (0 : Int))] := hs.newRow ho hx
    clear ho hx
    replace hs : Sep w F R w3 F2 [.row 54 ty53 (.slice (some ⟨w2.heap.size, 0, none⟩) ([([97, 98, 99], 0, (List.replicate (Int.toNat k_1) (0 : Int)))] : List ((List UInt8) × Int × (List Int))).length ([([97, 98, 99], 0, (List.replicate (Int.toNat k_1) (0 : Int)))] : List ((List UInt8) × Int × (List Int))).length) ([([97, 98, 99], 0, (List.replicate (Int.toNat k_1) (0 : Int)))] : List ((List UInt8) × Int × (List Int)))] := hs.sel [0] rfl rfl
    replace hf := Fr.keep (ks := [4, 22]) (L' := [(4, .int .i64 k_1), (22, .slice (some ⟨w2.heap.size, 0, none⟩) ([([97, 98, 99], 0, (List.replicate (Int.toNat k_1) (0 : Int)))] : List ((List UInt8) × Int × (List Int))).length ([([97, 98, 99], 0, (List.replicate (Int.toNat k_1) (0 : Int)))] : List ((List UInt8) × Int × (List Int))).length)]) hf (by kernel_rfl)
    have hT := of_bd hS; clear hS; obtain ⟨z2, hz2, hS⟩ := hT
    refine clV ent25 (vs := [.slice (some ⟨w2.heap.size, 0, none⟩) ([([97, 98, 99], 0, (List.replicate (Int.toNat k_1) (0 : Int)))] : List ((List UInt8) × Int × (List Int))).length ([([97, 98, 99], 0, (List.replicate (Int.toNat k_1) (0 : Int)))] : List ((List UInt8) × Int × (List Int))).length]) (caps := []) hf (by kernel_rfl) (by kernel_rfl) (by kernel_rfl) (by kernel_rfl) (notes_Put_ok (p_l := ([([97, 98, 99], 0, (List.replicate (Int.toNat k_1) (0 : Int)))] : List ((List UInt8) × Int × (List Int)))) (hs.lend [0] [] rfl rfl rfl rfl rfl) hz2) ?_
    clear hf; clear a; intro v w4 a hT hf; obtain ⟨ao1, cp1, F3, rfl, hr⟩ := hT
    replace hs : Sep w F R w4 F2 [.row 5 (tI .u8) (.slice ao1 z2.1.length cp1) z2.1, .row 54 ty53 (.slice (some ⟨w2.heap.size, 0, none⟩) ([([97, 98, 99], 0, (List.replicate (Int.toNat k_1) (0 : Int)))] : List ((List UInt8) × Int × (List Int))).length ([([97, 98, 99], 0, (List.replicate (Int.toNat k_1) (0 : Int)))] : List ((List UInt8) × Int × (List Int))).length) ([([97, 98, 99], 0, (List.replicate (Int.toNat k_1) (0 : Int)))] : List ((List UInt8) × Int × (List Int)))] := hs.backL [0] [] [0] rfl rfl rfl rfl rfl rfl hr ⟨(flat_I .u8), trivial⟩
    clear hr
    replace hs : Sep w F R w4 F2 [.row 5 (tI .u8) (.slice ao1 z2.1.length cp1) z2.1] := hs.sel [0] rfl rfl
    replace hf := Fr.keep (ks := [4, 23]) (L' := [(4, .int .i64 k_1), (23, .tuple #[.slice ao1 z2.1.length cp1, .int .i64 z2.2])]) hf (by kernel_rfl)
    refine st tbOk 5 [4, 5, 6] (L' := [(4, .int .i64 k_1), (5, .slice ao1 z2.1.length cp1), (6, .int .i64 z2.2)]) hf (by kernel_rfl) ?_
    clear hf; clear a; intro a hf
    refine wpList_nil ?_
    refine sq ?_
    refine reg ?_
    have hT := of_let hS; clear hS; obtain ⟨size_1, hl2, hS⟩ := hT
    refine st tbOk 6 [4, 5, 6, 7] (L' := [(4, .int .i64 k_1), (5, .slice ao1 z2.1.length cp1), (6, .int .i64 z2.2), (7, .int .i64 size_1)]) hf (by subst hl2; kernel_rfl) ?_
    clear hf; clear a; intro a hf
    refine wpList_nil ?_
    refine sq ?_
    refine sq ?_
    refine reg ?_
    refine st tbOk 2 [4, 5, 6, 7, 32] (L' := [(4, .int .i64 k_1), (5, .slice ao1 z2.1.length cp1), (6, .int .i64 z2.2), (7, .int .i64 size_1), (32, .bool (decide (size_1 > 65536)))]) hf (by kernel_rfl) ?_
    clear hf; clear a; intro a hf
    refine wpList_nil ?_
    refine cnd (b := decide (size_1 > 65536)) hf (by kernel_rfl) (fun hb2 => ?_) (fun hb2 => ?_)
    · replace hS := of_t hb2 hS
      refine sq ?_
      refine ctj (fun (s1 : Bool) (a : Act) (w' : World) => ∃ (F4 : SH), Sep w F R w' F4 [] ∧ Fr 80 [(2, .bool s1)] a) hS ?_ ?_
      · clear hS hf hs; clear a; intro s1 a w5 hM hS
        obtain ⟨F4, hs, hf⟩ := hM
        have hr := Option.some.inj hS; subst hr
        refine wp_ret ?_
        exact ret_ok hf (vs := [.bool s1]) (by kernel_rfl) ⟨_, rfl, hs.sel [] rfl rfl⟩
      · clear hS; intro KK1 k1 hK1 hS
        refine reg ?_
        refine st tbOk 3 [5, 35] (L' := [(5, .slice ao1 z2.1.length cp1), (35, .bool (z2.2 == 13))]) hf (by kernel_rfl) ?_
        clear hf; clear a; intro a hf
        rcases Bool.eq_false_or_eq_true (z2.2 == 13) with hb3 | hb3
        · replace hS := of_t hb3 hS
          replace hf := Fr.cast (L' := [(5, .slice ao1 z2.1.length cp1), (35, .bool true)]) hf (by rw [hb3])
          refine st tbOk 5 [2] (L' := [(2, .bool (((z2.1.length : Nat) : Int) == 0))]) hf (by kernel_rfl) ?_
          clear hf; clear a; intro a hf
          refine wpList_nil ?_
          exact hK1 (((z2.1.length : Nat) : Int) == 0) _ _ ⟨_, hs.sel [] rfl rfl, hf.keep (ks := [2]) (by kernel_rfl)⟩ hS
        · replace hS := of_f hb3 hS
          replace hf := Fr.cast (L' := [(5, .slice ao1 z2.1.length cp1), (35, .bool false)]) hf (by rw [hb3])
          refine st tbOk 5 [2] (L' := [(2, .bool false)]) hf (by kernel_rfl) ?_
          clear hf; clear a; intro a hf
          refine wpList_nil ?_
          exact hK1 false _ _ ⟨_, hs.sel [] rfl rfl, hf.keep (ks := [2]) (by kernel_rfl)⟩ hS
    · replace hS := of_f hb2 hS
      refine wp_skip ?_
      refine sq ?_
      refine reg ?_
      refine st tbOk 1 [4, 5, 6, 7, 41] (L' := [(4, .int .i64 k_1), (5, .slice ao1 z2.1.length cp1), (6, .int .i64 z2.2), (7, .int .i64 size_1), (41, .slice ao1 z2.1.length cp1)]) hf (by kernel_rfl) ?_
      clear hf; clear a; intro a hf
      have hT := of_bd hS; clear hS; obtain ⟨z3, hz3, hS⟩ := hT
      obtain ⟨F5, _, hs⟩ := hs.frz 0 rfl
      replace hs : Sep w F R w4 F5 [.ro (tI .u8) (.slice ao1 z2.1.length cp1) z2.1] := hs
      refine clV ent28 (vs := [.slice ao1 z2.1.length cp1]) (caps := []) hf (by kernel_rfl) (by kernel_rfl) (by kernel_rfl) (by kernel_rfl) (notes_Get_ok (b := z2.1) (hs.enter [0] rfl rfl) hz3) ?_
      clear hf; clear a; intro v w6 a hT hf; obtain ⟨ao2, cp2, F6, rfl, hr⟩ := hT
      replace hs : Sep w F R w6 F6 [.row 54 ty53 (.slice ao2 z3.1.length cp2) z3.1, .ro (tI .u8) (.slice ao1 z2.1.length cp1) z2.1] := hs.back [0] [0] rfl rfl rfl rfl hr
      clear hr
      replace hf := Fr.keep (ks := [4, 5, 6, 7, 42]) (L' := [(4, .int .i64 k_1), (5, .slice ao1 z2.1.length cp1), (6, .int .i64 z2.2), (7, .int .i64 size_1), (42, .tuple #[.slice ao2 z3.1.length cp2, .int .i64 z3.2])]) hf (by kernel_rfl)
      refine st tbOk 5 [4, 5, 6, 7, 8, 9] (L' := [(4, .int .i64 k_1), (5, .slice ao1 z2.1.length cp1), (6, .int .i64 z2.2), (7, .int .i64 size_1), (8, .slice ao2 z3.1.length cp2), (9, .int .i64 z3.2)]) hf (by kernel_rfl) ?_
      clear hf; clear a; intro a hf
      refine wpList_nil ?_
      refine sq ?_
      refine reg ?_
      have hT := of_gd hS; clear hS; obtain ⟨hc2, hS⟩ := hT
      refine mkR tbOk u22 i5 rfl rfl (t := (tI .u8)) rfl rfl (0 : Int) hs.le rfl (k := .i64) (k' := .i64) (n := 65537) hc2 hf (by kernel_rfl) (by kernel_rfl) (by kernel_rfl) (by kernel_rfl) ?_
      clear hf; clear a; intro w7 a ho hx hf
      replace hs : Sep w F R w7 F6 [.row 5 (tI .u8) (.slice (some ⟨w6.heap.size, 0, none⟩) (List.replicate (Int.toNat 65537) (0 : Int)).length (Int.toNat 65537)) (List.replicate (Int.toNat 65537) (0 : Int)), .row 54 ty53 (.slice ao2 z3.1.length cp2) z3.1, .ro (tI .u8) (.slice ao1 z2.1.length cp1) z2.1] := hs.newRow ho hx
      clear ho hx
      replace hf := Fr.keep (ks := [4, 5, 6, 7, 8, 9, 46]) (L' := [(4, .int .i64 k_1), (5, .slice ao1 z2.1.length cp1), (6, .int .i64 z2.2), (7, .int .i64 size_1), (8, .slice ao2 z3.1.length cp2), (9, .int .i64 z3.2), (46, .slice (some ⟨w6.heap.size, 0, none⟩) (List.replicate (Int.toNat 65537) (0 : Int)).length (Int.toNat 65537))]) hf (by kernel_rfl)
      have hT := of_bd hS; clear hS; obtain ⟨z4, hz4, hS⟩ := hT
      obtain ⟨F7, _, hs⟩ := hs.frz 0 rfl
      replace hs : Sep w F R w7 F7 [.ro (tI .u8) (.slice (some ⟨w6.heap.size, 0, none⟩) (List.replicate (Int.toNat 65537) (0 : Int)).length (Int.toNat 65537)) (List.replicate (Int.toNat 65537) (0 : Int)), .row 54 ty53 (.slice ao2 z3.1.length cp2) z3.1, .ro (tI .u8) (.slice ao1 z2.1.length cp1) z2.1] := hs
      refine clV ent28 (vs := [.slice (some ⟨w6.heap.size, 0, none⟩) (List.replicate (Int.toNat 65537) (0 : Int)).length (Int.toNat 65537)]) (caps := []) hf (by kernel_rfl) (by kernel_rfl) (by kernel_rfl) (by kernel_rfl) (notes_Get_ok (b := (List.replicate (Int.toNat 65537) (0 : Int))) (hs.enter [0] rfl rfl) hz4) ?_
      clear hf; clear a; intro v w8 a hT hf; obtain ⟨ao3, cp3, F8, rfl, hr⟩ := hT
      replace hs : Sep w F R w8 F8 [.row 54 ty53 (.slice ao3 z4.1.length cp3) z4.1, .ro (tI .u8) (.slice (some ⟨w6.heap.size, 0, none⟩) (List.replicate (Int.toNat 65537) (0 : Int)).length (Int.toNat 65537)) (List.replicate (Int.toNat 65537) (0 : Int)), .row 54 ty53 (.slice ao2 z3.1.length cp2) z3.1, .ro (tI .u8) (.slice ao1 z2.1.length cp1) z2.1] := hs.back [0] [0, 1, 2] rfl rfl rfl rfl hr
      clear hr
      replace hs : Sep w F R w8 F8 [.row 54 ty53 (.slice ao3 z4.1.length cp3) z4.1, .row 54 ty53 (.slice ao2 z3.1.length cp2) z3.1, .ro (tI .u8) (.slice ao1 z2.1.length cp1) z2.1] := hs.sel [0, 2, 3] rfl rfl
      replace hf := Fr.keep (ks := [4, 5, 6, 7, 8, 9, 47]) (L' := [(4, .int .i64 k_1), (5, .slice ao1 z2.1.length cp1), (6, .int .i64 z2.2), (7, .int .i64 size_1), (8, .slice ao2 z3.1.length cp2), (9, .int .i64 z3.2), (47, .tuple #[.slice ao3 z4.1.length cp3, .int .i64 z4.2])]) hf (by kernel_rfl)
      refine st tbOk 5 [4, 5, 6, 7, 8, 9, 11] (L' := [(4, .int .i64 k_1), (5, .slice ao1 z2.1.length cp1), (6, .int .i64 z2.2), (7, .int .i64 size_1), (8, .slice ao2 z3.1.length cp2), (9, .int .i64 z3.2), (11, .int .i64 z4.2)]) hf (by kernel_rfl) ?_
      clear hf; clear a; intro a hf
      refine wpList_nil ?_
      refine sq ?_
      refine ctj (fun (s2 : Bool) (a : Act) (w' : World) => ∃ (F9 : SH), Sep w F R w' F9 [] ∧ Fr 80 [(2, .bool s2)] a) hS ?_ ?_
      · clear hS hf hs; clear a; intro s2 a w9 hM hS
        obtain ⟨F9, hs, hf⟩ := hM
        have hr := Option.some.inj hS; subst hr
        refine wp_ret ?_
        exact ret_ok hf (vs := [.bool s2]) (by kernel_rfl) ⟨_, rfl, hs.sel [] rfl rfl⟩
      · clear hS; intro KK2 k2 hK2 hS
        refine reg ?_
        refine st tbOk 3 [4, 5, 7, 8, 9, 11, 52] (L' := [(4, .int .i64 k_1), (5, .slice ao1 z2.1.length cp1), (7, .int .i64 size_1), (8, .slice ao2 z3.1.length cp2), (9, .int .i64 z3.2), (11, .int .i64 z4.2), (52, .bool (z2.2 == 0))]) hf (by kernel_rfl) ?_
        clear hf; clear a; intro a hf
        rcases Bool.eq_false_or_eq_true (z2.2 == 0) with hb4 | hb4
        · replace hS := of_t hb4 hS
          replace hf := Fr.cast (L' := [(4, .int .i64 k_1), (5, .slice ao1 z2.1.length cp1), (7, .int .i64 size_1), (8, .slice ao2 z3.1.length cp2), (9, .int .i64 z3.2), (11, .int .i64 z4.2), (52, .bool true)]) hf (by rw [hb4])
          refine st tbOk 6 [4, 8, 9, 11, 58] (L' := [(4, .int .i64 k_1), (8, .slice ao2 z3.1.length cp2), (9, .int .i64 z3.2), (11, .int .i64 z4.2), (58, .bool (((z2.1.length : Nat) : Int) == size_1))]) hf (by kernel_rfl) ?_
          clear hf; clear a; intro a hf
          rcases Bool.eq_false_or_eq_true (((z2.1.length : Nat) : Int) == size_1) with hb5 | hb5
          · replace hS := of_t hb5 hS
            replace hf := Fr.cast (L' := [(4, .int .i64 k_1), (8, .slice ao2 z3.1.length cp2), (9, .int .i64 z3.2), (11, .int .i64 z4.2), (58, .bool true)]) hf (by rw [hb5])
            refine st tbOk 4 [4, 8, 11, 62] (L' := [(4, .int .i64 k_1), (8, .slice ao2 z3.1.length cp2), (11, .int .i64 z4.2), (62, .bool (z3.2 == 0))]) hf (by kernel_rfl) ?_
            clear hf; clear a; intro a hf
            rcases Bool.eq_false_or_eq_true (z3.2 == 0) with hb6 | hb6
            · replace hS := of_t hb6 hS
              replace hf := Fr.cast (L' := [(4, .int .i64 k_1), (8, .slice ao2 z3.1.length cp2), (11, .int .i64 z4.2), (62, .bool true)]) hf (by rw [hb6])
              refine st tbOk 5 [4, 8, 11, 67] (L' := [(4, .int .i64 k_1), (8, .slice ao2 z3.1.length cp2), (11, .int .i64 z4.2), (67, .bool (((z3.1.length : Nat) : Int) == 1))]) hf (by kernel_rfl) ?_
              clear hf; clear a; intro a hf
              rcases Bool.eq_false_or_eq_true (((z3.1.length : Nat) : Int) == 1) with hb7 | hb7
              · replace hS := of_t hb7 hS
                replace hf := Fr.cast (L' := [(4, .int .i64 k_1), (8, .slice ao2 z3.1.length cp2), (11, .int .i64 z4.2), (67, .bool true)]) hf (by rw [hb7])
                refine st tbOk 1 [4, 11, 67, 68] (L' := [(4, .int .i64 k_1), (11, .int .i64 z4.2), (67, .bool true), (68, .slice ao2 z3.1.length cp2)]) hf (by kernel_rfl) ?_
                clear hf; clear a; intro a hf
                have hT := of_gd hS; clear hS; obtain ⟨hc3, hS⟩ := hT
                refine ixR tbOk u37 i54 rfl rfl (hs.raW 1 rfl) (k := .i64) (n := 0) hc3 hf (by kernel_rfl) (by kernel_rfl) (by kernel_rfl) (by kernel_rfl) ?_
                clear hf; clear a; intro pb1 po1 c1 a hp1 hr1 hf
                obtain ⟨ao4, cp4, rfl, hr2⟩ := hr1
                replace hs : Sep w F R w8 F8 [.ro (tI .u8) (.slice ao4 ((gt z3.1 0).2.2).length cp4) ((gt z3.1 0).2.2), .row 54 ty53 (.slice ao3 z4.1.length cp3) z4.1, .row 54 ty53 (.slice ao2 z3.1.length cp2) z3.1, .ro (tI .u8) (.slice ao1 z2.1.length cp1) z2.1] := hs.addRo hr2
                replace hs : Sep w F R w8 F8 [.ro (tI .u8) (.slice ao4 ((gt z3.1 0).2.2).length cp4) ((gt z3.1 0).2.2)] := hs.sel [0] rfl rfl
                replace hf := Fr.keep (ks := [4, 11, 67, 69]) (L' := [(4, .int .i64 k_1), (11, .int .i64 z4.2), (67, .bool true), (69, .pointer (some ⟨pb1, po1, none⟩))]) hf (by kernel_rfl)
                refine st tbOk 1 [4, 11, 67, 70] (L' := [(4, .int .i64 k_1), (11, .int .i64 z4.2), (67, .bool true), (70, .pointer (some ⟨pb1, po1 + 2, none⟩))]) hf (by kernel_rfl) ?_
                clear hf; clear a; intro a hf
                refine ldC tbOk (T := 22) hp1 (LeH.refl _) 2 (.slice ao4 ((gt z3.1 0).2.2).length cp4) hf (by kernel_rfl) (by kernel_rfl) (by kernel_rfl) (by kernel_rfl) ?_
                clear hf; clear a; intro a hf
                replace hf := Fr.keep (ks := [4, 11, 67, 71]) (L' := [(4, .int .i64 k_1), (11, .int .i64 z4.2), (67, .bool true), (71, .slice ao4 ((gt z3.1 0).2.2).length cp4)]) hf (by kernel_rfl)
                refine st tbOk 5 [11, 76] (L' := [(11, .int .i64 z4.2), (76, .bool (((((gt z3.1 0).2.2).length : Nat) : Int) == k_1))]) hf (by kernel_rfl) ?_
                clear hf; clear a; intro a hf
                rcases Bool.eq_false_or_eq_true (((((gt z3.1 0).2.2).length : Nat) : Int) == k_1) with hb8 | hb8
                · replace hS := of_t hb8 hS
                  replace hf := Fr.cast (L' := [(11, .int .i64 z4.2), (76, .bool true)]) hf (by rw [hb8])
                  refine st tbOk 4 [2] (L' := [(2, .bool (z4.2 == 13))]) hf (by kernel_rfl) ?_
                  clear hf; clear a; intro a hf
                  refine wpList_nil ?_
                  exact hK2 (z4.2 == 13) _ _ ⟨_, hs.sel [] rfl rfl, hf.keep (ks := [2]) (by kernel_rfl)⟩ hS
                · replace hS := of_f hb8 hS
                  replace hf := Fr.cast (L' := [(11, .int .i64 z4.2), (76, .bool false)]) hf (by rw [hb8])
                  refine st tbOk 4 [2] (L' := [(2, .bool false)]) hf (by kernel_rfl) ?_
                  clear hf; clear a; intro a hf
                  refine wpList_nil ?_
                  exact hK2 false _ _ ⟨_, hs.sel [] rfl rfl, hf.keep (ks := [2]) (by kernel_rfl)⟩ hS
              · replace hS := of_f hb7 hS
                replace hf := Fr.cast (L' := [(4, .int .i64 k_1), (8, .slice ao2 z3.1.length cp2), (11, .int .i64 z4.2), (67, .bool false)]) hf (by rw [hb7])
                refine st tbOk 13 [2] (L' := [(2, .bool false)]) hf (by kernel_rfl) ?_
                clear hf; clear a; intro a hf
                refine wpList_nil ?_
                exact hK2 false _ _ ⟨_, hs.sel [] rfl rfl, hf.keep (ks := [2]) (by kernel_rfl)⟩ hS
            · replace hS := of_f hb6 hS
              replace hf := Fr.cast (L' := [(4, .int .i64 k_1), (8, .slice ao2 z3.1.length cp2), (11, .int .i64 z4.2), (62, .bool false)]) hf (by rw [hb6])
              refine st tbOk 18 [2] (L' := [(2, .bool false)]) hf (by kernel_rfl) ?_
              clear hf; clear a; intro a hf
              refine wpList_nil ?_
              exact hK2 false _ _ ⟨_, hs.sel [] rfl rfl, hf.keep (ks := [2]) (by kernel_rfl)⟩ hS
          · replace hS := of_f hb5 hS
            replace hf := Fr.cast (L' := [(4, .int .i64 k_1), (8, .slice ao2 z3.1.length cp2), (9, .int .i64 z3.2), (11, .int .i64 z4.2), (58, .bool false)]) hf (by rw [hb5])
            refine st tbOk 22 [2] (L' := [(2, .bool false)]) hf (by kernel_rfl) ?_
            clear hf; clear a; intro a hf
            refine wpList_nil ?_
            exact hK2 false _ _ ⟨_, hs.sel [] rfl rfl, hf.keep (ks := [2]) (by kernel_rfl)⟩ hS
        · replace hS := of_f hb4 hS
          replace hf := Fr.cast (L' := [(4, .int .i64 k_1), (5, .slice ao1 z2.1.length cp1), (7, .int .i64 size_1), (8, .slice ao2 z3.1.length cp2), (9, .int .i64 z3.2), (11, .int .i64 z4.2), (52, .bool false)]) hf (by rw [hb4])
          refine st tbOk 28 [2] (L' := [(2, .bool false)]) hf (by kernel_rfl) ?_
          clear hf; clear a; intro a hf
          refine wpList_nil ?_
          exact hK2 false _ _ ⟨_, hs.sel [] rfl rfl, hf.keep (ks := [2]) (by kernel_rfl)⟩ hS

end Dm
