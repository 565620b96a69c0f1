/-
  The walk of the law OctetsEnds; printed by a program of this repo. No condition.
-/
import Derived.Test.YtdigooncdjnfbaaW
namespace Dm
open Go Go.RowKit Go.Proofs

theorem law01_OctetsEnds_ok {w : World} {n : Int} {p_which : Int}  {r : Bool} (hS : law01_OctetsEnds n p_which = some r) :
    Calls Try.prog 10 #[.int .i64 n, .int .i64 p_which] w (Gives (fun u w' => u = .bool r ∧ Ext w w')) := by
  unfold law01_OctetsEnds at hS
  refine fn_ok (vs := [.int .i64 n, .int .i64 p_which]) Try.func10 rfl 111 Try.ntmps10 (Nat.le_of_ble_eq_true rfl) ?_
  intro a hf
  replace hf := Fr.cast (L' := [(0, .int .i64 n), (1, .int .i64 p_which)]) hf (by kernel_rfl)
  have hE := Ext.rfl' w
  refine sq ?_
  refine reg ?_
  refine st tbOk 1 [0, 1] (L' := [(0, .int .i64 n), (1, .int .i64 p_which)]) hf (by kernel_rfl) ?_
  clear hf; clear a; intro a hf
  refine wpList_nil ?_
  refine sq ?_
  refine reg ?_
  have hT := of_bd hS; clear hS; obtain ⟨z1, hz1, hS⟩ := hT
  refine cl ent11 (vs := []) hf (by kernel_rfl) (by kernel_rfl) (by kernel_rfl) (law01_awake_ok  hz1) ?_
  clear hf; clear a; intro v w1 a hT hf; obtain ⟨rfl, hx⟩ := hT
  replace hE := hE.tr hx
  replace hf := Fr.keep (ks := [0, 1, 21]) (L' := [(0, .int .i64 n), (1, .int .i64 p_which), (21, .bool z1)]) hf (by kernel_rfl)
  refine st tbOk 1 [0, 1, 5] (L' := [(0, .int .i64 n), (1, .int .i64 p_which), (5, .bool z1)]) hf (by kernel_rfl) ?_
  clear hf; clear a; intro a hf
  refine wpList_nil ?_
  refine sq ?_
  refine sq ?_
  refine reg ?_
  refine st tbOk 2 [0, 1, 23] (L' := [(0, .int .i64 n), (1, .int .i64 p_which), (23, .bool (!z1))]) hf (by kernel_rfl) ?_
  clear hf; clear a; intro a hf
  refine wpList_nil ?_
  refine cnd (b := !z1) hf (by kernel_rfl) (fun hb1 => ?_) (fun hb1 => ?_)
  · replace hS := of_t hb1 hS
    refine sq ?_
    refine reg ?_
    refine st tbOk 1 [4] (L' := [(4, .bool false)]) hf (by kernel_rfl) ?_
    clear hf; clear a; intro a hf
    refine wpList_nil ?_
    have hr := Option.some.inj hS; subst hr
    refine wp_ret ?_
    exact ret_ok hf (vs := [.bool false]) (by kernel_rfl) ⟨rfl, hE⟩
  · replace hS := of_f hb1 hS
    refine wp_skip ?_
    refine sq ?_
    refine reg ?_
    refine bs tbOk u37 i3 rfl (t := (tI .i64)) (vs := [(0, .int .i64 1), (1, .int .i64 2), (2, .int .i64 4), (3, .int .i64 8)]) (cells := #[.int .i64 1, .int .i64 2, .int .i64 4, .int .i64 8]) ([1, 2, 4, 8] : List Int) hf (by kernel_rfl) (by kernel_rfl) (by kernel_rfl) rfl (by kernel_rfl) (reps_flat _) rfl ?_
    clear hf; clear a; intro w2 a ho1 hx hz hf
    replace ho1 := ho1.base hE.size
    replace hE := hE.tr hx
    replace hf := Fr.keep (ks := [0, 1, 24]) (L' := [(0, .int .i64 n), (1, .int .i64 p_which), (24, .slice (some ⟨w1.heap.size, 0, none⟩) ([1, 2, 4, 8] : List Int).length ([1, 2, 4, 8] : List Int).length)]) hf (by kernel_rfl)
    refine st tbOk 2 [0, 24, 26] (L' := [(0, .int .i64 n), (24, .slice (some ⟨w1.heap.size, 0, none⟩) ([1, 2, 4, 8] : List Int).length ([1, 2, 4, 8] : List Int).length), (26, .int .i64 (band .i64 p_which 3))]) hf (by kernel_rfl) ?_
    clear hf; clear a; intro a hf
    have hT := of_gd hS; clear hS; obtain ⟨hc1, hS⟩ := hT
    refine ix tbOk u37 i3 rfl rfl (ho1.ro (mt_le _)) (k := .i64) (n := band .i64 p_which 3) hc1 hf (by kernel_rfl) (by kernel_rfl) (by kernel_rfl) (by kernel_rfl) ?_
    clear hf; clear a; intro p1 c1 a hp1 hr1 hf
    obtain rfl : c1 = [.int .i64 (gt ([1, 2, 4, 8] : List Int) (band .i64 p_which 3))] := hr1
    replace hf := Fr.keep (ks := [0, 27]) (L' := [(0, .int .i64 n), (27, .pointer (some p1))]) hf (by kernel_rfl)
    refine ld tbOk u3 rfl hp1 (LeH.refl _) hf (by kernel_rfl) (by kernel_rfl) (by kernel_rfl) ?_
    clear hf; clear a; intro a hf
    replace hf := Fr.keep (ks := [0, 28]) (L' := [(0, .int .i64 n), (28, .int .i64 (gt ([1, 2, 4, 8] : List Int) (band .i64 p_which 3)))]) hf (by kernel_rfl)
    have hT := of_let hS; clear hS; obtain ⟨k_1, hl1, hS⟩ := hT
    refine st tbOk 1 [0, 6] (L' := [(0, .int .i64 n), (6, .int .i64 k_1)]) hf (by subst hl1; kernel_rfl) ?_
    clear hf; clear a; intro a hf
    refine wpList_nil ?_
    refine sq ?_
    refine reg ?_
    refine st tbOk 4 [6, 32] (L' := [(6, .int .i64 k_1), (32, .int .i64 (IntKind.i64.wrap (k_1 + (band .i64 n 255))))]) hf (by kernel_rfl) ?_
    clear hf; clear a; intro a hf
    have hT := of_gd hS; clear hS; obtain ⟨hc2, hS⟩ := hT
    refine mk tbOk u22 i5 rfl (t := (tI .u8)) rfl (0 : Int) rfl rfl (k := .i64) (k' := .i64) (n := IntKind.i64.wrap (k_1 + (band .i64 n 255))) hc2 hf (by kernel_rfl) (by kernel_rfl) (by kernel_rfl) (by kernel_rfl) ?_
    clear hf; clear a; intro w3 a ho2 hx hz hf
    have dj1 := Dj.new ho1 ho2
    replace ho2 := ho2.base hE.size
    replace hE := hE.tr hx
    replace ho1 := ho1.ext hx
    replace hf := Fr.keep (ks := [6, 33]) (L' := [(6, .int .i64 k_1), (33, .slice (some ⟨w2.heap.size, 0, none⟩) (List.replicate (IntKind.i64.wrap (k_1 + (band .i64 n 255))).toNat (0 : Int)).length (IntKind.i64.wrap (k_1 + (band .i64 n 255))).toNat)]) hf (by kernel_rfl)
    have hT := of_let hS; clear hS; obtain ⟨b_1, hl2, hS⟩ := hT
    rw [← hl2] at ho2
    try rw [← hl2] at dj1
    refine st tbOk 1 [6, 7] (L' := [(6, .int .i64 k_1), (7, .slice (some ⟨w2.heap.size, 0, none⟩) b_1.length (IntKind.i64.wrap (k_1 + (band .i64 n 255))).toNat)]) hf (by subst hl2; kernel_rfl) ?_
    clear hf; clear a; intro a hf
    refine wpList_nil ?_
    refine sq ?_
    refine reg ?_
    have hT := of_let hS; clear hS; obtain ⟨at_1, hl3, hS⟩ := hT
    refine st tbOk 6 [6, 7, 8] (L' := [(6, .int .i64 k_1), (7, .slice (some ⟨w2.heap.size, 0, none⟩) b_1.length (IntKind.i64.wrap (k_1 + (band .i64 n 255))).toNat), (8, .int .u64 at_1)]) hf (by subst hl3; kernel_rfl) ?_
    clear hf; clear a; intro a hf
    refine wpList_nil ?_
    refine sq ?_
    refine reg ?_
    refine st tbOk 3 [6, 7, 8, 40, 41, 42] (L' := [(6, .int .i64 k_1), (7, .slice (some ⟨w2.heap.size, 0, none⟩) b_1.length (IntKind.i64.wrap (k_1 + (band .i64 n 255))).toNat), (8, .int .u64 at_1), (40, .slice (some ⟨w2.heap.size, 0, none⟩) b_1.length (IntKind.i64.wrap (k_1 + (band .i64 n 255))).toNat), (41, .int .u64 at_1), (42, .int .i64 k_1)]) hf (by kernel_rfl) ?_
    clear hf; clear a; intro a hf
    have hT := of_bd hS; clear hS; obtain ⟨z2, hz2, hS⟩ := hT
    refine cl ent12 (vs := [.slice (some ⟨w2.heap.size, 0, none⟩) b_1.length (IntKind.i64.wrap (k_1 + (band .i64 n 255))).toNat, .int .u64 at_1, .int .i64 k_1]) hf (by kernel_rfl) (by kernel_rfl) (by kernel_rfl) (octets_Get_ok (ho2.ro (mt_le _)) hz2) ?_
    clear hf; clear a; intro v w4 a hT hf; obtain ⟨rfl, hx⟩ := hT
    replace hE := hE.tr hx
    replace ho1 := ho1.ext hx
    replace ho2 := ho2.ext hx
    replace hf := Fr.keep (ks := [6, 7, 8, 43]) (L' := [(6, .int .i64 k_1), (7, .slice (some ⟨w2.heap.size, 0, none⟩) b_1.length (IntKind.i64.wrap (k_1 + (band .i64 n 255))).toNat), (8, .int .u64 at_1), (43, .tuple #[.int .u64 z2.1, .int .i64 z2.2])]) hf (by kernel_rfl)
    refine st tbOk 5 [6, 7, 8, 10] (L' := [(6, .int .i64 k_1), (7, .slice (some ⟨w2.heap.size, 0, none⟩) b_1.length (IntKind.i64.wrap (k_1 + (band .i64 n 255))).toNat), (8, .int .u64 at_1), (10, .int .i64 z2.2)]) hf (by kernel_rfl) ?_
    clear hf; clear a; intro a hf
    refine wpList_nil ?_
    refine sq ?_
    refine reg ?_
    refine st tbOk 4 [7, 10, 47, 49, 50] (L' := [(7, .slice (some ⟨w2.heap.size, 0, none⟩) b_1.length (IntKind.i64.wrap (k_1 + (band .i64 n 255))).toNat), (10, .int .i64 z2.2), (47, .slice (some ⟨w2.heap.size, 0, none⟩) b_1.length (IntKind.i64.wrap (k_1 + (band .i64 n 255))).toNat), (49, .int .u64 (IntKind.u64.wrap (at_1 + 1))), (50, .int .i64 k_1)]) hf (by kernel_rfl) ?_
    clear hf; clear a; intro a hf
    have hT := of_bd hS; clear hS; obtain ⟨z3, hz3, hS⟩ := hT
    refine cl ent12 (vs := [.slice (some ⟨w2.heap.size, 0, none⟩) b_1.length (IntKind.i64.wrap (k_1 + (band .i64 n 255))).toNat, .int .u64 (IntKind.u64.wrap (at_1 + 1)), .int .i64 k_1]) hf (by kernel_rfl) (by kernel_rfl) (by kernel_rfl) (octets_Get_ok (ho2.ro (mt_le _)) hz3) ?_
    clear hf; clear a; intro v w5 a hT hf; obtain ⟨rfl, hx⟩ := hT
    replace hE := hE.tr hx
    replace ho1 := ho1.ext hx
    replace ho2 := ho2.ext hx
    replace hf := Fr.keep (ks := [7, 10, 51]) (L' := [(7, .slice (some ⟨w2.heap.size, 0, none⟩) b_1.length (IntKind.i64.wrap (k_1 + (band .i64 n 255))).toNat), (10, .int .i64 z2.2), (51, .tuple #[.int .u64 z3.1, .int .i64 z3.2])]) hf (by kernel_rfl)
    refine st tbOk 5 [7, 10, 12] (L' := [(7, .slice (some ⟨w2.heap.size, 0, none⟩) b_1.length (IntKind.i64.wrap (k_1 + (band .i64 n 255))).toNat), (10, .int .i64 z2.2), (12, .int .i64 z3.2)]) hf (by kernel_rfl) ?_
    clear hf; clear a; intro a hf
    refine wpList_nil ?_
    refine sq ?_
    refine reg ?_
    refine st tbOk 4 [7, 10, 12, 55, 58] (L' := [(7, .slice (some ⟨w2.heap.size, 0, none⟩) b_1.length (IntKind.i64.wrap (k_1 + (band .i64 n 255))).toNat), (10, .int .i64 z2.2), (12, .int .i64 z3.2), (55, .slice (some ⟨w2.heap.size, 0, none⟩) b_1.length (IntKind.i64.wrap (k_1 + (band .i64 n 255))).toNat), (58, .int .u64 (IntKind.u64.wrap ((b_1.length : Nat) : Int)))]) hf (by kernel_rfl) ?_
    clear hf; clear a; intro a hf
    have hT := of_bd hS; clear hS; obtain ⟨z4, hz4, hS⟩ := hT
    refine cl ent16 (vs := [.slice (some ⟨w2.heap.size, 0, none⟩) b_1.length (IntKind.i64.wrap (k_1 + (band .i64 n 255))).toNat, .int .u64 (IntKind.u64.wrap ((b_1.length : Nat) : Int)), .int .u64 0]) hf (by kernel_rfl) (by kernel_rfl) (by kernel_rfl) (octets_Cut_ok (ho2.ro (mt_le _)) hz4) ?_
    clear hf; clear a; intro v w6 a hT hf; obtain ⟨ao1, cp1, rfl, hx, ho3⟩ := hT
    have dj2 := Dj.new ho1 ho3
    have dj3 := Dj.new ho2 ho3
    replace ho3 := ho3.base hE.size
    replace hE := hE.tr hx
    replace ho1 := ho1.ext hx
    replace ho2 := ho2.ext hx
    replace hf := Fr.keep (ks := [7, 10, 12, 59]) (L' := [(7, .slice (some ⟨w2.heap.size, 0, none⟩) b_1.length (IntKind.i64.wrap (k_1 + (band .i64 n 255))).toNat), (10, .int .i64 z2.2), (12, .int .i64 z3.2), (59, .tuple #[.slice ao1 z4.1.length cp1, .int .i64 z4.2])]) hf (by kernel_rfl)
    refine st tbOk 5 [7, 10, 12, 13, 14] (L' := [(7, .slice (some ⟨w2.heap.size, 0, none⟩) b_1.length (IntKind.i64.wrap (k_1 + (band .i64 n 255))).toNat), (10, .int .i64 z2.2), (12, .int .i64 z3.2), (13, .slice ao1 z4.1.length cp1), (14, .int .i64 z4.2)]) hf (by kernel_rfl) ?_
    clear hf; clear a; intro a hf
    refine wpList_nil ?_
    refine sq ?_
    refine reg ?_
    refine st tbOk 4 [7, 10, 12, 13, 14, 63, 66] (L' := [(7, .slice (some ⟨w2.heap.size, 0, none⟩) b_1.length (IntKind.i64.wrap (k_1 + (band .i64 n 255))).toNat), (10, .int .i64 z2.2), (12, .int .i64 z3.2), (13, .slice ao1 z4.1.length cp1), (14, .int .i64 z4.2), (63, .slice (some ⟨w2.heap.size, 0, none⟩) b_1.length (IntKind.i64.wrap (k_1 + (band .i64 n 255))).toNat), (66, .int .u64 (IntKind.u64.wrap ((b_1.length : Nat) : Int)))]) hf (by kernel_rfl) ?_
    clear hf; clear a; intro a hf
    have hT := of_bd hS; clear hS; obtain ⟨z5, hz5, hS⟩ := hT
    refine cl ent16 (vs := [.slice (some ⟨w2.heap.size, 0, none⟩) b_1.length (IntKind.i64.wrap (k_1 + (band .i64 n 255))).toNat, .int .u64 (IntKind.u64.wrap ((b_1.length : Nat) : Int)), .int .u64 1]) hf (by kernel_rfl) (by kernel_rfl) (by kernel_rfl) (octets_Cut_ok (ho2.ro (mt_le _)) hz5) ?_
    clear hf; clear a; intro v w7 a hT hf; obtain ⟨ao2, cp2, rfl, hx, ho4⟩ := hT
    have dj4 := Dj.new ho1 ho4
    have dj5 := Dj.new ho2 ho4
    have dj6 := Dj.new ho3 ho4
    replace ho4 := ho4.base hE.size
    replace hE := hE.tr hx
    replace ho1 := ho1.ext hx
    replace ho2 := ho2.ext hx
    replace ho3 := ho3.ext hx
    replace hf := Fr.keep (ks := [7, 10, 12, 13, 14, 67]) (L' := [(7, .slice (some ⟨w2.heap.size, 0, none⟩) b_1.length (IntKind.i64.wrap (k_1 + (band .i64 n 255))).toNat), (10, .int .i64 z2.2), (12, .int .i64 z3.2), (13, .slice ao1 z4.1.length cp1), (14, .int .i64 z4.2), (67, .tuple #[.slice ao2 z5.1.length cp2, .int .i64 z5.2])]) hf (by kernel_rfl)
    refine st tbOk 5 [7, 10, 12, 13, 14, 16] (L' := [(7, .slice (some ⟨w2.heap.size, 0, none⟩) b_1.length (IntKind.i64.wrap (k_1 + (band .i64 n 255))).toNat), (10, .int .i64 z2.2), (12, .int .i64 z3.2), (13, .slice ao1 z4.1.length cp1), (14, .int .i64 z4.2), (16, .int .i64 z5.2)]) hf (by kernel_rfl) ?_
    clear hf; clear a; intro a hf
    refine wpList_nil ?_
    refine sq ?_
    refine reg ?_
    refine st tbOk 5 [7, 10, 12, 13, 14, 16, 71, 75] (L' := [(7, .slice (some ⟨w2.heap.size, 0, none⟩) b_1.length (IntKind.i64.wrap (k_1 + (band .i64 n 255))).toNat), (10, .int .i64 z2.2), (12, .int .i64 z3.2), (13, .slice ao1 z4.1.length cp1), (14, .int .i64 z4.2), (16, .int .i64 z5.2), (71, .slice (some ⟨w2.heap.size, 0, none⟩) b_1.length (IntKind.i64.wrap (k_1 + (band .i64 n 255))).toNat), (75, .int .u64 (IntKind.u64.wrap ((IntKind.u64.wrap ((b_1.length : Nat) : Int)) + 1)))]) hf (by kernel_rfl) ?_
    clear hf; clear a; intro a hf
    have hT := of_bd hS; clear hS; obtain ⟨z6, hz6, hS⟩ := hT
    refine cl ent16 (vs := [.slice (some ⟨w2.heap.size, 0, none⟩) b_1.length (IntKind.i64.wrap (k_1 + (band .i64 n 255))).toNat, .int .u64 (IntKind.u64.wrap ((IntKind.u64.wrap ((b_1.length : Nat) : Int)) + 1)), .int .u64 0]) hf (by kernel_rfl) (by kernel_rfl) (by kernel_rfl) (octets_Cut_ok (ho2.ro (mt_le _)) hz6) ?_
    clear hf; clear a; intro v w8 a hT hf; obtain ⟨ao3, cp3, rfl, hx, ho5⟩ := hT
    have dj7 := Dj.new ho1 ho5
    have dj8 := Dj.new ho2 ho5
    have dj9 := Dj.new ho3 ho5
    have dj10 := Dj.new ho4 ho5
    replace ho5 := ho5.base hE.size
    replace hE := hE.tr hx
    replace ho1 := ho1.ext hx
    replace ho2 := ho2.ext hx
    replace ho3 := ho3.ext hx
    replace ho4 := ho4.ext hx
    replace hf := Fr.keep (ks := [7, 10, 12, 13, 14, 16, 76]) (L' := [(7, .slice (some ⟨w2.heap.size, 0, none⟩) b_1.length (IntKind.i64.wrap (k_1 + (band .i64 n 255))).toNat), (10, .int .i64 z2.2), (12, .int .i64 z3.2), (13, .slice ao1 z4.1.length cp1), (14, .int .i64 z4.2), (16, .int .i64 z5.2), (76, .tuple #[.slice ao3 z6.1.length cp3, .int .i64 z6.2])]) hf (by kernel_rfl)
    refine st tbOk 5 [7, 10, 12, 13, 14, 16, 18] (L' := [(7, .slice (some ⟨w2.heap.size, 0, none⟩) b_1.length (IntKind.i64.wrap (k_1 + (band .i64 n 255))).toNat), (10, .int .i64 z2.2), (12, .int .i64 z3.2), (13, .slice ao1 z4.1.length cp1), (14, .int .i64 z4.2), (16, .int .i64 z5.2), (18, .int .i64 z6.2)]) hf (by kernel_rfl) ?_
    clear hf; clear a; intro a hf
    refine wpList_nil ?_
    refine sq ?_
    refine reg ?_
    refine st tbOk 1 [10, 12, 13, 14, 16, 18, 80] (L' := [(10, .int .i64 z2.2), (12, .int .i64 z3.2), (13, .slice ao1 z4.1.length cp1), (14, .int .i64 z4.2), (16, .int .i64 z5.2), (18, .int .i64 z6.2), (80, .slice (some ⟨w2.heap.size, 0, none⟩) b_1.length (IntKind.i64.wrap (k_1 + (band .i64 n 255))).toNat)]) hf (by kernel_rfl) ?_
    clear hf; clear a; intro a hf
    have hT := of_bd hS; clear hS; obtain ⟨z7, hz7, hS⟩ := hT
    refine cl ent16 (vs := [.slice (some ⟨w2.heap.size, 0, none⟩) b_1.length (IntKind.i64.wrap (k_1 + (band .i64 n 255))).toNat, .int .u64 18446744073709551615, .int .u64 2]) hf (by kernel_rfl) (by kernel_rfl) (by kernel_rfl) (octets_Cut_ok (ho2.ro (mt_le _)) hz7) ?_
    clear hf; clear a; intro v w9 a hT hf; obtain ⟨ao4, cp4, rfl, hx, ho6⟩ := hT
    have dj11 := Dj.new ho1 ho6
    have dj12 := Dj.new ho2 ho6
    have dj13 := Dj.new ho3 ho6
    have dj14 := Dj.new ho4 ho6
    have dj15 := Dj.new ho5 ho6
    replace ho6 := ho6.base hE.size
    replace hE := hE.tr hx
    replace ho1 := ho1.ext hx
    replace ho2 := ho2.ext hx
    replace ho3 := ho3.ext hx
    replace ho4 := ho4.ext hx
    replace ho5 := ho5.ext hx
    replace hf := Fr.keep (ks := [10, 12, 13, 14, 16, 18, 81]) (L' := [(10, .int .i64 z2.2), (12, .int .i64 z3.2), (13, .slice ao1 z4.1.length cp1), (14, .int .i64 z4.2), (16, .int .i64 z5.2), (18, .int .i64 z6.2), (81, .tuple #[.slice ao4 z7.1.length cp4, .int .i64 z7.2])]) hf (by kernel_rfl)
    refine st tbOk 5 [10, 12, 13, 14, 16, 18, 20] (L' := [(10, .int .i64 z2.2), (12, .int .i64 z3.2), (13, .slice ao1 z4.1.length cp1), (14, .int .i64 z4.2), (16, .int .i64 z5.2), (18, .int .i64 z6.2), (20, .int .i64 z7.2)]) hf (by kernel_rfl) ?_
    clear hf; clear a; intro a hf
    refine wpList_nil ?_
    refine sq ?_
    refine ctj (fun (s1 : Bool) (a : Act) (w' : World) => Ext w w' ∧ Fr 111 [(4, .bool s1)] a) hS ?_ ?_
    · clear hS hf; clear a; clear hE; intro s1 a w10 hM hS
      obtain ⟨hE, hf⟩ := hM
      have hr := Option.some.inj hS; subst hr
      refine wp_ret ?_
      exact ret_ok hf (vs := [.bool s1]) (by kernel_rfl) ⟨rfl, hE⟩
    · clear hS; intro KK1 k1 hK1 hS
      refine reg ?_
      refine st tbOk 3 [12, 13, 14, 16, 18, 20, 86] (L' := [(12, .int .i64 z3.2), (13, .slice ao1 z4.1.length cp1), (14, .int .i64 z4.2), (16, .int .i64 z5.2), (18, .int .i64 z6.2), (20, .int .i64 z7.2), (86, .bool (z2.2 == 0))]) hf (by kernel_rfl) ?_
      clear hf; clear a; intro a hf
      rcases Bool.eq_false_or_eq_true (z2.2 == 0) with hb2 | hb2
      · replace hS := of_t hb2 hS
        replace hf := Fr.cast (L' := [(12, .int .i64 z3.2), (13, .slice ao1 z4.1.length cp1), (14, .int .i64 z4.2), (16, .int .i64 z5.2), (18, .int .i64 z6.2), (20, .int .i64 z7.2), (86, .bool true)]) hf (by rw [hb2])
        refine st tbOk 4 [13, 14, 16, 18, 20, 90] (L' := [(13, .slice ao1 z4.1.length cp1), (14, .int .i64 z4.2), (16, .int .i64 z5.2), (18, .int .i64 z6.2), (20, .int .i64 z7.2), (90, .bool (z3.2 == 10))]) hf (by kernel_rfl) ?_
        clear hf; clear a; intro a hf
        rcases Bool.eq_false_or_eq_true (z3.2 == 10) with hb3 | hb3
        · replace hS := of_t hb3 hS
          replace hf := Fr.cast (L' := [(13, .slice ao1 z4.1.length cp1), (14, .int .i64 z4.2), (16, .int .i64 z5.2), (18, .int .i64 z6.2), (20, .int .i64 z7.2), (90, .bool true)]) hf (by rw [hb3])
          refine st tbOk 4 [13, 16, 18, 20, 94] (L' := [(13, .slice ao1 z4.1.length cp1), (16, .int .i64 z5.2), (18, .int .i64 z6.2), (20, .int .i64 z7.2), (94, .bool (z4.2 == 0))]) hf (by kernel_rfl) ?_
          clear hf; clear a; intro a hf
          rcases Bool.eq_false_or_eq_true (z4.2 == 0) with hb4 | hb4
          · replace hS := of_t hb4 hS
            replace hf := Fr.cast (L' := [(13, .slice ao1 z4.1.length cp1), (16, .int .i64 z5.2), (18, .int .i64 z6.2), (20, .int .i64 z7.2), (94, .bool true)]) hf (by rw [hb4])
            refine st tbOk 5 [16, 18, 20, 99] (L' := [(16, .int .i64 z5.2), (18, .int .i64 z6.2), (20, .int .i64 z7.2), (99, .bool (((z4.1.length : Nat) : Int) == 0))]) hf (by kernel_rfl) ?_
            clear hf; clear a; intro a hf
            rcases Bool.eq_false_or_eq_true (((z4.1.length : Nat) : Int) == 0) with hb5 | hb5
            · replace hS := of_t hb5 hS
              replace hf := Fr.cast (L' := [(16, .int .i64 z5.2), (18, .int .i64 z6.2), (20, .int .i64 z7.2), (99, .bool true)]) hf (by rw [hb5])
              refine st tbOk 4 [18, 20, 103] (L' := [(18, .int .i64 z6.2), (20, .int .i64 z7.2), (103, .bool (z5.2 == 10))]) hf (by kernel_rfl) ?_
              clear hf; clear a; intro a hf
              rcases Bool.eq_false_or_eq_true (z5.2 == 10) with hb6 | hb6
              · replace hS := of_t hb6 hS
                replace hf := Fr.cast (L' := [(18, .int .i64 z6.2), (20, .int .i64 z7.2), (103, .bool true)]) hf (by rw [hb6])
                refine st tbOk 4 [20, 107] (L' := [(20, .int .i64 z7.2), (107, .bool (z6.2 == 10))]) hf (by kernel_rfl) ?_
                clear hf; clear a; intro a hf
                rcases Bool.eq_false_or_eq_true (z6.2 == 10) with hb7 | hb7
                · replace hS := of_t hb7 hS
                  replace hf := Fr.cast (L' := [(20, .int .i64 z7.2), (107, .bool true)]) hf (by rw [hb7])
                  refine st tbOk 4 [4] (L' := [(4, .bool (z7.2 == 10))]) hf (by kernel_rfl) ?_
                  clear hf; clear a; intro a hf
                  refine wpList_nil ?_
                  exact hK1 (z7.2 == 10) _ _ ⟨hE, hf.keep (ks := [4]) (by kernel_rfl)⟩ hS
                · replace hS := of_f hb7 hS
                  replace hf := Fr.cast (L' := [(20, .int .i64 z7.2), (107, .bool false)]) hf (by rw [hb7])
                  refine st tbOk 4 [4] (L' := [(4, .bool false)]) hf (by kernel_rfl) ?_
                  clear hf; clear a; intro a hf
                  refine wpList_nil ?_
                  exact hK1 false _ _ ⟨hE, hf.keep (ks := [4]) (by kernel_rfl)⟩ hS
              · replace hS := of_f hb6 hS
                replace hf := Fr.cast (L' := [(18, .int .i64 z6.2), (20, .int .i64 z7.2), (103, .bool false)]) hf (by rw [hb6])
                refine st tbOk 8 [4] (L' := [(4, .bool false)]) hf (by kernel_rfl) ?_
                clear hf; clear a; intro a hf
                refine wpList_nil ?_
                exact hK1 false _ _ ⟨hE, hf.keep (ks := [4]) (by kernel_rfl)⟩ hS
            · replace hS := of_f hb5 hS
              replace hf := Fr.cast (L' := [(16, .int .i64 z5.2), (18, .int .i64 z6.2), (20, .int .i64 z7.2), (99, .bool false)]) hf (by rw [hb5])
              refine st tbOk 12 [4] (L' := [(4, .bool false)]) hf (by kernel_rfl) ?_
              clear hf; clear a; intro a hf
              refine wpList_nil ?_
              exact hK1 false _ _ ⟨hE, hf.keep (ks := [4]) (by kernel_rfl)⟩ hS
          · replace hS := of_f hb4 hS
            replace hf := Fr.cast (L' := [(13, .slice ao1 z4.1.length cp1), (16, .int .i64 z5.2), (18, .int .i64 z6.2), (20, .int .i64 z7.2), (94, .bool false)]) hf (by rw [hb4])
            refine st tbOk 17 [4] (L' := [(4, .bool false)]) hf (by kernel_rfl) ?_
            clear hf; clear a; intro a hf
            refine wpList_nil ?_
            exact hK1 false _ _ ⟨hE, hf.keep (ks := [4]) (by kernel_rfl)⟩ hS
        · replace hS := of_f hb3 hS
          replace hf := Fr.cast (L' := [(13, .slice ao1 z4.1.length cp1), (14, .int .i64 z4.2), (16, .int .i64 z5.2), (18, .int .i64 z6.2), (20, .int .i64 z7.2), (90, .bool false)]) hf (by rw [hb3])
          refine st tbOk 21 [4] (L' := [(4, .bool false)]) hf (by kernel_rfl) ?_
          clear hf; clear a; intro a hf
          refine wpList_nil ?_
          exact hK1 false _ _ ⟨hE, hf.keep (ks := [4]) (by kernel_rfl)⟩ hS
      · replace hS := of_f hb2 hS
        replace hf := Fr.cast (L' := [(12, .int .i64 z3.2), (13, .slice ao1 z4.1.length cp1), (14, .int .i64 z4.2), (16, .int .i64 z5.2), (18, .int .i64 z6.2), (20, .int .i64 z7.2), (86, .bool false)]) hf (by rw [hb2])
        refine st tbOk 25 [4] (L' := [(4, .bool false)]) hf (by kernel_rfl) ?_
        clear hf; clear a; intro a hf
        refine wpList_nil ?_
        exact hK1 false _ _ ⟨hE, hf.keep (ks := [4]) (by kernel_rfl)⟩ hS

end Dm
