/-
  The walk of the law OctetsSets; printed by a program of this repo. No condition.
-/
import Derived.Test.YtdigooncdjnfbaaW
namespace Dm
open Go Go.RowKit Go.Proofs

theorem law01_OctetsSets_ok {w : World} {b : List Int} {p_at : Int} {n : Int} {p_x : Int} {v_b : Value} (h_b : RO (hp w) (tI .u8) v_b b) {r : Bool} (hS : law01_OctetsSets b p_at n p_x = some r) :
    Calls Try.prog 4 #[v_b, .int .u64 p_at, .int .i64 n, .int .u64 p_x] w (Gives (fun u w' => u = .bool r ∧ Ext w w')) := by
  obtain ⟨ao_b, cp_b, e_b⟩ := h_b.shape; subst e_b
  unfold law01_OctetsSets at hS
  refine fn_ok (vs := [.slice ao_b b.length cp_b, .int .u64 p_at, .int .i64 n, .int .u64 p_x]) Try.func4 rfl 72 Try.ntmps4 (Nat.le_of_ble_eq_true rfl) ?_
  intro a hf
  replace hf := Fr.cast (L' := [(0, .slice ao_b b.length cp_b), (1, .int .u64 p_at), (2, .int .i64 n), (3, .int .u64 p_x)]) hf (by kernel_rfl)
  have hE := Ext.rfl' w
  refine sq ?_
  refine reg ?_
  refine st tbOk 1 [0, 1, 2, 3] (L' := [(0, .slice ao_b b.length cp_b), (1, .int .u64 p_at), (2, .int .i64 n), (3, .int .u64 p_x)]) hf (by kernel_rfl) ?_
  clear hf; clear a; intro a hf
  refine wpList_nil ?_
  refine sq ?_
  refine reg ?_
  have hT := of_bd hS; clear hS; obtain ⟨z1, hz1, hS⟩ := hT
  refine cl ent11 (vs := []) hf (by kernel_rfl) (by kernel_rfl) (by kernel_rfl) (law01_awake_ok  hz1) ?_
  clear hf; clear a; intro v w1 a hT hf; obtain ⟨rfl, hx⟩ := hT
  replace hE := hE.tr hx
  replace hf := Fr.keep (ks := [0, 1, 2, 3, 17]) (L' := [(0, .slice ao_b b.length cp_b), (1, .int .u64 p_at), (2, .int .i64 n), (3, .int .u64 p_x), (17, .bool z1)]) hf (by kernel_rfl)
  refine st tbOk 1 [0, 1, 2, 3, 9] (L' := [(0, .slice ao_b b.length cp_b), (1, .int .u64 p_at), (2, .int .i64 n), (3, .int .u64 p_x), (9, .bool z1)]) hf (by kernel_rfl) ?_
  clear hf; clear a; intro a hf
  refine wpList_nil ?_
  refine sq ?_
  refine sq ?_
  refine reg ?_
  refine st tbOk 2 [0, 1, 2, 3, 19] (L' := [(0, .slice ao_b b.length cp_b), (1, .int .u64 p_at), (2, .int .i64 n), (3, .int .u64 p_x), (19, .bool (!z1))]) hf (by kernel_rfl) ?_
  clear hf; clear a; intro a hf
  refine wpList_nil ?_
  refine cnd (b := !z1) hf (by kernel_rfl) (fun hb1 => ?_) (fun hb1 => ?_)
  · replace hS := of_t hb1 hS
    refine sq ?_
    refine reg ?_
    refine st tbOk 1 [8] (L' := [(8, .bool false)]) hf (by kernel_rfl) ?_
    clear hf; clear a; intro a hf
    refine wpList_nil ?_
    have hr := Option.some.inj hS; subst hr
    refine wp_ret ?_
    exact ret_ok hf (vs := [.bool false]) (by kernel_rfl) ⟨rfl, hE⟩
  · replace hS := of_f hb1 hS
    refine wp_skip ?_
    refine sq ?_
    refine sq ?_
    refine reg ?_
    refine st tbOk 3 [0, 1, 2, 3, 22] (L' := [(0, .slice ao_b b.length cp_b), (1, .int .u64 p_at), (2, .int .i64 n), (3, .int .u64 p_x), (22, .bool (decide (((b.length : Nat) : Int) > 2000)))]) hf (by kernel_rfl) ?_
    clear hf; clear a; intro a hf
    refine wpList_nil ?_
    refine cnd (b := decide (((b.length : Nat) : Int) > 2000)) hf (by kernel_rfl) (fun hb2 => ?_) (fun hb2 => ?_)
    · replace hS := of_t hb2 hS
      refine sq ?_
      refine reg ?_
      refine st tbOk 1 [8] (L' := [(8, .bool true)]) hf (by kernel_rfl) ?_
      clear hf; clear a; intro a hf
      refine wpList_nil ?_
      have hr := Option.some.inj hS; subst hr
      refine wp_ret ?_
      exact ret_ok hf (vs := [.bool true]) (by kernel_rfl) ⟨rfl, hE⟩
    · replace hS := of_f hb2 hS
      refine wp_skip ?_
      refine sq ?_
      refine reg ?_
      refine st tbOk 1 [0, 1, 2, 3, 23] (L' := [(0, .slice ao_b b.length cp_b), (1, .int .u64 p_at), (2, .int .i64 n), (3, .int .u64 p_x), (23, .slice ao_b b.length cp_b)]) hf (by kernel_rfl) ?_
      clear hf; clear a; intro a hf
      refine b2s tbOk u22 u5 u9 h_b hE.le hf (by kernel_rfl) (by kernel_rfl) (by kernel_rfl) ?_
      clear hf; clear a; intro a hf
      replace hf := Fr.keep (ks := [0, 1, 2, 3, 24]) (L' := [(0, .slice ao_b b.length cp_b), (1, .int .u64 p_at), (2, .int .i64 n), (3, .int .u64 p_x), (24, strV (toStr b))]) hf (by kernel_rfl)
      have hT := of_let hS; clear hS; obtain ⟨was_1, hl1, hS⟩ := hT
      refine st tbOk 1 [0, 1, 2, 3, 10] (L' := [(0, .slice ao_b b.length cp_b), (1, .int .u64 p_at), (2, .int .i64 n), (3, .int .u64 p_x), (10, strV was_1)]) hf (by subst hl1; kernel_rfl) ?_
      clear hf; clear a; intro a hf
      refine wpList_nil ?_
      refine sq ?_
      refine reg ?_
      refine st tbOk 4 [0, 1, 2, 3, 10, 26, 27, 28, 29] (L' := [(0, .slice ao_b b.length cp_b), (1, .int .u64 p_at), (2, .int .i64 n), (3, .int .u64 p_x), (10, strV was_1), (26, .slice ao_b b.length cp_b), (27, .int .u64 p_at), (28, .int .i64 n), (29, .int .u64 p_x)]) hf (by kernel_rfl) ?_
      clear hf; clear a; intro a hf
      have hT := of_bd hS; clear hS; obtain ⟨z2, hz2, hS⟩ := hT
      refine cl ent14 (vs := [.slice ao_b b.length cp_b, .int .u64 p_at, .int .i64 n, .int .u64 p_x]) hf (by kernel_rfl) (by kernel_rfl) (by kernel_rfl) (octets_Set_ok (h_b.mono hE.le) hz2) ?_
      clear hf; clear a; intro v w2 a hT hf; obtain ⟨ao1, cp1, rfl, hx, ho1⟩ := hT
      replace ho1 := ho1.base hE.size
      replace hE := hE.tr hx
      replace hf := Fr.keep (ks := [0, 1, 2, 3, 10, 30]) (L' := [(0, .slice ao_b b.length cp_b), (1, .int .u64 p_at), (2, .int .i64 n), (3, .int .u64 p_x), (10, strV was_1), (30, .tuple #[.slice ao1 z2.1.length cp1, .int .i64 z2.2])]) hf (by kernel_rfl)
      refine st tbOk 5 [0, 1, 2, 3, 10, 11, 12] (L' := [(0, .slice ao_b b.length cp_b), (1, .int .u64 p_at), (2, .int .i64 n), (3, .int .u64 p_x), (10, strV was_1), (11, .slice ao1 z2.1.length cp1), (12, .int .i64 z2.2)]) hf (by kernel_rfl) ?_
      clear hf; clear a; intro a hf
      refine wpList_nil ?_
      refine sq ?_
      refine reg ?_
      refine st tbOk 4 [0, 10, 11, 12, 34, 35, 36, 37] (L' := [(0, .slice ao_b b.length cp_b), (10, strV was_1), (11, .slice ao1 z2.1.length cp1), (12, .int .i64 z2.2), (34, .slice ao_b b.length cp_b), (35, .int .u64 p_at), (36, .int .i64 n), (37, .int .u64 p_x)]) hf (by kernel_rfl) ?_
      clear hf; clear a; intro a hf
      have hT := of_bd hS; clear hS; obtain ⟨z3, hz3, hS⟩ := hT
      refine cl ent15 (vs := [.slice ao_b b.length cp_b, .int .u64 p_at, .int .i64 n, .int .u64 p_x]) hf (by kernel_rfl) (by kernel_rfl) (by kernel_rfl) (ref01_Set_ok (h_b.mono hE.le) hz3) ?_
      clear hf; clear a; intro v w3 a hT hf; obtain ⟨ao2, cp2, rfl, hx, ho2⟩ := hT
      have dj1 := Dj.new ho1 ho2
      replace ho2 := ho2.base hE.size
      replace hE := hE.tr hx
      replace ho1 := ho1.ext hx
      replace hf := Fr.keep (ks := [0, 10, 11, 12, 38]) (L' := [(0, .slice ao_b b.length cp_b), (10, strV was_1), (11, .slice ao1 z2.1.length cp1), (12, .int .i64 z2.2), (38, .tuple #[.slice ao2 z3.1.length cp2, .int .i64 z3.2])]) hf (by kernel_rfl)
      refine st tbOk 5 [0, 10, 11, 12, 13, 14] (L' := [(0, .slice ao_b b.length cp_b), (10, strV was_1), (11, .slice ao1 z2.1.length cp1), (12, .int .i64 z2.2), (13, .slice ao2 z3.1.length cp2), (14, .int .i64 z3.2)]) hf (by kernel_rfl) ?_
      clear hf; clear a; intro a hf
      refine wpList_nil ?_
      refine sq ?_
      refine ctj (fun (s1 : Bool) (a : Act) (w' : World) => Ext w w' ∧ Own w' w.heap.size mt 5 (tI .u8) (.slice ao1 z2.1.length cp1) z2.1 ∧ Fr 72 [(0, .slice ao_b b.length cp_b), (10, strV was_1), (11, .slice ao1 z2.1.length cp1), (15, .bool s1)] a) hS ?_ ?_
      · clear hS hf; clear a; clear hE; intro s1 a w4 hM hS
        obtain ⟨hE, ho1, hf⟩ := hM
        refine sq ?_
        refine sq ?_
        refine reg ?_
        refine st tbOk 1 [0, 10, 11, 15, 16] (L' := [(0, .slice ao_b b.length cp_b), (10, strV was_1), (11, .slice ao1 z2.1.length cp1), (15, .bool s1), (16, .int .i64 0)]) hf (by kernel_rfl) ?_
        clear hf; clear a; intro a hf
        refine wpList_nil ?_
        refine ctj (fun (s2 : Unit) (a : Act) (w' : World) => Ext w w' ∧ Fr 72 [(0, .slice ao_b b.length cp_b), (10, strV was_1), (15, .bool s1)] a) hS ?_ ?_
        · clear hS hf; clear a; clear hE; intro s2 a w7 hM hS
          obtain ⟨hE, hf⟩ := hM
          refine sq ?_
          refine ctj (fun (s4 : Bool) (a : Act) (w' : World) => Ext w w' ∧ Fr 72 [(8, .bool s4)] a) hS ?_ ?_
          · clear hS hf; clear a; clear hE; intro s4 a w8 hM hS
            obtain ⟨hE, hf⟩ := hM
            have hr := Option.some.inj hS; subst hr
            refine wp_ret ?_
            exact ret_ok hf (vs := [.bool s4]) (by kernel_rfl) ⟨rfl, hE⟩
          · clear hS; intro KK4 k3 hK4 hS
            refine reg ?_
            refine st tbOk 2 [0, 10, 66] (L' := [(0, .slice ao_b b.length cp_b), (10, strV was_1), (66, .bool s1)]) hf (by kernel_rfl) ?_
            clear hf; clear a; intro a hf
            rcases Bool.eq_false_or_eq_true (s1) with hb5 | hb5
            · replace hS := of_t hb5 hS
              replace hf := Fr.cast (L' := [(0, .slice ao_b b.length cp_b), (10, strV was_1), (66, .bool true)]) hf (by rw [hb5])
              refine st tbOk 1 [10, 66, 67] (L' := [(10, strV was_1), (66, .bool true), (67, .slice ao_b b.length cp_b)]) hf (by kernel_rfl) ?_
              clear hf; clear a; intro a hf
              refine b2s tbOk u22 u5 u9 h_b hE.le hf (by kernel_rfl) (by kernel_rfl) (by kernel_rfl) ?_
              clear hf; clear a; intro a hf
              replace hf := Fr.keep (ks := [10, 66, 68]) (L' := [(10, strV was_1), (66, .bool true), (68, strV (toStr b))]) hf (by kernel_rfl)
              refine st tbOk 4 [8] (L' := [(8, .bool ((toStr b) == was_1))]) hf (by kernel_rfl) ?_
              clear hf; clear a; intro a hf
              refine wpList_nil ?_
              exact hK4 ((toStr b) == was_1) _ _ ⟨hE, hf.keep (ks := [8]) (by kernel_rfl)⟩ hS
            · replace hS := of_f hb5 hS
              replace hf := Fr.cast (L' := [(0, .slice ao_b b.length cp_b), (10, strV was_1), (66, .bool false)]) hf (by rw [hb5])
              refine st tbOk 6 [8] (L' := [(8, .bool false)]) hf (by kernel_rfl) ?_
              clear hf; clear a; intro a hf
              refine wpList_nil ?_
              exact hK4 false _ _ ⟨hE, hf.keep (ks := [8]) (by kernel_rfl)⟩ hS
        · clear hS; intro KK2 k2 hK2 hS
          refine blk ?_
          refine lp (st := (z2.1, 0)) (fun (s3 : (List Int) × Int) (a : Act) (w' : World) => ∃ (ao3 : Option Addr) (cp3 : Nat), Ext w w' ∧ Own w' w.heap.size mt 5 (tI .u8) (.slice ao3 s3.1.length cp3) s3.1 ∧ Fr 72 [(0, .slice ao_b b.length cp_b), (10, strV was_1), (11, .slice ao3 s3.1.length cp3), (15, .bool s1), (16, .int .i64 s3.2)] a) ?_ ⟨ao1, cp1, hE, ho1, hf.keep (ks := [0, 10, 11, 15, 16]) (by kernel_rfl)⟩ hS
          clear hS hf; clear a; clear hE
          intro rec1 KK3 hK3 s3 a w5 hM hS
          obtain ⟨ao3, cp3, hE, ho3, hf⟩ := hM
          refine sq ?_
          refine sq ?_
          refine reg ?_
          refine st tbOk 4 [0, 10, 11, 15, 16, 54] (L' := [(0, .slice ao_b b.length cp_b), (10, strV was_1), (11, .slice ao3 s3.1.length cp3), (15, .bool s1), (16, .int .i64 s3.2), (54, .bool (decide (s3.2 < ((s3.1.length : Nat) : Int))))]) hf (by kernel_rfl) ?_
          clear hf; clear a; intro a hf
          refine wpList_nil ?_
          refine cnd (b := decide (s3.2 < ((s3.1.length : Nat) : Int))) hf (by kernel_rfl) (fun hb4 => ?_) (fun hb4 => ?_)
          · replace hS := of_t hb4 hS
            refine wp_skip ?_
            refine sq ?_
            refine blk ?_
            refine reg ?_
            refine st tbOk 4 [0, 10, 11, 15, 16, 57, 58, 59, 60] (L' := [(0, .slice ao_b b.length cp_b), (10, strV was_1), (11, .slice ao3 s3.1.length cp3), (15, .bool s1), (16, .int .i64 s3.2), (57, .slice ao3 s3.1.length cp3), (58, .int .i64 s3.2), (59, .slice ao3 s3.1.length cp3), (60, .int .i64 s3.2)]) hf (by kernel_rfl) ?_
            clear hf; clear a; intro a hf
            have hT := of_gd hS; clear hS; obtain ⟨hc1, hS⟩ := hT
            refine ix tbOk u22 i5 rfl rfl (ho3.ro (mt_le _)) (k := .i64) (n := s3.2) hc1 hf (by kernel_rfl) (by kernel_rfl) (by kernel_rfl) (by kernel_rfl) ?_
            clear hf; clear a; intro p1 c1 a hp1 hr1 hf
            obtain rfl : c1 = [.int .u8 (gt s3.1 s3.2)] := hr1
            replace hf := Fr.keep (ks := [0, 10, 11, 15, 16, 57, 58, 61]) (L' := [(0, .slice ao_b b.length cp_b), (10, strV was_1), (11, .slice ao3 s3.1.length cp3), (15, .bool s1), (16, .int .i64 s3.2), (57, .slice ao3 s3.1.length cp3), (58, .int .i64 s3.2), (61, .pointer (some p1))]) hf (by kernel_rfl)
            refine ld tbOk u5 rfl hp1 (LeH.refl _) hf (by kernel_rfl) (by kernel_rfl) (by kernel_rfl) ?_
            clear hf; clear a; intro a hf
            replace hf := Fr.keep (ks := [0, 10, 11, 15, 16, 57, 58, 62]) (L' := [(0, .slice ao_b b.length cp_b), (10, strV was_1), (11, .slice ao3 s3.1.length cp3), (15, .bool s1), (16, .int .i64 s3.2), (57, .slice ao3 s3.1.length cp3), (58, .int .i64 s3.2), (62, .int .u8 (gt s3.1 s3.2))]) hf (by kernel_rfl)
            refine st tbOk 1 [0, 10, 11, 15, 16, 57, 58, 63] (L' := [(0, .slice ao_b b.length cp_b), (10, strV was_1), (11, .slice ao3 s3.1.length cp3), (15, .bool s1), (16, .int .i64 s3.2), (57, .slice ao3 s3.1.length cp3), (58, .int .i64 s3.2), (63, .int .u8 (bxor .u8 (gt s3.1 s3.2) 255))]) hf (by kernel_rfl) ?_
            clear hf; clear a; intro a hf
            have hT := of_gd hS; clear hS; obtain ⟨hc2, hS⟩ := hT
            refine ixO tbOk u22 i5 ho3 (k := .i64) (n := s3.2) hc2 hf (by kernel_rfl) (by kernel_rfl) (by kernel_rfl) (by kernel_rfl) ?_
            clear hf; clear a; intro p2 a hp2 hf
            replace hf := Fr.keep (ks := [0, 10, 11, 15, 16, 63, 64]) (L' := [(0, .slice ao_b b.length cp_b), (10, strV was_1), (11, .slice ao3 s3.1.length cp3), (15, .bool s1), (16, .int .i64 s3.2), (63, .int .u8 (bxor .u8 (gt s3.1 s3.2) 255)), (64, .pointer (some p2))]) hf (by kernel_rfl)
            refine sto tbOk i5 rfl ho3 hc2 hp2 (u := .int .u8 (bxor .u8 (gt s3.1 s3.2) 255)) (yv := bxor .u8 (gt s3.1 s3.2) 255) rfl rfl hf (by kernel_rfl) (by kernel_rfl) (by kernel_rfl) ?_
            clear hf; clear a; intro w6 a hN hg hz hf
            replace hE := hE.grow hg (fun k hk => (ho3.lt k hk).1)
            replace ho3 : Own w6 w.heap.size mt 5 (tI .u8) (.slice ao3 (s3.1.set (s3.2).toNat (bxor .u8 (gt s3.1 s3.2) 255)).length cp3) (s3.1.set (s3.2).toNat (bxor .u8 (gt s3.1 s3.2) 255)) := by simpa only [List.length_set] using hN
            clear hN; replace hf := Fr.cast (L' := [(0, .slice ao_b b.length cp_b), (10, strV was_1), (11, .slice ao3 (s3.1.set (s3.2).toNat (bxor .u8 (gt s3.1 s3.2) 255)).length cp3), (15, .bool s1), (16, .int .i64 s3.2), (63, .int .u8 (bxor .u8 (gt s3.1 s3.2) 255)), (64, .pointer (some p2))]) hf (by simp only [List.length_set])
            replace hf := Fr.keep (ks := [0, 10, 11, 15, 16]) (L' := [(0, .slice ao_b b.length cp_b), (10, strV was_1), (11, .slice ao3 (s3.1.set (s3.2).toNat (bxor .u8 (gt s3.1 s3.2) 255)).length cp3), (15, .bool s1), (16, .int .i64 s3.2)]) hf (by kernel_rfl)
            refine wpList_nil ?_
            refine reg ?_
            have hT := of_let hS; clear hS; obtain ⟨i_1, hl3, hS⟩ := hT
            refine st tbOk 3 [0, 10, 11, 15, 16] (L' := [(0, .slice ao_b b.length cp_b), (10, strV was_1), (11, .slice ao3 (s3.1.set (s3.2).toNat (bxor .u8 (gt s3.1 s3.2) 255)).length cp3), (15, .bool s1), (16, .int .i64 i_1)]) hf (by subst hl3; kernel_rfl) ?_
            clear hf; clear a; intro a hf
            refine wpList_nil ?_
            exact hK3 ((s3.1.set (s3.2).toNat (bxor .u8 (gt s3.1 s3.2) 255)), i_1) _ _ ⟨ao3, cp3, hE, ho3, hf.keep (ks := [0, 10, 11, 15, 16]) (by kernel_rfl)⟩ hS
          · replace hS := of_f hb4 hS
            refine wp_exit ?_
            exact hK2 () _ _ ⟨hE, hf.keep (ks := [0, 10, 15]) (by kernel_rfl)⟩ hS
      · clear hS; intro KK1 k1 hK1 hS
        refine reg ?_
        refine st tbOk 4 [0, 10, 11, 13, 44] (L' := [(0, .slice ao_b b.length cp_b), (10, strV was_1), (11, .slice ao1 z2.1.length cp1), (13, .slice ao2 z3.1.length cp2), (44, .bool (z2.2 == z3.2))]) hf (by kernel_rfl) ?_
        clear hf; clear a; intro a hf
        rcases Bool.eq_false_or_eq_true (z2.2 == z3.2) with hb3 | hb3
        · replace hS := of_t hb3 hS
          replace hf := Fr.cast (L' := [(0, .slice ao_b b.length cp_b), (10, strV was_1), (11, .slice ao1 z2.1.length cp1), (13, .slice ao2 z3.1.length cp2), (44, .bool true)]) hf (by rw [hb3])
          refine st tbOk 1 [0, 10, 11, 13, 44, 45] (L' := [(0, .slice ao_b b.length cp_b), (10, strV was_1), (11, .slice ao1 z2.1.length cp1), (13, .slice ao2 z3.1.length cp2), (44, .bool true), (45, .slice ao1 z2.1.length cp1)]) hf (by kernel_rfl) ?_
          clear hf; clear a; intro a hf
          refine b2s tbOk u22 u5 u9 (ho1.ro (mt_le _)) (LeH.refl _) hf (by kernel_rfl) (by kernel_rfl) (by kernel_rfl) ?_
          clear hf; clear a; intro a hf
          replace hf := Fr.keep (ks := [0, 10, 11, 13, 44, 46]) (L' := [(0, .slice ao_b b.length cp_b), (10, strV was_1), (11, .slice ao1 z2.1.length cp1), (13, .slice ao2 z3.1.length cp2), (44, .bool true), (46, strV (toStr z2.1))]) hf (by kernel_rfl)
          refine st tbOk 1 [0, 10, 11, 44, 46, 47] (L' := [(0, .slice ao_b b.length cp_b), (10, strV was_1), (11, .slice ao1 z2.1.length cp1), (44, .bool true), (46, strV (toStr z2.1)), (47, .slice ao2 z3.1.length cp2)]) hf (by kernel_rfl) ?_
          clear hf; clear a; intro a hf
          refine b2s tbOk u22 u5 u9 (ho2.ro (mt_le _)) (LeH.refl _) hf (by kernel_rfl) (by kernel_rfl) (by kernel_rfl) ?_
          clear hf; clear a; intro a hf
          replace hf := Fr.keep (ks := [0, 10, 11, 44, 46, 48]) (L' := [(0, .slice ao_b b.length cp_b), (10, strV was_1), (11, .slice ao1 z2.1.length cp1), (44, .bool true), (46, strV (toStr z2.1)), (48, strV (toStr z3.1))]) hf (by kernel_rfl)
          have hT := of_let hS; clear hS; obtain ⟨one_1, hl2, hS⟩ := hT
          refine st tbOk 3 [0, 10, 11, 15] (L' := [(0, .slice ao_b b.length cp_b), (10, strV was_1), (11, .slice ao1 z2.1.length cp1), (15, .bool one_1)]) hf (by subst hl2; kernel_rfl) ?_
          clear hf; clear a; intro a hf
          refine wpList_nil ?_
          exact hK1 one_1 _ _ ⟨hE, ho1, hf.keep (ks := [0, 10, 11, 15]) (by kernel_rfl)⟩ hS
        · replace hS := of_f hb3 hS
          replace hf := Fr.cast (L' := [(0, .slice ao_b b.length cp_b), (10, strV was_1), (11, .slice ao1 z2.1.length cp1), (13, .slice ao2 z3.1.length cp2), (44, .bool false)]) hf (by rw [hb3])
          refine st tbOk 7 [0, 10, 11, 15] (L' := [(0, .slice ao_b b.length cp_b), (10, strV was_1), (11, .slice ao1 z2.1.length cp1), (15, .bool false)]) hf (by kernel_rfl) ?_
          clear hf; clear a; intro a hf
          refine wpList_nil ?_
          exact hK1 false _ _ ⟨hE, ho1, hf.keep (ks := [0, 10, 11, 15]) (by kernel_rfl)⟩ hS

end Dm
