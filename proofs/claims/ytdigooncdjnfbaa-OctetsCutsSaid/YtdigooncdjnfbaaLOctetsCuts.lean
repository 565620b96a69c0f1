/-
  The walk of the law OctetsCuts; printed by a program of this repo. No condition.
-/
import Derived.Test.YtdigooncdjnfbaaW
namespace Dm
open Go Go.RowKit Go.Proofs

theorem law01_OctetsCuts_ok {w : World} {b : List Int} {p_at : Int} {size : Int} {v_b : Value} (h_b : RO (hp w) (tI .u8) v_b b) {r : Bool} (hS : law01_OctetsCuts b p_at size = some r) :
    Calls Try.prog 5 #[v_b, .int .u64 p_at, .int .u64 size] w (Gives (fun u w' => u = .bool r ∧ Ext w w')) := by
  obtain ⟨ao_b, cp_b, e_b⟩ := h_b.shape; subst e_b
  unfold law01_OctetsCuts at hS
  refine fn_ok (vs := [.slice ao_b b.length cp_b, .int .u64 p_at, .int .u64 size]) Try.func5 rfl 68 Try.ntmps5 (Nat.le_of_ble_eq_true rfl) ?_
  intro a hf
  replace hf := Fr.cast (L' := [(0, .slice ao_b b.length cp_b), (1, .int .u64 p_at), (2, .int .u64 size)]) hf (by kernel_rfl)
  have hE := Ext.rfl' w
  refine sq ?_
  refine reg ?_
  refine st tbOk 1 [0, 1, 2] (L' := [(0, .slice ao_b b.length cp_b), (1, .int .u64 p_at), (2, .int .u64 size)]) hf (by kernel_rfl) ?_
  clear hf; clear a; intro a hf
  refine wpList_nil ?_
  refine sq ?_
  refine reg ?_
  have hT := of_bd hS; clear hS; obtain ⟨z1, hz1, hS⟩ := hT
  refine cl ent11 (vs := []) hf (by kernel_rfl) (by kernel_rfl) (by kernel_rfl) (law01_awake_ok  hz1) ?_
  clear hf; clear a; intro v w1 a hT hf; obtain ⟨rfl, hx⟩ := hT
  replace hE := hE.tr hx
  replace hf := Fr.keep (ks := [0, 1, 2, 15]) (L' := [(0, .slice ao_b b.length cp_b), (1, .int .u64 p_at), (2, .int .u64 size), (15, .bool z1)]) hf (by kernel_rfl)
  refine st tbOk 1 [0, 1, 2, 7] (L' := [(0, .slice ao_b b.length cp_b), (1, .int .u64 p_at), (2, .int .u64 size), (7, .bool z1)]) hf (by kernel_rfl) ?_
  clear hf; clear a; intro a hf
  refine wpList_nil ?_
  refine sq ?_
  refine sq ?_
  refine reg ?_
  refine st tbOk 2 [0, 1, 2, 17] (L' := [(0, .slice ao_b b.length cp_b), (1, .int .u64 p_at), (2, .int .u64 size), (17, .bool (!z1))]) hf (by kernel_rfl) ?_
  clear hf; clear a; intro a hf
  refine wpList_nil ?_
  refine cnd (b := !z1) hf (by kernel_rfl) (fun hb1 => ?_) (fun hb1 => ?_)
  · replace hS := of_t hb1 hS
    refine sq ?_
    refine reg ?_
    refine st tbOk 1 [6] (L' := [(6, .bool false)]) hf (by kernel_rfl) ?_
    clear hf; clear a; intro a hf
    refine wpList_nil ?_
    have hr := Option.some.inj hS; subst hr
    refine wp_ret ?_
    exact ret_ok hf (vs := [.bool false]) (by kernel_rfl) ⟨rfl, hE⟩
  · replace hS := of_f hb1 hS
    refine wp_skip ?_
    refine sq ?_
    refine sq ?_
    refine reg ?_
    refine st tbOk 3 [0, 1, 2, 20] (L' := [(0, .slice ao_b b.length cp_b), (1, .int .u64 p_at), (2, .int .u64 size), (20, .bool (decide (((b.length : Nat) : Int) > 2000)))]) hf (by kernel_rfl) ?_
    clear hf; clear a; intro a hf
    refine wpList_nil ?_
    refine cnd (b := decide (((b.length : Nat) : Int) > 2000)) hf (by kernel_rfl) (fun hb2 => ?_) (fun hb2 => ?_)
    · replace hS := of_t hb2 hS
      refine sq ?_
      refine reg ?_
      refine st tbOk 1 [6] (L' := [(6, .bool true)]) hf (by kernel_rfl) ?_
      clear hf; clear a; intro a hf
      refine wpList_nil ?_
      have hr := Option.some.inj hS; subst hr
      refine wp_ret ?_
      exact ret_ok hf (vs := [.bool true]) (by kernel_rfl) ⟨rfl, hE⟩
    · replace hS := of_f hb2 hS
      refine wp_skip ?_
      refine sq ?_
      refine reg ?_
      refine st tbOk 1 [0, 1, 2, 21] (L' := [(0, .slice ao_b b.length cp_b), (1, .int .u64 p_at), (2, .int .u64 size), (21, .slice ao_b b.length cp_b)]) hf (by kernel_rfl) ?_
      clear hf; clear a; intro a hf
      refine b2s tbOk u22 u5 u9 h_b hE.le hf (by kernel_rfl) (by kernel_rfl) (by kernel_rfl) ?_
      clear hf; clear a; intro a hf
      replace hf := Fr.keep (ks := [0, 1, 2, 22]) (L' := [(0, .slice ao_b b.length cp_b), (1, .int .u64 p_at), (2, .int .u64 size), (22, strV (toStr b))]) hf (by kernel_rfl)
      have hT := of_let hS; clear hS; obtain ⟨was_1, hl1, hS⟩ := hT
      refine st tbOk 1 [0, 1, 2, 8] (L' := [(0, .slice ao_b b.length cp_b), (1, .int .u64 p_at), (2, .int .u64 size), (8, strV was_1)]) hf (by subst hl1; kernel_rfl) ?_
      clear hf; clear a; intro a hf
      refine wpList_nil ?_
      refine sq ?_
      refine reg ?_
      refine st tbOk 3 [0, 1, 2, 8, 24, 25, 26] (L' := [(0, .slice ao_b b.length cp_b), (1, .int .u64 p_at), (2, .int .u64 size), (8, strV was_1), (24, .slice ao_b b.length cp_b), (25, .int .u64 p_at), (26, .int .u64 size)]) hf (by kernel_rfl) ?_
      clear hf; clear a; intro a hf
      have hT := of_bd hS; clear hS; obtain ⟨z2, hz2, hS⟩ := hT
      refine cl ent16 (vs := [.slice ao_b b.length cp_b, .int .u64 p_at, .int .u64 size]) hf (by kernel_rfl) (by kernel_rfl) (by kernel_rfl) (octets_Cut_ok (h_b.mono hE.le) hz2) ?_
      clear hf; clear a; intro v w2 a hT hf; obtain ⟨ao1, cp1, rfl, hx, ho1⟩ := hT
      replace ho1 := ho1.base hE.size
      replace hE := hE.tr hx
      replace hf := Fr.keep (ks := [0, 1, 2, 8, 27]) (L' := [(0, .slice ao_b b.length cp_b), (1, .int .u64 p_at), (2, .int .u64 size), (8, strV was_1), (27, .tuple #[.slice ao1 z2.1.length cp1, .int .i64 z2.2])]) hf (by kernel_rfl)
      refine st tbOk 5 [0, 1, 2, 8, 9, 10] (L' := [(0, .slice ao_b b.length cp_b), (1, .int .u64 p_at), (2, .int .u64 size), (8, strV was_1), (9, .slice ao1 z2.1.length cp1), (10, .int .i64 z2.2)]) hf (by kernel_rfl) ?_
      clear hf; clear a; intro a hf
      refine wpList_nil ?_
      refine sq ?_
      refine reg ?_
      refine st tbOk 3 [0, 8, 9, 10, 31, 32, 33] (L' := [(0, .slice ao_b b.length cp_b), (8, strV was_1), (9, .slice ao1 z2.1.length cp1), (10, .int .i64 z2.2), (31, .slice ao_b b.length cp_b), (32, .int .u64 p_at), (33, .int .u64 size)]) hf (by kernel_rfl) ?_
      clear hf; clear a; intro a hf
      have hT := of_bd hS; clear hS; obtain ⟨z3, hz3, hS⟩ := hT
      refine cl ent17 (vs := [.slice ao_b b.length cp_b, .int .u64 p_at, .int .u64 size]) hf (by kernel_rfl) (by kernel_rfl) (by kernel_rfl) (ref01_Cut_ok (h_b.mono hE.le) hz3) ?_
      clear hf; clear a; intro v w3 a hT hf; obtain ⟨ao2, cp2, rfl, hx, ho2⟩ := hT
      have dj1 := Dj.new ho1 ho2
      replace ho2 := ho2.base hE.size
      replace hE := hE.tr hx
      replace ho1 := ho1.ext hx
      replace hf := Fr.keep (ks := [0, 8, 9, 10, 34]) (L' := [(0, .slice ao_b b.length cp_b), (8, strV was_1), (9, .slice ao1 z2.1.length cp1), (10, .int .i64 z2.2), (34, .tuple #[.slice ao2 z3.1.length cp2, .int .i64 z3.2])]) hf (by kernel_rfl)
      refine st tbOk 5 [0, 8, 9, 10, 11, 12] (L' := [(0, .slice ao_b b.length cp_b), (8, strV was_1), (9, .slice ao1 z2.1.length cp1), (10, .int .i64 z2.2), (11, .slice ao2 z3.1.length cp2), (12, .int .i64 z3.2)]) hf (by kernel_rfl) ?_
      clear hf; clear a; intro a hf
      refine wpList_nil ?_
      refine sq ?_
      refine ctj (fun (s1 : Bool) (a : Act) (w' : World) => Ext w w' ∧ Own w' w.heap.size mt 5 (tI .u8) (.slice ao1 z2.1.length cp1) z2.1 ∧ Fr 68 [(0, .slice ao_b b.length cp_b), (8, strV was_1), (9, .slice ao1 z2.1.length cp1), (13, .bool s1)] a) hS ?_ ?_
      · clear hS hf; clear a; clear hE; intro s1 a w4 hM hS
        obtain ⟨hE, ho1, hf⟩ := hM
        refine sq ?_
        refine sq ?_
        refine reg ?_
        refine st tbOk 1 [0, 8, 9, 13, 14] (L' := [(0, .slice ao_b b.length cp_b), (8, strV was_1), (9, .slice ao1 z2.1.length cp1), (13, .bool s1), (14, .int .i64 0)]) hf (by kernel_rfl) ?_
        clear hf; clear a; intro a hf
        refine wpList_nil ?_
        refine ctj (fun (s2 : Unit) (a : Act) (w' : World) => Ext w w' ∧ Fr 68 [(0, .slice ao_b b.length cp_b), (8, strV was_1), (13, .bool s1)] a) hS ?_ ?_
        · clear hS hf; clear a; clear hE; intro s2 a w7 hM hS
          obtain ⟨hE, hf⟩ := hM
          refine sq ?_
          refine ctj (fun (s4 : Bool) (a : Act) (w' : World) => Ext w w' ∧ Fr 68 [(6, .bool s4)] a) hS ?_ ?_
          · clear hS hf; clear a; clear hE; intro s4 a w8 hM hS
            obtain ⟨hE, hf⟩ := hM
            have hr := Option.some.inj hS; subst hr
            refine wp_ret ?_
            exact ret_ok hf (vs := [.bool s4]) (by kernel_rfl) ⟨rfl, hE⟩
          · clear hS; intro KK4 k3 hK4 hS
            refine reg ?_
            refine st tbOk 2 [0, 8, 62] (L' := [(0, .slice ao_b b.length cp_b), (8, strV was_1), (62, .bool s1)]) hf (by kernel_rfl) ?_
            clear hf; clear a; intro a hf
            rcases Bool.eq_false_or_eq_true (s1) with hb5 | hb5
            · replace hS := of_t hb5 hS
              replace hf := Fr.cast (L' := [(0, .slice ao_b b.length cp_b), (8, strV was_1), (62, .bool true)]) hf (by rw [hb5])
              refine st tbOk 1 [8, 62, 63] (L' := [(8, strV was_1), (62, .bool true), (63, .slice ao_b b.length cp_b)]) hf (by kernel_rfl) ?_
              clear hf; clear a; intro a hf
              refine b2s tbOk u22 u5 u9 h_b hE.le hf (by kernel_rfl) (by kernel_rfl) (by kernel_rfl) ?_
              clear hf; clear a; intro a hf
              replace hf := Fr.keep (ks := [8, 62, 64]) (L' := [(8, strV was_1), (62, .bool true), (64, strV (toStr b))]) hf (by kernel_rfl)
              refine st tbOk 4 [6] (L' := [(6, .bool ((toStr b) == was_1))]) hf (by kernel_rfl) ?_
              clear hf; clear a; intro a hf
              refine wpList_nil ?_
              exact hK4 ((toStr b) == was_1) _ _ ⟨hE, hf.keep (ks := [6]) (by kernel_rfl)⟩ hS
            · replace hS := of_f hb5 hS
              replace hf := Fr.cast (L' := [(0, .slice ao_b b.length cp_b), (8, strV was_1), (62, .bool false)]) hf (by rw [hb5])
              refine st tbOk 6 [6] (L' := [(6, .bool false)]) hf (by kernel_rfl) ?_
              clear hf; clear a; intro a hf
              refine wpList_nil ?_
              exact hK4 false _ _ ⟨hE, hf.keep (ks := [6]) (by kernel_rfl)⟩ hS
        · clear hS; intro KK2 k2 hK2 hS
          refine blk ?_
          refine lp (st := (z2.1, 0)) (fun (s3 : (List Int) × Int) (a : Act) (w' : World) => ∃ (ao3 : Option Addr) (cp3 : Nat), Ext w w' ∧ Own w' w.heap.size mt 5 (tI .u8) (.slice ao3 s3.1.length cp3) s3.1 ∧ Fr 68 [(0, .slice ao_b b.length cp_b), (8, strV was_1), (9, .slice ao3 s3.1.length cp3), (13, .bool s1), (14, .int .i64 s3.2)] a) ?_ ⟨ao1, cp1, hE, ho1, hf.keep (ks := [0, 8, 9, 13, 14]) (by kernel_rfl)⟩ hS
          clear hS hf; clear a; clear hE
          intro rec1 KK3 hK3 s3 a w5 hM hS
          obtain ⟨ao3, cp3, hE, ho3, hf⟩ := hM
          refine sq ?_
          refine sq ?_
          refine reg ?_
          refine st tbOk 4 [0, 8, 9, 13, 14, 50] (L' := [(0, .slice ao_b b.length cp_b), (8, strV was_1), (9, .slice ao3 s3.1.length cp3), (13, .bool s1), (14, .int .i64 s3.2), (50, .bool (decide (s3.2 < ((s3.1.length : Nat) : Int))))]) hf (by kernel_rfl) ?_
          clear hf; clear a; intro a hf
          refine wpList_nil ?_
          refine cnd (b := decide (s3.2 < ((s3.1.length : Nat) : Int))) hf (by kernel_rfl) (fun hb4 => ?_) (fun hb4 => ?_)
          · replace hS := of_t hb4 hS
            refine wp_skip ?_
            refine sq ?_
            refine blk ?_
            refine reg ?_
            refine st tbOk 4 [0, 8, 9, 13, 14, 53, 54, 55, 56] (L' := [(0, .slice ao_b b.length cp_b), (8, strV was_1), (9, .slice ao3 s3.1.length cp3), (13, .bool s1), (14, .int .i64 s3.2), (53, .slice ao3 s3.1.length cp3), (54, .int .i64 s3.2), (55, .slice ao3 s3.1.length cp3), (56, .int .i64 s3.2)]) hf (by kernel_rfl) ?_
            clear hf; clear a; intro a hf
            have hT := of_gd hS; clear hS; obtain ⟨hc1, hS⟩ := hT
            refine ix tbOk u22 i5 rfl rfl (ho3.ro (mt_le _)) (k := .i64) (n := s3.2) hc1 hf (by kernel_rfl) (by kernel_rfl) (by kernel_rfl) (by kernel_rfl) ?_
            clear hf; clear a; intro p1 c1 a hp1 hr1 hf
            obtain rfl : c1 = [.int .u8 (gt s3.1 s3.2)] := hr1
            replace hf := Fr.keep (ks := [0, 8, 9, 13, 14, 53, 54, 57]) (L' := [(0, .slice ao_b b.length cp_b), (8, strV was_1), (9, .slice ao3 s3.1.length cp3), (13, .bool s1), (14, .int .i64 s3.2), (53, .slice ao3 s3.1.length cp3), (54, .int .i64 s3.2), (57, .pointer (some p1))]) hf (by kernel_rfl)
            refine ld tbOk u5 rfl hp1 (LeH.refl _) hf (by kernel_rfl) (by kernel_rfl) (by kernel_rfl) ?_
            clear hf; clear a; intro a hf
            replace hf := Fr.keep (ks := [0, 8, 9, 13, 14, 53, 54, 58]) (L' := [(0, .slice ao_b b.length cp_b), (8, strV was_1), (9, .slice ao3 s3.1.length cp3), (13, .bool s1), (14, .int .i64 s3.2), (53, .slice ao3 s3.1.length cp3), (54, .int .i64 s3.2), (58, .int .u8 (gt s3.1 s3.2))]) hf (by kernel_rfl)
            refine st tbOk 1 [0, 8, 9, 13, 14, 53, 54, 59] (L' := [(0, .slice ao_b b.length cp_b), (8, strV was_1), (9, .slice ao3 s3.1.length cp3), (13, .bool s1), (14, .int .i64 s3.2), (53, .slice ao3 s3.1.length cp3), (54, .int .i64 s3.2), (59, .int .u8 (bxor .u8 (gt s3.1 s3.2) 255))]) hf (by kernel_rfl) ?_
            clear hf; clear a; intro a hf
            have hT := of_gd hS; clear hS; obtain ⟨hc2, hS⟩ := hT
            refine ixO tbOk u22 i5 ho3 (k := .i64) (n := s3.2) hc2 hf (by kernel_rfl) (by kernel_rfl) (by kernel_rfl) (by kernel_rfl) ?_
            clear hf; clear a; intro p2 a hp2 hf
            replace hf := Fr.keep (ks := [0, 8, 9, 13, 14, 59, 60]) (L' := [(0, .slice ao_b b.length cp_b), (8, strV was_1), (9, .slice ao3 s3.1.length cp3), (13, .bool s1), (14, .int .i64 s3.2), (59, .int .u8 (bxor .u8 (gt s3.1 s3.2) 255)), (60, .pointer (some p2))]) hf (by kernel_rfl)
            refine sto tbOk i5 rfl ho3 hc2 hp2 (u := .int .u8 (bxor .u8 (gt s3.1 s3.2) 255)) (yv := bxor .u8 (gt s3.1 s3.2) 255) rfl rfl hf (by kernel_rfl) (by kernel_rfl) (by kernel_rfl) ?_
            clear hf; clear a; intro w6 a hN hg hz hf
            replace hE := hE.grow hg (fun k hk => (ho3.lt k hk).1)
            replace ho3 : Own w6 w.heap.size mt 5 (tI .u8) (.slice ao3 (s3.1.set (s3.2).toNat (bxor .u8 (gt s3.1 s3.2) 255)).length cp3) (s3.1.set (s3.2).toNat (bxor .u8 (gt s3.1 s3.2) 255)) := by simpa only [List.length_set] using hN
            clear hN; replace hf := Fr.cast (L' := [(0, .slice ao_b b.length cp_b), (8, strV was_1), (9, .slice ao3 (s3.1.set (s3.2).toNat (bxor .u8 (gt s3.1 s3.2) 255)).length cp3), (13, .bool s1), (14, .int .i64 s3.2), (59, .int .u8 (bxor .u8 (gt s3.1 s3.2) 255)), (60, .pointer (some p2))]) hf (by simp only [List.length_set])
            replace hf := Fr.keep (ks := [0, 8, 9, 13, 14]) (L' := [(0, .slice ao_b b.length cp_b), (8, strV was_1), (9, .slice ao3 (s3.1.set (s3.2).toNat (bxor .u8 (gt s3.1 s3.2) 255)).length cp3), (13, .bool s1), (14, .int .i64 s3.2)]) hf (by kernel_rfl)
            refine wpList_nil ?_
            refine reg ?_
            have hT := of_let hS; clear hS; obtain ⟨i_1, hl3, hS⟩ := hT
            refine st tbOk 3 [0, 8, 9, 13, 14] (L' := [(0, .slice ao_b b.length cp_b), (8, strV was_1), (9, .slice ao3 (s3.1.set (s3.2).toNat (bxor .u8 (gt s3.1 s3.2) 255)).length cp3), (13, .bool s1), (14, .int .i64 i_1)]) hf (by subst hl3; kernel_rfl) ?_
            clear hf; clear a; intro a hf
            refine wpList_nil ?_
            exact hK3 ((s3.1.set (s3.2).toNat (bxor .u8 (gt s3.1 s3.2) 255)), i_1) _ _ ⟨ao3, cp3, hE, ho3, hf.keep (ks := [0, 8, 9, 13, 14]) (by kernel_rfl)⟩ hS
          · replace hS := of_f hb4 hS
            refine wp_exit ?_
            exact hK2 () _ _ ⟨hE, hf.keep (ks := [0, 8, 13]) (by kernel_rfl)⟩ hS
      · clear hS; intro KK1 k1 hK1 hS
        refine reg ?_
        refine st tbOk 4 [0, 8, 9, 11, 40] (L' := [(0, .slice ao_b b.length cp_b), (8, strV was_1), (9, .slice ao1 z2.1.length cp1), (11, .slice ao2 z3.1.length cp2), (40, .bool (z2.2 == z3.2))]) hf (by kernel_rfl) ?_
        clear hf; clear a; intro a hf
        rcases Bool.eq_false_or_eq_true (z2.2 == z3.2) with hb3 | hb3
        · replace hS := of_t hb3 hS
          replace hf := Fr.cast (L' := [(0, .slice ao_b b.length cp_b), (8, strV was_1), (9, .slice ao1 z2.1.length cp1), (11, .slice ao2 z3.1.length cp2), (40, .bool true)]) hf (by rw [hb3])
          refine st tbOk 1 [0, 8, 9, 11, 40, 41] (L' := [(0, .slice ao_b b.length cp_b), (8, strV was_1), (9, .slice ao1 z2.1.length cp1), (11, .slice ao2 z3.1.length cp2), (40, .bool true), (41, .slice ao1 z2.1.length cp1)]) hf (by kernel_rfl) ?_
          clear hf; clear a; intro a hf
          refine b2s tbOk u22 u5 u9 (ho1.ro (mt_le _)) (LeH.refl _) hf (by kernel_rfl) (by kernel_rfl) (by kernel_rfl) ?_
          clear hf; clear a; intro a hf
          replace hf := Fr.keep (ks := [0, 8, 9, 11, 40, 42]) (L' := [(0, .slice ao_b b.length cp_b), (8, strV was_1), (9, .slice ao1 z2.1.length cp1), (11, .slice ao2 z3.1.length cp2), (40, .bool true), (42, strV (toStr z2.1))]) hf (by kernel_rfl)
          refine st tbOk 1 [0, 8, 9, 40, 42, 43] (L' := [(0, .slice ao_b b.length cp_b), (8, strV was_1), (9, .slice ao1 z2.1.length cp1), (40, .bool true), (42, strV (toStr z2.1)), (43, .slice ao2 z3.1.length cp2)]) hf (by kernel_rfl) ?_
          clear hf; clear a; intro a hf
          refine b2s tbOk u22 u5 u9 (ho2.ro (mt_le _)) (LeH.refl _) hf (by kernel_rfl) (by kernel_rfl) (by kernel_rfl) ?_
          clear hf; clear a; intro a hf
          replace hf := Fr.keep (ks := [0, 8, 9, 40, 42, 44]) (L' := [(0, .slice ao_b b.length cp_b), (8, strV was_1), (9, .slice ao1 z2.1.length cp1), (40, .bool true), (42, strV (toStr z2.1)), (44, strV (toStr z3.1))]) hf (by kernel_rfl)
          have hT := of_let hS; clear hS; obtain ⟨one_1, hl2, hS⟩ := hT
          refine st tbOk 3 [0, 8, 9, 13] (L' := [(0, .slice ao_b b.length cp_b), (8, strV was_1), (9, .slice ao1 z2.1.length cp1), (13, .bool one_1)]) hf (by subst hl2; kernel_rfl) ?_
          clear hf; clear a; intro a hf
          refine wpList_nil ?_
          exact hK1 one_1 _ _ ⟨hE, ho1, hf.keep (ks := [0, 8, 9, 13]) (by kernel_rfl)⟩ hS
        · replace hS := of_f hb3 hS
          replace hf := Fr.cast (L' := [(0, .slice ao_b b.length cp_b), (8, strV was_1), (9, .slice ao1 z2.1.length cp1), (11, .slice ao2 z3.1.length cp2), (40, .bool false)]) hf (by rw [hb3])
          refine st tbOk 7 [0, 8, 9, 13] (L' := [(0, .slice ao_b b.length cp_b), (8, strV was_1), (9, .slice ao1 z2.1.length cp1), (13, .bool false)]) hf (by kernel_rfl) ?_
          clear hf; clear a; intro a hf
          refine wpList_nil ?_
          exact hK1 false _ _ ⟨hE, ho1, hf.keep (ks := [0, 8, 9, 13]) (by kernel_rfl)⟩ hS

end Dm
