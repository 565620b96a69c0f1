/-
  The walk of the law OctetsBack; printed by a program of this repo. No condition.
-/
import Derived.Test.YtdigooncdjnfbaaW
namespace Dm
open Go Go.RowKit Go.Proofs

theorem law01_OctetsBack_ok {w : World} {b : List Int} {p_at : Int} {p_which : Int} {p_x : Int} {v_b : Value} (h_b : RO (hp w) (tI .u8) v_b b) {r : Bool} (hS : law01_OctetsBack b p_at p_which p_x = some r) :
    Calls Try.prog 8 #[v_b, .int .i64 p_at, .int .i64 p_which, .int .u64 p_x] w (Gives (fun u w' => u = .bool r ∧ Ext w w')) := by
  obtain ⟨ao_b, cp_b, e_b⟩ := h_b.shape; subst e_b
  unfold law01_OctetsBack at hS
  refine fn_ok (vs := [.slice ao_b b.length cp_b, .int .i64 p_at, .int .i64 p_which, .int .u64 p_x]) Try.func8 rfl 164 Try.ntmps8 (Nat.le_of_ble_eq_true rfl) ?_
  intro a hf
  replace hf := Fr.cast (L' := [(0, .slice ao_b b.length cp_b), (1, .int .i64 p_at), (2, .int .i64 p_which), (3, .int .u64 p_x)]) hf (by kernel_rfl)
  have hE := Ext.rfl' w
  refine sq ?_
  refine reg ?_
  refine st tbOk 1 [0, 1, 2, 3] (L' := [(0, .slice ao_b b.length cp_b), (1, .int .i64 p_at), (2, .int .i64 p_which), (3, .int .u64 p_x)]) hf (by kernel_rfl) ?_
  clear hf; clear a; intro a hf
  refine wpList_nil ?_
  refine sq ?_
  refine reg ?_
  have hT := of_bd hS; clear hS; obtain ⟨z1, hz1, hS⟩ := hT
  refine cl ent11 (vs := []) hf (by kernel_rfl) (by kernel_rfl) (by kernel_rfl) (law01_awake_ok  hz1) ?_
  clear hf; clear a; intro v w1 a hT hf; obtain ⟨rfl, hx⟩ := hT
  replace hE := hE.tr hx
  replace hf := Fr.keep (ks := [0, 1, 2, 3, 21]) (L' := [(0, .slice ao_b b.length cp_b), (1, .int .i64 p_at), (2, .int .i64 p_which), (3, .int .u64 p_x), (21, .bool z1)]) hf (by kernel_rfl)
  refine st tbOk 1 [0, 1, 2, 3, 9] (L' := [(0, .slice ao_b b.length cp_b), (1, .int .i64 p_at), (2, .int .i64 p_which), (3, .int .u64 p_x), (9, .bool z1)]) hf (by kernel_rfl) ?_
  clear hf; clear a; intro a hf
  refine wpList_nil ?_
  refine sq ?_
  refine sq ?_
  refine reg ?_
  refine st tbOk 2 [0, 1, 2, 3, 23] (L' := [(0, .slice ao_b b.length cp_b), (1, .int .i64 p_at), (2, .int .i64 p_which), (3, .int .u64 p_x), (23, .bool (!z1))]) hf (by kernel_rfl) ?_
  clear hf; clear a; intro a hf
  refine wpList_nil ?_
  refine cnd (b := !z1) hf (by kernel_rfl) (fun hb1 => ?_) (fun hb1 => ?_)
  · replace hS := of_t hb1 hS
    refine sq ?_
    refine reg ?_
    refine st tbOk 1 [8] (L' := [(8, .bool false)]) hf (by kernel_rfl) ?_
    clear hf; clear a; intro a hf
    refine wpList_nil ?_
    have hr := Option.some.inj hS; subst hr
    refine wp_ret ?_
    exact ret_ok hf (vs := [.bool false]) (by kernel_rfl) ⟨rfl, hE⟩
  · replace hS := of_f hb1 hS
    refine wp_skip ?_
    refine sq ?_
    refine sq ?_
    refine ctj (fun (s1 : Bool) (a : Act) (w' : World) => Ext w w' ∧ Fr 164 [(0, .slice ao_b b.length cp_b), (1, .int .i64 p_at), (2, .int .i64 p_which), (3, .int .u64 p_x), (31, .bool s1)] a) hS ?_ ?_
    · clear hS hf; clear a; clear hE; intro s1 a w2 hM hS
      obtain ⟨hE, hf⟩ := hM
      refine cnd (b := s1) hf (by kernel_rfl) (fun hb3 => ?_) (fun hb3 => ?_)
      · replace hS := of_t hb3 hS
        refine sq ?_
        refine reg ?_
        refine st tbOk 1 [8] (L' := [(8, .bool true)]) hf (by kernel_rfl) ?_
        clear hf; clear a; intro a hf
        refine wpList_nil ?_
        have hr := Option.some.inj hS; subst hr
        refine wp_ret ?_
        exact ret_ok hf (vs := [.bool true]) (by kernel_rfl) ⟨rfl, hE⟩
      · replace hS := of_f hb3 hS
        refine wp_skip ?_
        refine sq ?_
        refine reg ?_
        refine bs tbOk u37 i3 rfl (t := (tI .i64)) (vs := [(0, .int .i64 1), (1, .int .i64 2), (2, .int .i64 4), (3, .int .i64 8)]) (cells := #[.int .i64 1, .int .i64 2, .int .i64 4, .int .i64 8]) ([1, 2, 4, 8] : List Int) hf (by kernel_rfl) (by kernel_rfl) (by kernel_rfl) rfl (by kernel_rfl) (reps_flat _) rfl ?_
        clear hf; clear a; intro w3 a ho1 hx hz hf
        replace ho1 := ho1.base hE.size
        replace hE := hE.tr hx
        replace hf := Fr.keep (ks := [0, 1, 2, 3, 32]) (L' := [(0, .slice ao_b b.length cp_b), (1, .int .i64 p_at), (2, .int .i64 p_which), (3, .int .u64 p_x), (32, .slice (some ⟨w2.heap.size, 0, none⟩) ([1, 2, 4, 8] : List Int).length ([1, 2, 4, 8] : List Int).length)]) hf (by kernel_rfl)
        refine st tbOk 2 [0, 1, 3, 32, 34] (L' := [(0, .slice ao_b b.length cp_b), (1, .int .i64 p_at), (3, .int .u64 p_x), (32, .slice (some ⟨w2.heap.size, 0, none⟩) ([1, 2, 4, 8] : List Int).length ([1, 2, 4, 8] : List Int).length), (34, .int .i64 (band .i64 p_which 3))]) hf (by kernel_rfl) ?_
        clear hf; clear a; intro a hf
        have hT := of_gd hS; clear hS; obtain ⟨hc1, hS⟩ := hT
        refine ix tbOk u37 i3 rfl rfl (ho1.ro (mt_le _)) (k := .i64) (n := band .i64 p_which 3) hc1 hf (by kernel_rfl) (by kernel_rfl) (by kernel_rfl) (by kernel_rfl) ?_
        clear hf; clear a; intro p1 c1 a hp1 hr1 hf
        obtain rfl : c1 = [.int .i64 (gt ([1, 2, 4, 8] : List Int) (band .i64 p_which 3))] := hr1
        replace hf := Fr.keep (ks := [0, 1, 3, 35]) (L' := [(0, .slice ao_b b.length cp_b), (1, .int .i64 p_at), (3, .int .u64 p_x), (35, .pointer (some p1))]) hf (by kernel_rfl)
        refine ld tbOk u3 rfl hp1 (LeH.refl _) hf (by kernel_rfl) (by kernel_rfl) (by kernel_rfl) ?_
        clear hf; clear a; intro a hf
        replace hf := Fr.keep (ks := [0, 1, 3, 36]) (L' := [(0, .slice ao_b b.length cp_b), (1, .int .i64 p_at), (3, .int .u64 p_x), (36, .int .i64 (gt ([1, 2, 4, 8] : List Int) (band .i64 p_which 3)))]) hf (by kernel_rfl)
        have hT := of_let hS; clear hS; obtain ⟨n_1, hl1, hS⟩ := hT
        refine st tbOk 1 [0, 1, 3, 10] (L' := [(0, .slice ao_b b.length cp_b), (1, .int .i64 p_at), (3, .int .u64 p_x), (10, .int .i64 n_1)]) hf (by subst hl1; kernel_rfl) ?_
        clear hf; clear a; intro a hf
        refine wpList_nil ?_
        refine sq ?_
        refine reg ?_
        refine st tbOk 7 [0, 3, 10, 38, 43] (L' := [(0, .slice ao_b b.length cp_b), (3, .int .u64 p_x), (10, .int .i64 n_1), (38, .int .i64 (band .i64 p_at 16777215)), (43, .int .i64 (IntKind.i64.wrap ((IntKind.i64.wrap (((b.length : Nat) : Int) - n_1)) + 1)))]) hf (by kernel_rfl) ?_
        clear hf; clear a; intro a hf
        have hT := of_gd hS; clear hS; obtain ⟨hc2, hS⟩ := hT
        refine bin (run_rem (k := .i64) (x := band .i64 p_at 16777215) hc2 _) hf (by kernel_rfl) (by kernel_rfl) (by kernel_rfl) (by kernel_rfl) ?_
        clear hf; clear a; intro a hf
        replace hf := Fr.keep (ks := [0, 3, 10, 44]) (L' := [(0, .slice ao_b b.length cp_b), (3, .int .u64 p_x), (10, .int .i64 n_1), (44, .int .i64 (Int.tmod (band .i64 p_at 16777215) (IntKind.i64.wrap ((IntKind.i64.wrap (((b.length : Nat) : Int) - n_1)) + 1))))]) hf (by kernel_rfl)
        have hT := of_let hS; clear hS; obtain ⟨k_1, hl2, hS⟩ := hT
        refine st tbOk 1 [0, 3, 10, 11] (L' := [(0, .slice ao_b b.length cp_b), (3, .int .u64 p_x), (10, .int .i64 n_1), (11, .int .i64 k_1)]) hf (by subst hl2; kernel_rfl) ?_
        clear hf; clear a; intro a hf
        refine wpList_nil ?_
        refine sq ?_
        refine reg ?_
        refine st tbOk 5 [0, 3, 10, 11, 46, 48, 49, 50] (L' := [(0, .slice ao_b b.length cp_b), (3, .int .u64 p_x), (10, .int .i64 n_1), (11, .int .i64 k_1), (46, .slice ao_b b.length cp_b), (48, .int .u64 (IntKind.u64.wrap k_1)), (49, .int .i64 n_1), (50, .int .u64 p_x)]) hf (by kernel_rfl) ?_
        clear hf; clear a; intro a hf
        have hT := of_bd hS; clear hS; obtain ⟨z2, hz2, hS⟩ := hT
        refine cl ent14 (vs := [.slice ao_b b.length cp_b, .int .u64 (IntKind.u64.wrap k_1), .int .i64 n_1, .int .u64 p_x]) hf (by kernel_rfl) (by kernel_rfl) (by kernel_rfl) (octets_Set_ok (h_b.mono hE.le) hz2) ?_
        clear hf; clear a; intro v w4 a hT hf; obtain ⟨ao1, cp1, rfl, hx, ho2⟩ := hT
        have dj1 := Dj.new ho1 ho2
        replace ho2 := ho2.base hE.size
        replace hE := hE.tr hx
        replace ho1 := ho1.ext hx
        replace hf := Fr.keep (ks := [0, 3, 10, 11, 51]) (L' := [(0, .slice ao_b b.length cp_b), (3, .int .u64 p_x), (10, .int .i64 n_1), (11, .int .i64 k_1), (51, .tuple #[.slice ao1 z2.1.length cp1, .int .i64 z2.2])]) hf (by kernel_rfl)
        refine st tbOk 5 [0, 3, 10, 11, 12, 13] (L' := [(0, .slice ao_b b.length cp_b), (3, .int .u64 p_x), (10, .int .i64 n_1), (11, .int .i64 k_1), (12, .slice ao1 z2.1.length cp1), (13, .int .i64 z2.2)]) hf (by kernel_rfl) ?_
        clear hf; clear a; intro a hf
        refine wpList_nil ?_
        refine sq ?_
        refine reg ?_
        refine st tbOk 4 [0, 3, 10, 11, 12, 13, 55, 57, 58] (L' := [(0, .slice ao_b b.length cp_b), (3, .int .u64 p_x), (10, .int .i64 n_1), (11, .int .i64 k_1), (12, .slice ao1 z2.1.length cp1), (13, .int .i64 z2.2), (55, .slice ao1 z2.1.length cp1), (57, .int .u64 (IntKind.u64.wrap k_1)), (58, .int .i64 n_1)]) hf (by kernel_rfl) ?_
        clear hf; clear a; intro a hf
        have hT := of_bd hS; clear hS; obtain ⟨z3, hz3, hS⟩ := hT
        refine cl ent12 (vs := [.slice ao1 z2.1.length cp1, .int .u64 (IntKind.u64.wrap k_1), .int .i64 n_1]) hf (by kernel_rfl) (by kernel_rfl) (by kernel_rfl) (octets_Get_ok (ho2.ro (mt_le _)) hz3) ?_
        clear hf; clear a; intro v w5 a hT hf; obtain ⟨rfl, hx⟩ := hT
        replace hE := hE.tr hx
        replace ho1 := ho1.ext hx
        replace ho2 := ho2.ext hx
        replace hf := Fr.keep (ks := [0, 3, 10, 11, 12, 13, 59]) (L' := [(0, .slice ao_b b.length cp_b), (3, .int .u64 p_x), (10, .int .i64 n_1), (11, .int .i64 k_1), (12, .slice ao1 z2.1.length cp1), (13, .int .i64 z2.2), (59, .tuple #[.int .u64 z3.1, .int .i64 z3.2])]) hf (by kernel_rfl)
        refine st tbOk 5 [0, 3, 10, 11, 12, 13, 14, 15] (L' := [(0, .slice ao_b b.length cp_b), (3, .int .u64 p_x), (10, .int .i64 n_1), (11, .int .i64 k_1), (12, .slice ao1 z2.1.length cp1), (13, .int .i64 z2.2), (14, .int .u64 z3.1), (15, .int .i64 z3.2)]) hf (by kernel_rfl) ?_
        clear hf; clear a; intro a hf
        refine wpList_nil ?_
        refine sq ?_
        refine reg ?_
        refine st tbOk 5 [0, 3, 10, 11, 12, 13, 14, 15, 63, 65, 67] (L' := [(0, .slice ao_b b.length cp_b), (3, .int .u64 p_x), (10, .int .i64 n_1), (11, .int .i64 k_1), (12, .slice ao1 z2.1.length cp1), (13, .int .i64 z2.2), (14, .int .u64 z3.1), (15, .int .i64 z3.2), (63, .slice ao1 z2.1.length cp1), (65, .int .u64 (IntKind.u64.wrap k_1)), (67, .int .u64 (IntKind.u64.wrap n_1))]) hf (by kernel_rfl) ?_
        clear hf; clear a; intro a hf
        have hT := of_bd hS; clear hS; obtain ⟨z4, hz4, hS⟩ := hT
        refine cl ent16 (vs := [.slice ao1 z2.1.length cp1, .int .u64 (IntKind.u64.wrap k_1), .int .u64 (IntKind.u64.wrap n_1)]) hf (by kernel_rfl) (by kernel_rfl) (by kernel_rfl) (octets_Cut_ok (ho2.ro (mt_le _)) hz4) ?_
        clear hf; clear a; intro v w6 a hT hf; obtain ⟨ao2, cp2, rfl, hx, ho3⟩ := hT
        have dj2 := Dj.new ho1 ho3
        have dj3 := Dj.new ho2 ho3
        replace ho3 := ho3.base hE.size
        replace hE := hE.tr hx
        replace ho1 := ho1.ext hx
        replace ho2 := ho2.ext hx
        replace hf := Fr.keep (ks := [0, 3, 10, 11, 12, 13, 14, 15, 68]) (L' := [(0, .slice ao_b b.length cp_b), (3, .int .u64 p_x), (10, .int .i64 n_1), (11, .int .i64 k_1), (12, .slice ao1 z2.1.length cp1), (13, .int .i64 z2.2), (14, .int .u64 z3.1), (15, .int .i64 z3.2), (68, .tuple #[.slice ao2 z4.1.length cp2, .int .i64 z4.2])]) hf (by kernel_rfl)
        refine st tbOk 5 [0, 3, 10, 11, 12, 13, 14, 15, 16, 17] (L' := [(0, .slice ao_b b.length cp_b), (3, .int .u64 p_x), (10, .int .i64 n_1), (11, .int .i64 k_1), (12, .slice ao1 z2.1.length cp1), (13, .int .i64 z2.2), (14, .int .u64 z3.1), (15, .int .i64 z3.2), (16, .slice ao2 z4.1.length cp2), (17, .int .i64 z4.2)]) hf (by kernel_rfl) ?_
        clear hf; clear a; intro a hf
        refine wpList_nil ?_
        refine sq ?_
        refine sq ?_
        refine ctj (fun (s2 : Bool) (a : Act) (w' : World) => Ext w w' ∧ Own w' w.heap.size mt 5 (tI .u8) (.slice ao1 z2.1.length cp1) z2.1 ∧ Own w' w.heap.size mt 5 (tI .u8) (.slice ao2 z4.1.length cp2) z4.1 ∧ Fr 164 [(0, .slice ao_b b.length cp_b), (3, .int .u64 p_x), (10, .int .i64 n_1), (11, .int .i64 k_1), (12, .slice ao1 z2.1.length cp1), (14, .int .u64 z3.1), (16, .slice ao2 z4.1.length cp2), (93, .bool s2)] a) hS ?_ ?_
        · clear hS hf; clear a; clear hE; intro s2 a w7 hM hS
          obtain ⟨hE, ho2, ho3, hf⟩ := hM
          refine cnd (b := s2) hf (by kernel_rfl) (fun hb8 => ?_) (fun hb8 => ?_)
          · replace hS := of_t hb8 hS
            refine sq ?_
            refine reg ?_
            refine st tbOk 1 [8] (L' := [(8, .bool false)]) hf (by kernel_rfl) ?_
            clear hf; clear a; intro a hf
            refine wpList_nil ?_
            have hr := Option.some.inj hS; subst hr
            refine wp_ret ?_
            exact ret_ok hf (vs := [.bool false]) (by kernel_rfl) ⟨rfl, hE⟩
          · replace hS := of_f hb8 hS
            refine wp_skip ?_
            refine sq ?_
            refine sq ?_
            refine reg ?_
            refine st tbOk 1 [0, 3, 10, 11, 12, 14, 16, 18] (L' := [(0, .slice ao_b b.length cp_b), (3, .int .u64 p_x), (10, .int .i64 n_1), (11, .int .i64 k_1), (12, .slice ao1 z2.1.length cp1), (14, .int .u64 z3.1), (16, .slice ao2 z4.1.length cp2), (18, .int .i64 0)]) hf (by kernel_rfl) ?_
            clear hf; clear a; intro a hf
            refine wpList_nil ?_
            refine ctj (fun (s3 : Unit) (a : Act) (w' : World) => Ext w w' ∧ Own w' w.heap.size mt 5 (tI .u8) (.slice ao2 z4.1.length cp2) z4.1 ∧ Fr 164 [(3, .int .u64 p_x), (10, .int .i64 n_1), (14, .int .u64 z3.1), (16, .slice ao2 z4.1.length cp2)] a) hS ?_ ?_
            · clear hS hf; clear a; clear hE; intro s3 a w13 hM hS
              obtain ⟨hE, ho3, hf⟩ := hM
              refine sq ?_
              refine reg ?_
              refine st tbOk 1 [3, 10, 14, 16, 19] (L' := [(3, .int .u64 p_x), (10, .int .i64 n_1), (14, .int .u64 z3.1), (16, .slice ao2 z4.1.length cp2), (19, .int .u64 0)]) hf (by kernel_rfl) ?_
              clear hf; clear a; intro a hf
              refine wpList_nil ?_
              refine sq ?_
              refine sq ?_
              refine reg ?_
              refine st tbOk 1 [3, 10, 14, 16, 19, 20] (L' := [(3, .int .u64 p_x), (10, .int .i64 n_1), (14, .int .u64 z3.1), (16, .slice ao2 z4.1.length cp2), (19, .int .u64 0), (20, .int .i64 0)]) hf (by kernel_rfl) ?_
              clear hf; clear a; intro a hf
              refine wpList_nil ?_
              refine ctj (fun (s6 : Int) (a : Act) (w' : World) => Ext w w' ∧ Fr 164 [(3, .int .u64 p_x), (10, .int .i64 n_1), (14, .int .u64 z3.1), (19, .int .u64 s6)] a) hS ?_ ?_
              · clear hS hf; clear a; clear hE; intro s6 a w15 hM hS
                obtain ⟨hE, hf⟩ := hM
                refine sq ?_
                refine ctj (fun (s8 : Bool) (a : Act) (w' : World) => Ext w w' ∧ Fr 164 [(8, .bool s8)] a) hS ?_ ?_
                · clear hS hf; clear a; clear hE; intro s8 a w16 hM hS
                  obtain ⟨hE, hf⟩ := hM
                  have hr := Option.some.inj hS; subst hr
                  refine wp_ret ?_
                  exact ret_ok hf (vs := [.bool s8]) (by kernel_rfl) ⟨rfl, hE⟩
                · clear hS; intro KK8 k6 hK8 hS
                  refine reg ?_
                  refine st tbOk 4 [3, 10, 14, 140] (L' := [(3, .int .u64 p_x), (10, .int .i64 n_1), (14, .int .u64 z3.1), (140, .bool (z3.1 == s6))]) hf (by kernel_rfl) ?_
                  clear hf; clear a; intro a hf
                  rcases Bool.eq_false_or_eq_true (z3.1 == s6) with hb14 | hb14
                  · replace hS := of_t hb14 hS
                    replace hf := Fr.cast (L' := [(3, .int .u64 p_x), (10, .int .i64 n_1), (14, .int .u64 z3.1), (140, .bool true)]) hf (by rw [hb14])
                    refine st tbOk 3 [3, 10, 14, 140, 143] (L' := [(3, .int .u64 p_x), (10, .int .i64 n_1), (14, .int .u64 z3.1), (140, .bool true), (143, .bool (n_1 == 8))]) hf (by kernel_rfl) ?_
                    clear hf; clear a; intro a hf
                    rcases Bool.eq_false_or_eq_true (n_1 == 8) with hb15 | hb15
                    · replace hS := of_t hb15 hS
                      replace hf := Fr.cast (L' := [(3, .int .u64 p_x), (10, .int .i64 n_1), (14, .int .u64 z3.1), (140, .bool true), (143, .bool true)]) hf (by rw [hb15])
                      refine st tbOk 5 [3, 10, 14, 140, 148] (L' := [(3, .int .u64 p_x), (10, .int .i64 n_1), (14, .int .u64 z3.1), (140, .bool true), (148, .bool (z3.1 == p_x))]) hf (by kernel_rfl) ?_
                      clear hf; clear a; intro a hf
                      rcases Bool.eq_false_or_eq_true (z3.1 == p_x) with hb16 | hb16
                      · replace hS := of_t hb16 hS
                        replace hf := Fr.cast (L' := [(3, .int .u64 p_x), (10, .int .i64 n_1), (14, .int .u64 z3.1), (140, .bool true), (148, .bool true)]) hf (by rw [hb16])
                        refine st tbOk 16 [8] (L' := [(8, .bool true)]) hf (by kernel_rfl) ?_
                        clear hf; clear a; intro a hf
                        refine wpList_nil ?_
                        exact hK8 true _ _ ⟨hE, hf.keep (ks := [8]) (by kernel_rfl)⟩ hS
                      · replace hS := of_f hb16 hS
                        replace hf := Fr.cast (L' := [(3, .int .u64 p_x), (10, .int .i64 n_1), (14, .int .u64 z3.1), (140, .bool true), (148, .bool false)]) hf (by rw [hb16])
                        refine st tbOk 3 [3, 10, 14, 140, 148, 151] (L' := [(3, .int .u64 p_x), (10, .int .i64 n_1), (14, .int .u64 z3.1), (140, .bool true), (148, .bool false), (151, .bool (decide (n_1 < 8)))]) hf (by kernel_rfl) ?_
                        clear hf; clear a; intro a hf
                        rcases Bool.eq_false_or_eq_true (decide (n_1 < 8)) with hb17 | hb17
                        · replace hS := of_t hb17 hS
                          replace hf := Fr.cast (L' := [(3, .int .u64 p_x), (10, .int .i64 n_1), (14, .int .u64 z3.1), (140, .bool true), (148, .bool false), (151, .bool true)]) hf (by rw [hb17])
                          refine st tbOk 5 [140, 148, 151, 152, 153, 156] (L' := [(140, .bool true), (148, .bool false), (151, .bool true), (152, .int .u64 z3.1), (153, .int .u64 p_x), (156, .int .u64 (IntKind.u64.wrap (IntKind.i64.wrap (8 * n_1))))]) hf (by kernel_rfl) ?_
                          clear hf; clear a; intro a hf
                          have hT := of_gd hS; clear hS; obtain ⟨hc9, hS⟩ := hT
                          refine bin (run_shl (k := .u64) (k' := .u64) (x := 1) hc9 _) hf (by kernel_rfl) (by kernel_rfl) (by kernel_rfl) (by kernel_rfl) ?_
                          clear hf; clear a; intro a hf
                          replace hf := Fr.keep (ks := [140, 148, 151, 152, 153, 157]) (L' := [(140, .bool true), (148, .bool false), (151, .bool true), (152, .int .u64 z3.1), (153, .int .u64 p_x), (157, .int .u64 (shl .u64 1 (IntKind.u64.wrap (IntKind.i64.wrap (8 * n_1)))))]) hf (by kernel_rfl)
                          refine st tbOk 7 [8] (L' := [(8, .bool (z3.1 == (band .u64 p_x (IntKind.u64.wrap ((shl .u64 1 (IntKind.u64.wrap (IntKind.i64.wrap (8 * n_1)))) - 1)))))]) hf (by kernel_rfl) ?_
                          clear hf; clear a; intro a hf
                          refine wpList_nil ?_
                          exact hK8 (z3.1 == (band .u64 p_x (IntKind.u64.wrap ((shl .u64 1 (IntKind.u64.wrap (IntKind.i64.wrap (8 * n_1)))) - 1)))) _ _ ⟨hE, hf.keep (ks := [8]) (by kernel_rfl)⟩ hS
                        · replace hS := of_f hb17 hS
                          replace hf := Fr.cast (L' := [(3, .int .u64 p_x), (10, .int .i64 n_1), (14, .int .u64 z3.1), (140, .bool true), (148, .bool false), (151, .bool false)]) hf (by rw [hb17])
                          refine st tbOk 13 [8] (L' := [(8, .bool false)]) hf (by kernel_rfl) ?_
                          clear hf; clear a; intro a hf
                          refine wpList_nil ?_
                          exact hK8 false _ _ ⟨hE, hf.keep (ks := [8]) (by kernel_rfl)⟩ hS
                    · replace hS := of_f hb15 hS
                      replace hf := Fr.cast (L' := [(3, .int .u64 p_x), (10, .int .i64 n_1), (14, .int .u64 z3.1), (140, .bool true), (143, .bool false)]) hf (by rw [hb15])
                      refine st tbOk 8 [3, 10, 14, 140, 148, 151] (L' := [(3, .int .u64 p_x), (10, .int .i64 n_1), (14, .int .u64 z3.1), (140, .bool true), (148, .bool false), (151, .bool (decide (n_1 < 8)))]) hf (by kernel_rfl) ?_
                      clear hf; clear a; intro a hf
                      rcases Bool.eq_false_or_eq_true (decide (n_1 < 8)) with hb18 | hb18
                      · replace hS := of_t hb18 hS
                        replace hf := Fr.cast (L' := [(3, .int .u64 p_x), (10, .int .i64 n_1), (14, .int .u64 z3.1), (140, .bool true), (148, .bool false), (151, .bool true)]) hf (by rw [hb18])
                        refine st tbOk 5 [140, 148, 151, 152, 153, 156] (L' := [(140, .bool true), (148, .bool false), (151, .bool true), (152, .int .u64 z3.1), (153, .int .u64 p_x), (156, .int .u64 (IntKind.u64.wrap (IntKind.i64.wrap (8 * n_1))))]) hf (by kernel_rfl) ?_
                        clear hf; clear a; intro a hf
                        have hT := of_gd hS; clear hS; obtain ⟨hc10, hS⟩ := hT
                        refine bin (run_shl (k := .u64) (k' := .u64) (x := 1) hc10 _) hf (by kernel_rfl) (by kernel_rfl) (by kernel_rfl) (by kernel_rfl) ?_
                        clear hf; clear a; intro a hf
                        replace hf := Fr.keep (ks := [140, 148, 151, 152, 153, 157]) (L' := [(140, .bool true), (148, .bool false), (151, .bool true), (152, .int .u64 z3.1), (153, .int .u64 p_x), (157, .int .u64 (shl .u64 1 (IntKind.u64.wrap (IntKind.i64.wrap (8 * n_1)))))]) hf (by kernel_rfl)
                        refine st tbOk 7 [8] (L' := [(8, .bool (z3.1 == (band .u64 p_x (IntKind.u64.wrap ((shl .u64 1 (IntKind.u64.wrap (IntKind.i64.wrap (8 * n_1)))) - 1)))))]) hf (by kernel_rfl) ?_
                        clear hf; clear a; intro a hf
                        refine wpList_nil ?_
                        exact hK8 (z3.1 == (band .u64 p_x (IntKind.u64.wrap ((shl .u64 1 (IntKind.u64.wrap (IntKind.i64.wrap (8 * n_1)))) - 1)))) _ _ ⟨hE, hf.keep (ks := [8]) (by kernel_rfl)⟩ hS
                      · replace hS := of_f hb18 hS
                        replace hf := Fr.cast (L' := [(3, .int .u64 p_x), (10, .int .i64 n_1), (14, .int .u64 z3.1), (140, .bool true), (148, .bool false), (151, .bool false)]) hf (by rw [hb18])
                        refine st tbOk 13 [8] (L' := [(8, .bool false)]) hf (by kernel_rfl) ?_
                        clear hf; clear a; intro a hf
                        refine wpList_nil ?_
                        exact hK8 false _ _ ⟨hE, hf.keep (ks := [8]) (by kernel_rfl)⟩ hS
                  · replace hS := of_f hb14 hS
                    replace hf := Fr.cast (L' := [(3, .int .u64 p_x), (10, .int .i64 n_1), (14, .int .u64 z3.1), (140, .bool false)]) hf (by rw [hb14])
                    refine st tbOk 24 [8] (L' := [(8, .bool false)]) hf (by kernel_rfl) ?_
                    clear hf; clear a; intro a hf
                    refine wpList_nil ?_
                    exact hK8 false _ _ ⟨hE, hf.keep (ks := [8]) (by kernel_rfl)⟩ hS
              · clear hS; intro KK6 k5 hK6 hS
                refine blk ?_
                refine lp (st := (0, 0)) (fun (s7 : Int × Int) (a : Act) (w' : World) => Ext w w' ∧ Own w' w.heap.size mt 5 (tI .u8) (.slice ao2 z4.1.length cp2) z4.1 ∧ Fr 164 [(3, .int .u64 p_x), (10, .int .i64 n_1), (14, .int .u64 z3.1), (16, .slice ao2 z4.1.length cp2), (19, .int .u64 s7.1), (20, .int .i64 s7.2)] a) ?_ ⟨hE, ho3, hf.keep (ks := [3, 10, 14, 16, 19, 20]) (by kernel_rfl)⟩ hS
                clear hS hf; clear a; clear hE
                intro rec2 KK7 hK7 s7 a w14 hM hS
                obtain ⟨hE, ho3, hf⟩ := hM
                refine sq ?_
                refine sq ?_
                refine reg ?_
                refine st tbOk 3 [3, 10, 14, 16, 19, 20, 123] (L' := [(3, .int .u64 p_x), (10, .int .i64 n_1), (14, .int .u64 z3.1), (16, .slice ao2 z4.1.length cp2), (19, .int .u64 s7.1), (20, .int .i64 s7.2), (123, .bool (decide (s7.2 < n_1)))]) hf (by kernel_rfl) ?_
                clear hf; clear a; intro a hf
                refine wpList_nil ?_
                refine cnd (b := decide (s7.2 < n_1)) hf (by kernel_rfl) (fun hb13 => ?_) (fun hb13 => ?_)
                · replace hS := of_t hb13 hS
                  refine wp_skip ?_
                  refine sq ?_
                  refine blk ?_
                  refine reg ?_
                  refine st tbOk 3 [3, 10, 14, 16, 20, 126, 127, 128] (L' := [(3, .int .u64 p_x), (10, .int .i64 n_1), (14, .int .u64 z3.1), (16, .slice ao2 z4.1.length cp2), (20, .int .i64 s7.2), (126, .int .u64 s7.1), (127, .slice ao2 z4.1.length cp2), (128, .int .i64 s7.2)]) hf (by kernel_rfl) ?_
                  clear hf; clear a; intro a hf
                  have hT := of_gd hS; clear hS; obtain ⟨hc7, hS⟩ := hT
                  refine ix tbOk u22 i5 rfl rfl (ho3.ro (mt_le _)) (k := .i64) (n := s7.2) hc7 hf (by kernel_rfl) (by kernel_rfl) (by kernel_rfl) (by kernel_rfl) ?_
                  clear hf; clear a; intro p6 c6 a hp6 hr6 hf
                  obtain rfl : c6 = [.int .u8 (gt z4.1 s7.2)] := hr6
                  replace hf := Fr.keep (ks := [3, 10, 14, 16, 20, 126, 129]) (L' := [(3, .int .u64 p_x), (10, .int .i64 n_1), (14, .int .u64 z3.1), (16, .slice ao2 z4.1.length cp2), (20, .int .i64 s7.2), (126, .int .u64 s7.1), (129, .pointer (some p6))]) hf (by kernel_rfl)
                  refine ld tbOk u5 rfl hp6 (LeH.refl _) hf (by kernel_rfl) (by kernel_rfl) (by kernel_rfl) ?_
                  clear hf; clear a; intro a hf
                  replace hf := Fr.keep (ks := [3, 10, 14, 16, 20, 126, 130]) (L' := [(3, .int .u64 p_x), (10, .int .i64 n_1), (14, .int .u64 z3.1), (16, .slice ao2 z4.1.length cp2), (20, .int .i64 s7.2), (126, .int .u64 s7.1), (130, .int .u8 (gt z4.1 s7.2))]) hf (by kernel_rfl)
                  refine st tbOk 4 [3, 10, 14, 16, 20, 126, 131, 134] (L' := [(3, .int .u64 p_x), (10, .int .i64 n_1), (14, .int .u64 z3.1), (16, .slice ao2 z4.1.length cp2), (20, .int .i64 s7.2), (126, .int .u64 s7.1), (131, .int .u64 (IntKind.u64.wrap (gt z4.1 s7.2))), (134, .int .u64 (IntKind.u64.wrap (IntKind.i64.wrap (8 * s7.2))))]) hf (by kernel_rfl) ?_
                  clear hf; clear a; intro a hf
                  have hT := of_gd hS; clear hS; obtain ⟨hc8, hS⟩ := hT
                  refine bin (run_shl (k := .u64) (k' := .u64) (x := IntKind.u64.wrap (gt z4.1 s7.2)) hc8 _) hf (by kernel_rfl) (by kernel_rfl) (by kernel_rfl) (by kernel_rfl) ?_
                  clear hf; clear a; intro a hf
                  replace hf := Fr.keep (ks := [3, 10, 14, 16, 20, 126, 135]) (L' := [(3, .int .u64 p_x), (10, .int .i64 n_1), (14, .int .u64 z3.1), (16, .slice ao2 z4.1.length cp2), (20, .int .i64 s7.2), (126, .int .u64 s7.1), (135, .int .u64 (shl .u64 (IntKind.u64.wrap (gt z4.1 s7.2)) (IntKind.u64.wrap (IntKind.i64.wrap (8 * s7.2)))))]) hf (by kernel_rfl)
                  have hT := of_let hS; clear hS; obtain ⟨z_1, hl4, hS⟩ := hT
                  refine st tbOk 2 [3, 10, 14, 16, 19, 20] (L' := [(3, .int .u64 p_x), (10, .int .i64 n_1), (14, .int .u64 z3.1), (16, .slice ao2 z4.1.length cp2), (19, .int .u64 z_1), (20, .int .i64 s7.2)]) hf (by subst hl4; kernel_rfl) ?_
                  clear hf; clear a; intro a hf
                  refine wpList_nil ?_
                  refine reg ?_
                  have hT := of_let hS; clear hS; obtain ⟨i_2, hl5, hS⟩ := hT
                  refine st tbOk 3 [3, 10, 14, 16, 19, 20] (L' := [(3, .int .u64 p_x), (10, .int .i64 n_1), (14, .int .u64 z3.1), (16, .slice ao2 z4.1.length cp2), (19, .int .u64 z_1), (20, .int .i64 i_2)]) hf (by subst hl5; kernel_rfl) ?_
                  clear hf; clear a; intro a hf
                  refine wpList_nil ?_
                  exact hK7 (z_1, i_2) _ _ ⟨hE, ho3, hf.keep (ks := [3, 10, 14, 16, 19, 20]) (by kernel_rfl)⟩ hS
                · replace hS := of_f hb13 hS
                  refine wp_exit ?_
                  exact hK6 s7.1 _ _ ⟨hE, hf.keep (ks := [3, 10, 14, 19]) (by kernel_rfl)⟩ hS
            · clear hS; intro KK3 k3 hK3 hS
              refine blk ?_
              refine lp (st := 0) (fun (s4 : Int) (a : Act) (w' : World) => Ext w w' ∧ Own w' w.heap.size mt 5 (tI .u8) (.slice ao1 z2.1.length cp1) z2.1 ∧ Own w' w.heap.size mt 5 (tI .u8) (.slice ao2 z4.1.length cp2) z4.1 ∧ Fr 164 [(0, .slice ao_b b.length cp_b), (3, .int .u64 p_x), (10, .int .i64 n_1), (11, .int .i64 k_1), (12, .slice ao1 z2.1.length cp1), (14, .int .u64 z3.1), (16, .slice ao2 z4.1.length cp2), (18, .int .i64 s4)] a) ?_ ⟨hE, ho2, ho3, hf.keep (ks := [0, 3, 10, 11, 12, 14, 16, 18]) (by kernel_rfl)⟩ hS
              clear hS hf; clear a; clear hE
              intro rec1 KK4 hK4 s4 a w8 hM hS
              obtain ⟨hE, ho2, ho3, hf⟩ := hM
              refine sq ?_
              refine sq ?_
              refine reg ?_
              refine st tbOk 4 [0, 3, 10, 11, 12, 14, 16, 18, 97] (L' := [(0, .slice ao_b b.length cp_b), (3, .int .u64 p_x), (10, .int .i64 n_1), (11, .int .i64 k_1), (12, .slice ao1 z2.1.length cp1), (14, .int .u64 z3.1), (16, .slice ao2 z4.1.length cp2), (18, .int .i64 s4), (97, .bool (decide (s4 < ((b.length : Nat) : Int))))]) hf (by kernel_rfl) ?_
              clear hf; clear a; intro a hf
              refine wpList_nil ?_
              refine cnd (b := decide (s4 < ((b.length : Nat) : Int))) hf (by kernel_rfl) (fun hb9 => ?_) (fun hb9 => ?_)
              · replace hS := of_t hb9 hS
                refine wp_skip ?_
                refine sq ?_
                refine blk ?_
                refine sq ?_
                refine ctj (fun (s5 : Bool) (a : Act) (w' : World) => Ext w w' ∧ Own w' w.heap.size mt 5 (tI .u8) (.slice ao1 z2.1.length cp1) z2.1 ∧ Own w' w.heap.size mt 5 (tI .u8) (.slice ao2 z4.1.length cp2) z4.1 ∧ Fr 164 [(0, .slice ao_b b.length cp_b), (3, .int .u64 p_x), (10, .int .i64 n_1), (11, .int .i64 k_1), (12, .slice ao1 z2.1.length cp1), (14, .int .u64 z3.1), (16, .slice ao2 z4.1.length cp2), (18, .int .i64 s4), (120, .bool s5)] a) hS ?_ ?_
                · clear hS hf; clear a; clear hE; intro s5 a w12 hM hS
                  obtain ⟨hE, ho2, ho3, hf⟩ := hM
                  refine cnd (b := s5) hf (by kernel_rfl) (fun hb12 => ?_) (fun hb12 => ?_)
                  · replace hS := of_t hb12 hS
                    refine sq ?_
                    refine reg ?_
                    refine st tbOk 1 [8] (L' := [(8, .bool false)]) hf (by kernel_rfl) ?_
                    clear hf; clear a; intro a hf
                    refine wpList_nil ?_
                    have hr := Option.some.inj hS; subst hr
                    refine wp_ret ?_
                    exact ret_ok hf (vs := [.bool false]) (by kernel_rfl) ⟨rfl, hE⟩
                  · replace hS := of_f hb12 hS
                    refine wp_skip ?_
                    refine reg ?_
                    have hT := of_let hS; clear hS; obtain ⟨i_1, hl3, hS⟩ := hT
                    refine st tbOk 3 [0, 3, 10, 11, 12, 14, 16, 18] (L' := [(0, .slice ao_b b.length cp_b), (3, .int .u64 p_x), (10, .int .i64 n_1), (11, .int .i64 k_1), (12, .slice ao1 z2.1.length cp1), (14, .int .u64 z3.1), (16, .slice ao2 z4.1.length cp2), (18, .int .i64 i_1)]) hf (by subst hl3; kernel_rfl) ?_
                    clear hf; clear a; intro a hf
                    refine wpList_nil ?_
                    exact hK4 i_1 _ _ ⟨hE, ho2, ho3, hf.keep (ks := [0, 3, 10, 11, 12, 14, 16, 18]) (by kernel_rfl)⟩ hS
                · clear hS; intro KK5 k4 hK5 hS
                  refine regQ mixed (by kernel_rfl) ?_
                  refine stQ tbOk 4 [0, 3, 10, 11, 12, 14, 16, 18, 103] (L' := [(0, .slice ao_b b.length cp_b), (3, .int .u64 p_x), (10, .int .i64 n_1), (11, .int .i64 k_1), (12, .slice ao1 z2.1.length cp1), (14, .int .u64 z3.1), (16, .slice ao2 z4.1.length cp2), (18, .int .i64 s4), (103, .bool (decide (s4 < k_1)))]) hf (by kernel_rfl) ?_
                  clear hf; clear a; intro a hf
                  rcases Bool.eq_false_or_eq_true (decide (s4 < k_1)) with hb10 | hb10
                  · replace hS := of_t hb10 hS
                    replace hf := Fr.cast (L' := [(0, .slice ao_b b.length cp_b), (3, .int .u64 p_x), (10, .int .i64 n_1), (11, .int .i64 k_1), (12, .slice ao1 z2.1.length cp1), (14, .int .u64 z3.1), (16, .slice ao2 z4.1.length cp2), (18, .int .i64 s4), (103, .bool true)]) hf (by rw [hb10])
                    refine stQ tbOk 9 [0, 3, 10, 11, 12, 14, 16, 18, 110, 111, 112] (L' := [(0, .slice ao_b b.length cp_b), (3, .int .u64 p_x), (10, .int .i64 n_1), (11, .int .i64 k_1), (12, .slice ao1 z2.1.length cp1), (14, .int .u64 z3.1), (16, .slice ao2 z4.1.length cp2), (18, .int .i64 s4), (110, .bool true), (111, .slice ao1 z2.1.length cp1), (112, .int .i64 s4)]) hf (by kernel_rfl) ?_
                    clear hf; clear a; intro a hf
                    have hT := of_gd hS; clear hS; obtain ⟨hc3, hS⟩ := hT
                    refine ixQ tbOk u22 i5 rfl rfl (ho2.ro (mt_le _)) (k := .i64) (n := s4) hc3 hf (by kernel_rfl) (by kernel_rfl) (by kernel_rfl) (by kernel_rfl) ?_
                    clear hf; clear a; intro p2 c2 a hp2 hr2 hf
                    obtain rfl : c2 = [.int .u8 (gt z2.1 s4)] := hr2
                    replace hf := Fr.keep (ks := [0, 3, 10, 11, 12, 14, 16, 18, 110, 113]) (L' := [(0, .slice ao_b b.length cp_b), (3, .int .u64 p_x), (10, .int .i64 n_1), (11, .int .i64 k_1), (12, .slice ao1 z2.1.length cp1), (14, .int .u64 z3.1), (16, .slice ao2 z4.1.length cp2), (18, .int .i64 s4), (110, .bool true), (113, .pointer (some p2))]) hf (by kernel_rfl)
                    refine ldQ tbOk u5 rfl hp2 (LeH.refl _) hf (by kernel_rfl) (by kernel_rfl) (by kernel_rfl) ?_
                    clear hf; clear a; intro a hf
                    replace hf := Fr.keep (ks := [0, 3, 10, 11, 12, 14, 16, 18, 110, 114]) (L' := [(0, .slice ao_b b.length cp_b), (3, .int .u64 p_x), (10, .int .i64 n_1), (11, .int .i64 k_1), (12, .slice ao1 z2.1.length cp1), (14, .int .u64 z3.1), (16, .slice ao2 z4.1.length cp2), (18, .int .i64 s4), (110, .bool true), (114, .int .u8 (gt z2.1 s4))]) hf (by kernel_rfl)
                    refine stQ tbOk 2 [0, 3, 10, 11, 12, 14, 16, 18, 110, 114, 115, 116] (L' := [(0, .slice ao_b b.length cp_b), (3, .int .u64 p_x), (10, .int .i64 n_1), (11, .int .i64 k_1), (12, .slice ao1 z2.1.length cp1), (14, .int .u64 z3.1), (16, .slice ao2 z4.1.length cp2), (18, .int .i64 s4), (110, .bool true), (114, .int .u8 (gt z2.1 s4)), (115, .slice ao_b b.length cp_b), (116, .int .i64 s4)]) hf (by kernel_rfl) ?_
                    clear hf; clear a; intro a hf
                    have hT := of_gd hS; clear hS; obtain ⟨hc4, hS⟩ := hT
                    refine ixQ tbOk u22 i5 rfl rfl h_b (k := .i64) (n := s4) hc4 hf (by kernel_rfl) (by kernel_rfl) (by kernel_rfl) (by kernel_rfl) ?_
                    clear hf; clear a; intro p3 c3 a hp3 hr3 hf
                    obtain rfl : c3 = [.int .u8 (gt b s4)] := hr3
                    replace hf := Fr.keep (ks := [0, 3, 10, 11, 12, 14, 16, 18, 110, 114, 117]) (L' := [(0, .slice ao_b b.length cp_b), (3, .int .u64 p_x), (10, .int .i64 n_1), (11, .int .i64 k_1), (12, .slice ao1 z2.1.length cp1), (14, .int .u64 z3.1), (16, .slice ao2 z4.1.length cp2), (18, .int .i64 s4), (110, .bool true), (114, .int .u8 (gt z2.1 s4)), (117, .pointer (some p3))]) hf (by kernel_rfl)
                    refine ldQ tbOk u5 rfl hp3 hE.le hf (by kernel_rfl) (by kernel_rfl) (by kernel_rfl) ?_
                    clear hf; clear a; intro a hf
                    replace hf := Fr.keep (ks := [0, 3, 10, 11, 12, 14, 16, 18, 110, 114, 118]) (L' := [(0, .slice ao_b b.length cp_b), (3, .int .u64 p_x), (10, .int .i64 n_1), (11, .int .i64 k_1), (12, .slice ao1 z2.1.length cp1), (14, .int .u64 z3.1), (16, .slice ao2 z4.1.length cp2), (18, .int .i64 s4), (110, .bool true), (114, .int .u8 (gt z2.1 s4)), (118, .int .u8 (gt b s4))]) hf (by kernel_rfl)
                    refine stQ tbOk 2 [0, 3, 10, 11, 12, 14, 16, 18, 120] (L' := [(0, .slice ao_b b.length cp_b), (3, .int .u64 p_x), (10, .int .i64 n_1), (11, .int .i64 k_1), (12, .slice ao1 z2.1.length cp1), (14, .int .u64 z3.1), (16, .slice ao2 z4.1.length cp2), (18, .int .i64 s4), (120, .bool ((gt z2.1 s4) != (gt b s4)))]) hf (by kernel_rfl) ?_
                    clear hf; clear a; intro a hf
                    refine wpQuiet_nil ?_
                    intro w9 hx
                    replace hE := hE.tr hx
                    replace ho2 := ho2.ext hx
                    replace ho3 := ho3.ext hx
                    exact hK5 ((gt z2.1 s4) != (gt b s4)) _ _ ⟨hE, ho2, ho3, hf.keep (ks := [0, 3, 10, 11, 12, 14, 16, 18, 120]) (by kernel_rfl)⟩ hS
                  · replace hS := of_f hb10 hS
                    replace hf := Fr.cast (L' := [(0, .slice ao_b b.length cp_b), (3, .int .u64 p_x), (10, .int .i64 n_1), (11, .int .i64 k_1), (12, .slice ao1 z2.1.length cp1), (14, .int .u64 z3.1), (16, .slice ao2 z4.1.length cp2), (18, .int .i64 s4), (103, .bool false)]) hf (by rw [hb10])
                    refine stQ tbOk 7 [0, 3, 10, 11, 12, 14, 16, 18, 110] (L' := [(0, .slice ao_b b.length cp_b), (3, .int .u64 p_x), (10, .int .i64 n_1), (11, .int .i64 k_1), (12, .slice ao1 z2.1.length cp1), (14, .int .u64 z3.1), (16, .slice ao2 z4.1.length cp2), (18, .int .i64 s4), (110, .bool (decide (s4 ≥ (IntKind.i64.wrap (k_1 + n_1)))))]) hf (by kernel_rfl) ?_
                    clear hf; clear a; intro a hf
                    rcases Bool.eq_false_or_eq_true (decide (s4 ≥ (IntKind.i64.wrap (k_1 + n_1)))) with hb11 | hb11
                    · replace hS := of_t hb11 hS
                      replace hf := Fr.cast (L' := [(0, .slice ao_b b.length cp_b), (3, .int .u64 p_x), (10, .int .i64 n_1), (11, .int .i64 k_1), (12, .slice ao1 z2.1.length cp1), (14, .int .u64 z3.1), (16, .slice ao2 z4.1.length cp2), (18, .int .i64 s4), (110, .bool true)]) hf (by rw [hb11])
                      refine stQ tbOk 2 [0, 3, 10, 11, 12, 14, 16, 18, 110, 111, 112] (L' := [(0, .slice ao_b b.length cp_b), (3, .int .u64 p_x), (10, .int .i64 n_1), (11, .int .i64 k_1), (12, .slice ao1 z2.1.length cp1), (14, .int .u64 z3.1), (16, .slice ao2 z4.1.length cp2), (18, .int .i64 s4), (110, .bool true), (111, .slice ao1 z2.1.length cp1), (112, .int .i64 s4)]) hf (by kernel_rfl) ?_
                      clear hf; clear a; intro a hf
                      have hT := of_gd hS; clear hS; obtain ⟨hc5, hS⟩ := hT
                      refine ixQ tbOk u22 i5 rfl rfl (ho2.ro (mt_le _)) (k := .i64) (n := s4) hc5 hf (by kernel_rfl) (by kernel_rfl) (by kernel_rfl) (by kernel_rfl) ?_
                      clear hf; clear a; intro p4 c4 a hp4 hr4 hf
                      obtain rfl : c4 = [.int .u8 (gt z2.1 s4)] := hr4
                      replace hf := Fr.keep (ks := [0, 3, 10, 11, 12, 14, 16, 18, 110, 113]) (L' := [(0, .slice ao_b b.length cp_b), (3, .int .u64 p_x), (10, .int .i64 n_1), (11, .int .i64 k_1), (12, .slice ao1 z2.1.length cp1), (14, .int .u64 z3.1), (16, .slice ao2 z4.1.length cp2), (18, .int .i64 s4), (110, .bool true), (113, .pointer (some p4))]) hf (by kernel_rfl)
                      refine ldQ tbOk u5 rfl hp4 (LeH.refl _) hf (by kernel_rfl) (by kernel_rfl) (by kernel_rfl) ?_
                      clear hf; clear a; intro a hf
                      replace hf := Fr.keep (ks := [0, 3, 10, 11, 12, 14, 16, 18, 110, 114]) (L' := [(0, .slice ao_b b.length cp_b), (3, .int .u64 p_x), (10, .int .i64 n_1), (11, .int .i64 k_1), (12, .slice ao1 z2.1.length cp1), (14, .int .u64 z3.1), (16, .slice ao2 z4.1.length cp2), (18, .int .i64 s4), (110, .bool true), (114, .int .u8 (gt z2.1 s4))]) hf (by kernel_rfl)
                      refine stQ tbOk 2 [0, 3, 10, 11, 12, 14, 16, 18, 110, 114, 115, 116] (L' := [(0, .slice ao_b b.length cp_b), (3, .int .u64 p_x), (10, .int .i64 n_1), (11, .int .i64 k_1), (12, .slice ao1 z2.1.length cp1), (14, .int .u64 z3.1), (16, .slice ao2 z4.1.length cp2), (18, .int .i64 s4), (110, .bool true), (114, .int .u8 (gt z2.1 s4)), (115, .slice ao_b b.length cp_b), (116, .int .i64 s4)]) hf (by kernel_rfl) ?_
                      clear hf; clear a; intro a hf
                      have hT := of_gd hS; clear hS; obtain ⟨hc6, hS⟩ := hT
                      refine ixQ tbOk u22 i5 rfl rfl h_b (k := .i64) (n := s4) hc6 hf (by kernel_rfl) (by kernel_rfl) (by kernel_rfl) (by kernel_rfl) ?_
                      clear hf; clear a; intro p5 c5 a hp5 hr5 hf
                      obtain rfl : c5 = [.int .u8 (gt b s4)] := hr5
                      replace hf := Fr.keep (ks := [0, 3, 10, 11, 12, 14, 16, 18, 110, 114, 117]) (L' := [(0, .slice ao_b b.length cp_b), (3, .int .u64 p_x), (10, .int .i64 n_1), (11, .int .i64 k_1), (12, .slice ao1 z2.1.length cp1), (14, .int .u64 z3.1), (16, .slice ao2 z4.1.length cp2), (18, .int .i64 s4), (110, .bool true), (114, .int .u8 (gt z2.1 s4)), (117, .pointer (some p5))]) hf (by kernel_rfl)
                      refine ldQ tbOk u5 rfl hp5 hE.le hf (by kernel_rfl) (by kernel_rfl) (by kernel_rfl) ?_
                      clear hf; clear a; intro a hf
                      replace hf := Fr.keep (ks := [0, 3, 10, 11, 12, 14, 16, 18, 110, 114, 118]) (L' := [(0, .slice ao_b b.length cp_b), (3, .int .u64 p_x), (10, .int .i64 n_1), (11, .int .i64 k_1), (12, .slice ao1 z2.1.length cp1), (14, .int .u64 z3.1), (16, .slice ao2 z4.1.length cp2), (18, .int .i64 s4), (110, .bool true), (114, .int .u8 (gt z2.1 s4)), (118, .int .u8 (gt b s4))]) hf (by kernel_rfl)
                      refine stQ tbOk 2 [0, 3, 10, 11, 12, 14, 16, 18, 120] (L' := [(0, .slice ao_b b.length cp_b), (3, .int .u64 p_x), (10, .int .i64 n_1), (11, .int .i64 k_1), (12, .slice ao1 z2.1.length cp1), (14, .int .u64 z3.1), (16, .slice ao2 z4.1.length cp2), (18, .int .i64 s4), (120, .bool ((gt z2.1 s4) != (gt b s4)))]) hf (by kernel_rfl) ?_
                      clear hf; clear a; intro a hf
                      refine wpQuiet_nil ?_
                      intro w10 hx
                      replace hE := hE.tr hx
                      replace ho2 := ho2.ext hx
                      replace ho3 := ho3.ext hx
                      exact hK5 ((gt z2.1 s4) != (gt b s4)) _ _ ⟨hE, ho2, ho3, hf.keep (ks := [0, 3, 10, 11, 12, 14, 16, 18, 120]) (by kernel_rfl)⟩ hS
                    · replace hS := of_f hb11 hS
                      replace hf := Fr.cast (L' := [(0, .slice ao_b b.length cp_b), (3, .int .u64 p_x), (10, .int .i64 n_1), (11, .int .i64 k_1), (12, .slice ao1 z2.1.length cp1), (14, .int .u64 z3.1), (16, .slice ao2 z4.1.length cp2), (18, .int .i64 s4), (110, .bool false)]) hf (by rw [hb11])
                      refine stQ tbOk 10 [0, 3, 10, 11, 12, 14, 16, 18, 120] (L' := [(0, .slice ao_b b.length cp_b), (3, .int .u64 p_x), (10, .int .i64 n_1), (11, .int .i64 k_1), (12, .slice ao1 z2.1.length cp1), (14, .int .u64 z3.1), (16, .slice ao2 z4.1.length cp2), (18, .int .i64 s4), (120, .bool false)]) hf (by kernel_rfl) ?_
                      clear hf; clear a; intro a hf
                      refine wpQuiet_nil ?_
                      intro w11 hx
                      replace hE := hE.tr hx
                      replace ho2 := ho2.ext hx
                      replace ho3 := ho3.ext hx
                      exact hK5 false _ _ ⟨hE, ho2, ho3, hf.keep (ks := [0, 3, 10, 11, 12, 14, 16, 18, 120]) (by kernel_rfl)⟩ hS
              · replace hS := of_f hb9 hS
                refine wp_exit ?_
                exact hK3 () _ _ ⟨hE, ho3, hf.keep (ks := [3, 10, 14, 16]) (by kernel_rfl)⟩ hS
        · clear hS; intro KK2 k2 hK2 hS
          refine reg ?_
          refine st tbOk 3 [0, 3, 10, 11, 12, 14, 15, 16, 17, 73] (L' := [(0, .slice ao_b b.length cp_b), (3, .int .u64 p_x), (10, .int .i64 n_1), (11, .int .i64 k_1), (12, .slice ao1 z2.1.length cp1), (14, .int .u64 z3.1), (15, .int .i64 z3.2), (16, .slice ao2 z4.1.length cp2), (17, .int .i64 z4.2), (73, .bool (z2.2 != 0))]) hf (by kernel_rfl) ?_
          clear hf; clear a; intro a hf
          rcases Bool.eq_false_or_eq_true (z2.2 != 0) with hb4 | hb4
          · replace hS := of_t hb4 hS
            replace hf := Fr.cast (L' := [(0, .slice ao_b b.length cp_b), (3, .int .u64 p_x), (10, .int .i64 n_1), (11, .int .i64 k_1), (12, .slice ao1 z2.1.length cp1), (14, .int .u64 z3.1), (15, .int .i64 z3.2), (16, .slice ao2 z4.1.length cp2), (17, .int .i64 z4.2), (73, .bool true)]) hf (by rw [hb4])
            refine st tbOk 20 [0, 3, 10, 11, 12, 14, 16, 93] (L' := [(0, .slice ao_b b.length cp_b), (3, .int .u64 p_x), (10, .int .i64 n_1), (11, .int .i64 k_1), (12, .slice ao1 z2.1.length cp1), (14, .int .u64 z3.1), (16, .slice ao2 z4.1.length cp2), (93, .bool true)]) hf (by kernel_rfl) ?_
            clear hf; clear a; intro a hf
            refine wpList_nil ?_
            exact hK2 true _ _ ⟨hE, ho2, ho3, hf.keep (ks := [0, 3, 10, 11, 12, 14, 16, 93]) (by kernel_rfl)⟩ hS
          · replace hS := of_f hb4 hS
            replace hf := Fr.cast (L' := [(0, .slice ao_b b.length cp_b), (3, .int .u64 p_x), (10, .int .i64 n_1), (11, .int .i64 k_1), (12, .slice ao1 z2.1.length cp1), (14, .int .u64 z3.1), (15, .int .i64 z3.2), (16, .slice ao2 z4.1.length cp2), (17, .int .i64 z4.2), (73, .bool false)]) hf (by rw [hb4])
            refine st tbOk 4 [0, 3, 10, 11, 12, 14, 16, 17, 77] (L' := [(0, .slice ao_b b.length cp_b), (3, .int .u64 p_x), (10, .int .i64 n_1), (11, .int .i64 k_1), (12, .slice ao1 z2.1.length cp1), (14, .int .u64 z3.1), (16, .slice ao2 z4.1.length cp2), (17, .int .i64 z4.2), (77, .bool (z3.2 != 0))]) hf (by kernel_rfl) ?_
            clear hf; clear a; intro a hf
            rcases Bool.eq_false_or_eq_true (z3.2 != 0) with hb5 | hb5
            · replace hS := of_t hb5 hS
              replace hf := Fr.cast (L' := [(0, .slice ao_b b.length cp_b), (3, .int .u64 p_x), (10, .int .i64 n_1), (11, .int .i64 k_1), (12, .slice ao1 z2.1.length cp1), (14, .int .u64 z3.1), (16, .slice ao2 z4.1.length cp2), (17, .int .i64 z4.2), (77, .bool true)]) hf (by rw [hb5])
              refine st tbOk 16 [0, 3, 10, 11, 12, 14, 16, 93] (L' := [(0, .slice ao_b b.length cp_b), (3, .int .u64 p_x), (10, .int .i64 n_1), (11, .int .i64 k_1), (12, .slice ao1 z2.1.length cp1), (14, .int .u64 z3.1), (16, .slice ao2 z4.1.length cp2), (93, .bool true)]) hf (by kernel_rfl) ?_
              clear hf; clear a; intro a hf
              refine wpList_nil ?_
              exact hK2 true _ _ ⟨hE, ho2, ho3, hf.keep (ks := [0, 3, 10, 11, 12, 14, 16, 93]) (by kernel_rfl)⟩ hS
            · replace hS := of_f hb5 hS
              replace hf := Fr.cast (L' := [(0, .slice ao_b b.length cp_b), (3, .int .u64 p_x), (10, .int .i64 n_1), (11, .int .i64 k_1), (12, .slice ao1 z2.1.length cp1), (14, .int .u64 z3.1), (16, .slice ao2 z4.1.length cp2), (17, .int .i64 z4.2), (77, .bool false)]) hf (by rw [hb5])
              refine st tbOk 4 [0, 3, 10, 11, 12, 14, 16, 81] (L' := [(0, .slice ao_b b.length cp_b), (3, .int .u64 p_x), (10, .int .i64 n_1), (11, .int .i64 k_1), (12, .slice ao1 z2.1.length cp1), (14, .int .u64 z3.1), (16, .slice ao2 z4.1.length cp2), (81, .bool (z4.2 != 0))]) hf (by kernel_rfl) ?_
              clear hf; clear a; intro a hf
              rcases Bool.eq_false_or_eq_true (z4.2 != 0) with hb6 | hb6
              · replace hS := of_t hb6 hS
                replace hf := Fr.cast (L' := [(0, .slice ao_b b.length cp_b), (3, .int .u64 p_x), (10, .int .i64 n_1), (11, .int .i64 k_1), (12, .slice ao1 z2.1.length cp1), (14, .int .u64 z3.1), (16, .slice ao2 z4.1.length cp2), (81, .bool true)]) hf (by rw [hb6])
                refine st tbOk 12 [0, 3, 10, 11, 12, 14, 16, 93] (L' := [(0, .slice ao_b b.length cp_b), (3, .int .u64 p_x), (10, .int .i64 n_1), (11, .int .i64 k_1), (12, .slice ao1 z2.1.length cp1), (14, .int .u64 z3.1), (16, .slice ao2 z4.1.length cp2), (93, .bool true)]) hf (by kernel_rfl) ?_
                clear hf; clear a; intro a hf
                refine wpList_nil ?_
                exact hK2 true _ _ ⟨hE, ho2, ho3, hf.keep (ks := [0, 3, 10, 11, 12, 14, 16, 93]) (by kernel_rfl)⟩ hS
              · replace hS := of_f hb6 hS
                replace hf := Fr.cast (L' := [(0, .slice ao_b b.length cp_b), (3, .int .u64 p_x), (10, .int .i64 n_1), (11, .int .i64 k_1), (12, .slice ao1 z2.1.length cp1), (14, .int .u64 z3.1), (16, .slice ao2 z4.1.length cp2), (81, .bool false)]) hf (by rw [hb6])
                refine st tbOk 7 [0, 3, 10, 11, 12, 14, 16, 88] (L' := [(0, .slice ao_b b.length cp_b), (3, .int .u64 p_x), (10, .int .i64 n_1), (11, .int .i64 k_1), (12, .slice ao1 z2.1.length cp1), (14, .int .u64 z3.1), (16, .slice ao2 z4.1.length cp2), (88, .bool (((z2.1.length : Nat) : Int) != ((b.length : Nat) : Int)))]) hf (by kernel_rfl) ?_
                clear hf; clear a; intro a hf
                rcases Bool.eq_false_or_eq_true (((z2.1.length : Nat) : Int) != ((b.length : Nat) : Int)) with hb7 | hb7
                · replace hS := of_t hb7 hS
                  replace hf := Fr.cast (L' := [(0, .slice ao_b b.length cp_b), (3, .int .u64 p_x), (10, .int .i64 n_1), (11, .int .i64 k_1), (12, .slice ao1 z2.1.length cp1), (14, .int .u64 z3.1), (16, .slice ao2 z4.1.length cp2), (88, .bool true)]) hf (by rw [hb7])
                  refine st tbOk 5 [0, 3, 10, 11, 12, 14, 16, 93] (L' := [(0, .slice ao_b b.length cp_b), (3, .int .u64 p_x), (10, .int .i64 n_1), (11, .int .i64 k_1), (12, .slice ao1 z2.1.length cp1), (14, .int .u64 z3.1), (16, .slice ao2 z4.1.length cp2), (93, .bool true)]) hf (by kernel_rfl) ?_
                  clear hf; clear a; intro a hf
                  refine wpList_nil ?_
                  exact hK2 true _ _ ⟨hE, ho2, ho3, hf.keep (ks := [0, 3, 10, 11, 12, 14, 16, 93]) (by kernel_rfl)⟩ hS
                · replace hS := of_f hb7 hS
                  replace hf := Fr.cast (L' := [(0, .slice ao_b b.length cp_b), (3, .int .u64 p_x), (10, .int .i64 n_1), (11, .int .i64 k_1), (12, .slice ao1 z2.1.length cp1), (14, .int .u64 z3.1), (16, .slice ao2 z4.1.length cp2), (88, .bool false)]) hf (by rw [hb7])
                  refine st tbOk 5 [0, 3, 10, 11, 12, 14, 16, 93] (L' := [(0, .slice ao_b b.length cp_b), (3, .int .u64 p_x), (10, .int .i64 n_1), (11, .int .i64 k_1), (12, .slice ao1 z2.1.length cp1), (14, .int .u64 z3.1), (16, .slice ao2 z4.1.length cp2), (93, .bool (((z4.1.length : Nat) : Int) != n_1))]) hf (by kernel_rfl) ?_
                  clear hf; clear a; intro a hf
                  refine wpList_nil ?_
                  exact hK2 (((z4.1.length : Nat) : Int) != n_1) _ _ ⟨hE, ho2, ho3, hf.keep (ks := [0, 3, 10, 11, 12, 14, 16, 93]) (by kernel_rfl)⟩ hS
    · clear hS; intro KK1 k1 hK1 hS
      refine reg ?_
      refine st tbOk 4 [0, 1, 2, 3, 27] (L' := [(0, .slice ao_b b.length cp_b), (1, .int .i64 p_at), (2, .int .i64 p_which), (3, .int .u64 p_x), (27, .bool (decide (((b.length : Nat) : Int) < 8)))]) hf (by kernel_rfl) ?_
      clear hf; clear a; intro a hf
      rcases Bool.eq_false_or_eq_true (decide (((b.length : Nat) : Int) < 8)) with hb2 | hb2
      · replace hS := of_t hb2 hS
        replace hf := Fr.cast (L' := [(0, .slice ao_b b.length cp_b), (1, .int .i64 p_at), (2, .int .i64 p_which), (3, .int .u64 p_x), (27, .bool true)]) hf (by rw [hb2])
        refine st tbOk 4 [0, 1, 2, 3, 31] (L' := [(0, .slice ao_b b.length cp_b), (1, .int .i64 p_at), (2, .int .i64 p_which), (3, .int .u64 p_x), (31, .bool true)]) hf (by kernel_rfl) ?_
        clear hf; clear a; intro a hf
        refine wpList_nil ?_
        exact hK1 true _ _ ⟨hE, hf.keep (ks := [0, 1, 2, 3, 31]) (by kernel_rfl)⟩ hS
      · replace hS := of_f hb2 hS
        replace hf := Fr.cast (L' := [(0, .slice ao_b b.length cp_b), (1, .int .i64 p_at), (2, .int .i64 p_which), (3, .int .u64 p_x), (27, .bool false)]) hf (by rw [hb2])
        refine st tbOk 4 [0, 1, 2, 3, 31] (L' := [(0, .slice ao_b b.length cp_b), (1, .int .i64 p_at), (2, .int .i64 p_which), (3, .int .u64 p_x), (31, .bool (decide (((b.length : Nat) : Int) > 2000)))]) hf (by kernel_rfl) ?_
        clear hf; clear a; intro a hf
        refine wpList_nil ?_
        exact hK1 (decide (((b.length : Nat) : Int) > 2000)) _ _ ⟨hE, hf.keep (ks := [0, 1, 2, 3, 31]) (by kernel_rfl)⟩ hS

end Dm
