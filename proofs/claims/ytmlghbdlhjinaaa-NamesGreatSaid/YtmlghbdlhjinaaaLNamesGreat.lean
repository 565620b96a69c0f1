/-
  The walk of the law NamesGreat; printed by a program of this repo. No condition.
-/
import Derived.Test.YtmlghbdlhjinaaaWT
import Derived.Test.YtmlghbdlhjinaaaW1
namespace Dm
open Go Go.RowKit Go.Proofs

set_option maxHeartbeats 4000000 in
theorem law02_NamesGreat_ok {w : World} {F : SH} {n : Int}  (hs : Sep w F (blks []) w F []) {r : Bool} (hS : law02_NamesGreat n = some r) :
    Calls Try.prog 6 [.int .i64 n].toArray w (Gives (fun u w' => ∃ (F' : SH), u = .bool r ∧ Sep w F (blks []) w' F' [])) := by
  generalize (blks []) = R at hs ⊢
  unfold law02_NamesGreat at hS
  refine fn_ok (vs := [.int .i64 n]) Try.func6 rfl 55 Try.ntmps6 (Nat.le_of_ble_eq_true rfl) ?_
  intro a hf
  replace hf := Fr.cast (L' := [(0, .int .i64 n)]) hf (by kernel_rfl)
  refine sq ?_
  refine reg ?_
  refine st tbOk 1 [0] (L' := [(0, .int .i64 n)]) hf (by kernel_rfl) ?_
  clear hf; clear a; intro a hf
  refine wpList_nil ?_
  refine sq ?_
  refine reg ?_
  have hT := of_bd hS; clear hS; obtain ⟨z1, hz1, hS⟩ := hT
  refine clV ent15 (vs := []) (caps := []) hf (by kernel_rfl) (by kernel_rfl) (by kernel_rfl) (by kernel_rfl) (law02_awake_ok (hs.enter [] rfl rfl) hz1) ?_
  clear hf; clear a; intro v w1 a hT hf; obtain ⟨F1, rfl, hr⟩ := hT
  replace hs : Sep w F R w1 F1 [] := hs.back [] [] rfl rfl rfl rfl hr
  clear hr
  replace hf := Fr.keep (ks := [0, 10]) (L' := [(0, .int .i64 n), (10, .bool z1)]) hf (by kernel_rfl)
  refine st tbOk 1 [0, 3] (L' := [(0, .int .i64 n), (3, .bool z1)]) hf (by kernel_rfl) ?_
  clear hf; clear a; intro a hf
  refine wpList_nil ?_
  refine sq ?_
  refine sq ?_
  refine reg ?_
  refine st tbOk 2 [0, 12] (L' := [(0, .int .i64 n), (12, .bool (!z1))]) hf (by kernel_rfl) ?_
  clear hf; clear a; intro a hf
  refine wpList_nil ?_
  refine cnd (b := !z1) hf (by kernel_rfl) (fun hb1 => ?_) (fun hb1 => ?_)
  · replace hS := of_t hb1 hS
    refine sq ?_
    refine reg ?_
    refine st tbOk 1 [2] (L' := [(2, .bool false)]) hf (by kernel_rfl) ?_
    clear hf; clear a; intro a hf
    refine wpList_nil ?_
    have hr := Option.some.inj hS; subst hr
    refine wp_ret ?_
    exact ret_ok hf (vs := [.bool false]) (by kernel_rfl) ⟨_, rfl, hs.sel [] rfl rfl⟩
  · replace hS := of_f hb1 hS
    refine wp_skip ?_
    refine sq ?_
    refine reg ?_
    have hT := of_let hS; clear hS; obtain ⟨k_1, hl1, hS⟩ := hT
    refine st tbOk 3 [4] (L' := [(4, .int .i64 k_1)]) hf (by subst hl1; kernel_rfl) ?_
    clear hf; clear a; intro a hf
    refine wpList_nil ?_
    refine sq ?_
    refine reg ?_
    refine st tbOk 2 [4, 16] (L' := [(4, .int .i64 k_1), (16, .int .i64 (IntKind.i64.wrap (65530 + k_1)))]) hf (by kernel_rfl) ?_
    clear hf; clear a; intro a hf
    have hT := of_gd hS; clear hS; obtain ⟨hc1, hS⟩ := hT
    refine mkR tbOk u22 i5 rfl rfl (t := (tI .u8)) rfl rfl (0 : Int) hs.le rfl (k := .i64) (k' := .i64) (n := IntKind.i64.wrap (65530 + k_1)) hc1 hf (by kernel_rfl) (by kernel_rfl) (by kernel_rfl) (by kernel_rfl) ?_
    clear hf; clear a; intro w2 a ho hx hf
    replace hs : Sep w F R w2 F1 [.row 5 (tI .u8) (.slice (some ⟨w1.heap.size, 0, none⟩) (List.replicate (Int.toNat (IntKind.i64.wrap (65530 + k_1))) (0 : Int)).length (Int.toNat (IntKind.i64.wrap (65530 + k_1)))) (List.replicate (Int.toNat (IntKind.i64.wrap (65530 + k_1))) (0 : Int))] := hs.newRow ho hx
    clear ho hx
    replace hf := Fr.keep (ks := [4, 17]) (L' := [(4, .int .i64 k_1), (17, .slice (some ⟨w1.heap.size, 0, none⟩) (List.replicate (Int.toNat (IntKind.i64.wrap (65530 + k_1))) (0 : Int)).length (Int.toNat (IntKind.i64.wrap (65530 + k_1))))]) hf (by kernel_rfl)
    refine st tbOk 1 [4, 5] (L' := [(4, .int .i64 k_1), (5, .slice (some ⟨w1.heap.size, 0, none⟩) (List.replicate (Int.toNat (IntKind.i64.wrap (65530 + k_1))) (0 : Int)).length (Int.toNat (IntKind.i64.wrap (65530 + k_1))))]) hf (by kernel_rfl) ?_
    clear hf; clear a; intro a hf
    refine wpList_nil ?_
    refine sq ?_
    refine sq ?_
    refine reg ?_
    refine st tbOk 1 [4, 5, 6] (L' := [(4, .int .i64 k_1), (5, .slice (some ⟨w1.heap.size, 0, none⟩) (List.replicate (Int.toNat (IntKind.i64.wrap (65530 + k_1))) (0 : Int)).length (Int.toNat (IntKind.i64.wrap (65530 + k_1)))), (6, .int .i64 0)]) hf (by kernel_rfl) ?_
    clear hf; clear a; intro a hf
    refine wpList_nil ?_
    refine ctj (fun (s1 : List Int) (a : Act) (w' : World) => ∃ (ao1 : Option Addr) (cp1 : Nat) (F2 : SH), Sep w F R w' F2 [.row 5 (tI .u8) (.slice ao1 s1.length cp1) s1] ∧ Fr 55 [(4, .int .i64 k_1), (5, .slice ao1 s1.length cp1)] a) hS ?_ ?_
    · clear hS hf hs; clear a; intro s1 a w5 hM hS
      obtain ⟨ao1, cp1, F2, hs, hf⟩ := hM
      refine sq ?_
      refine reg ?_
      refine st tbOk 1 [4, 28] (L' := [(4, .int .i64 k_1), (28, .slice ao1 s1.length cp1)]) hf (by kernel_rfl) ?_
      clear hf; clear a; intro a hf
      refine b2sR tbOk u22 u5 u9 (hs.raW 0 rfl) hf (by kernel_rfl) (by kernel_rfl) (by kernel_rfl) ?_
      clear hf; clear a; intro a hf
      replace hs : Sep w F R w5 F2 [] := hs.sel [] rfl rfl
      replace hf := Fr.keep (ks := [4, 29]) (L' := [(4, .int .i64 k_1), (29, strV (toStr s1))]) hf (by kernel_rfl)
      refine bsR tbOk u30 i9 rfl (t := tS) (vs := [(0, strV (toStr s1))]) (cells := #[strV (toStr s1)]) ([toStr s1] : List (List UInt8)) hs.le hf (by kernel_rfl) (by kernel_rfl) (by kernel_rfl) rfl (by kernel_rfl) (reps_flat _) rfl ?_
      clear hf; clear a; intro w6 a ho hx hf
      replace hs : Sep w F R w6 F2 [.row 9 tS (.slice (some ⟨w5.heap.size, 0, none⟩) ([toStr s1] : List (List UInt8)).length ([toStr s1] : List (List UInt8)).length) ([toStr s1] : List (List UInt8))] := hs.newRow ho hx
      clear ho hx
      replace hf := Fr.keep (ks := [4, 30]) (L' := [(4, .int .i64 k_1), (30, .slice (some ⟨w5.heap.size, 0, none⟩) ([toStr s1] : List (List UInt8)).length ([toStr s1] : List (List UInt8)).length)]) hf (by kernel_rfl)
      have hT := of_bd hS; clear hS; obtain ⟨z2, hz2, hS⟩ := hT
      refine clV ent21 (vs := [.slice (some ⟨w5.heap.size, 0, none⟩) ([toStr s1] : List (List UInt8)).length ([toStr s1] : List (List UInt8)).length]) (caps := []) hf (by kernel_rfl) (by kernel_rfl) (by kernel_rfl) (by kernel_rfl) (names_Build_ok (p_l := ([toStr s1] : List (List UInt8))) (hs.lend [0] [] rfl rfl rfl rfl rfl) hz2) ?_
      clear hf; clear a; intro v w7 a hT hf; obtain ⟨ao3, cp3, ao4, cp4, F4, rfl, hr⟩ := hT
      replace hs : Sep w F R w7 F2 [.row 5 (tI .u8) (.slice ao3 z2.1.length cp3) z2.1, .row 23 (tI .u64) (.slice ao4 z2.2.1.length cp4) z2.2.1, .row 9 tS (.slice (some ⟨w5.heap.size, 0, none⟩) ([toStr s1] : List (List UInt8)).length ([toStr s1] : List (List UInt8)).length) ([toStr s1] : List (List UInt8))] := hs.backL [0] [] [0] rfl rfl rfl rfl rfl rfl hr ⟨(flat_I .u8), ⟨(flat_I .u64), trivial⟩⟩
      clear hr
      replace hs : Sep w F R w7 F2 [.row 5 (tI .u8) (.slice ao3 z2.1.length cp3) z2.1, .row 23 (tI .u64) (.slice ao4 z2.2.1.length cp4) z2.2.1] := hs.sel [0, 1] rfl rfl
      replace hf := Fr.keep (ks := [4, 31]) (L' := [(4, .int .i64 k_1), (31, .tuple #[.slice ao3 z2.1.length cp3, .slice ao4 z2.2.1.length cp4, .int .i64 z2.2.2])]) hf (by kernel_rfl)
      refine st tbOk 7 [4, 7, 9] (L' := [(4, .int .i64 k_1), (7, .slice ao3 z2.1.length cp3), (9, .int .i64 z2.2.2)]) hf (by kernel_rfl) ?_
      clear hf; clear a; intro a hf
      refine wpList_nil ?_
      refine sq ?_
      refine sq ?_
      refine reg ?_
      refine st tbOk 4 [4, 7, 9, 38] (L' := [(4, .int .i64 k_1), (7, .slice ao3 z2.1.length cp3), (9, .int .i64 z2.2.2), (38, .bool (decide ((IntKind.i64.wrap ((IntKind.i64.wrap (65530 + k_1)) + 2)) > 65536)))]) hf (by kernel_rfl) ?_
      clear hf; clear a; intro a hf
      refine wpList_nil ?_
      refine cnd (b := decide ((IntKind.i64.wrap ((IntKind.i64.wrap (65530 + k_1)) + 2)) > 65536)) hf (by kernel_rfl) (fun hb3 => ?_) (fun hb3 => ?_)
      · replace hS := of_t hb3 hS
        refine sq ?_
        refine ctj (fun (s3 : Bool) (a : Act) (w' : World) => ∃ (F5 : SH), Sep w F R w' F5 [] ∧ Fr 55 [(2, .bool s3)] a) hS ?_ ?_
        · clear hS hf hs; clear a; intro s3 a w8 hM hS
          obtain ⟨F5, hs, hf⟩ := hM
          have hr := Option.some.inj hS; subst hr
          refine wp_ret ?_
          exact ret_ok hf (vs := [.bool s3]) (by kernel_rfl) ⟨_, rfl, hs.sel [] rfl rfl⟩
        · clear hS; intro KK3 k2 hK3 hS
          refine reg ?_
          refine st tbOk 3 [7, 41] (L' := [(7, .slice ao3 z2.1.length cp3), (41, .bool (z2.2.2 == 13))]) hf (by kernel_rfl) ?_
          clear hf; clear a; intro a hf
          rcases Bool.eq_false_or_eq_true (z2.2.2 == 13) with hb4 | hb4
          · replace hS := of_t hb4 hS
            replace hf := Fr.cast (L' := [(7, .slice ao3 z2.1.length cp3), (41, .bool true)]) hf (by rw [hb4])
            refine st tbOk 5 [2] (L' := [(2, .bool (((z2.1.length : Nat) : Int) == 0))]) hf (by kernel_rfl) ?_
            clear hf; clear a; intro a hf
            refine wpList_nil ?_
            exact hK3 (((z2.1.length : Nat) : Int) == 0) _ _ ⟨_, hs.sel [] rfl rfl, hf.keep (ks := [2]) (by kernel_rfl)⟩ hS
          · replace hS := of_f hb4 hS
            replace hf := Fr.cast (L' := [(7, .slice ao3 z2.1.length cp3), (41, .bool false)]) hf (by rw [hb4])
            refine st tbOk 5 [2] (L' := [(2, .bool false)]) hf (by kernel_rfl) ?_
            clear hf; clear a; intro a hf
            refine wpList_nil ?_
            exact hK3 false _ _ ⟨_, hs.sel [] rfl rfl, hf.keep (ks := [2]) (by kernel_rfl)⟩ hS
      · replace hS := of_f hb3 hS
        refine wp_skip ?_
        refine sq ?_
        refine ctj (fun (s4 : Bool) (a : Act) (w' : World) => ∃ (F6 : SH), Sep w F R w' F6 [] ∧ Fr 55 [(2, .bool s4)] a) hS ?_ ?_
        · clear hS hf hs; clear a; intro s4 a w9 hM hS
          obtain ⟨F6, hs, hf⟩ := hM
          have hr := Option.some.inj hS; subst hr
          refine wp_ret ?_
          exact ret_ok hf (vs := [.bool s4]) (by kernel_rfl) ⟨_, rfl, hs.sel [] rfl rfl⟩
        · clear hS; intro KK4 k3 hK4 hS
          refine reg ?_
          refine st tbOk 3 [4, 7, 48] (L' := [(4, .int .i64 k_1), (7, .slice ao3 z2.1.length cp3), (48, .bool (z2.2.2 == 0))]) hf (by kernel_rfl) ?_
          clear hf; clear a; intro a hf
          rcases Bool.eq_false_or_eq_true (z2.2.2 == 0) with hb5 | hb5
          · replace hS := of_t hb5 hS
            replace hf := Fr.cast (L' := [(4, .int .i64 k_1), (7, .slice ao3 z2.1.length cp3), (48, .bool true)]) hf (by rw [hb5])
            refine st tbOk 7 [2] (L' := [(2, .bool (((z2.1.length : Nat) : Int) == (IntKind.i64.wrap (65532 + k_1))))]) hf (by kernel_rfl) ?_
            clear hf; clear a; intro a hf
            refine wpList_nil ?_
            exact hK4 (((z2.1.length : Nat) : Int) == (IntKind.i64.wrap (65532 + k_1))) _ _ ⟨_, hs.sel [] rfl rfl, hf.keep (ks := [2]) (by kernel_rfl)⟩ hS
          · replace hS := of_f hb5 hS
            replace hf := Fr.cast (L' := [(4, .int .i64 k_1), (7, .slice ao3 z2.1.length cp3), (48, .bool false)]) hf (by rw [hb5])
            refine st tbOk 7 [2] (L' := [(2, .bool false)]) hf (by kernel_rfl) ?_
            clear hf; clear a; intro a hf
            refine wpList_nil ?_
            exact hK4 false _ _ ⟨_, hs.sel [] rfl rfl, hf.keep (ks := [2]) (by kernel_rfl)⟩ hS
    · clear hS; intro KK1 k1 hK1 hS
      refine blk ?_
      refine lp (st := (0, (List.replicate (Int.toNat (IntKind.i64.wrap (65530 + k_1))) (0 : Int)))) (fun (s2 : Int × (List Int)) (a : Act) (w' : World) => ∃ (ao2 : Option Addr) (cp2 : Nat) (F3 : SH), Sep w F R w' F3 [.row 5 (tI .u8) (.slice ao2 s2.2.length cp2) s2.2] ∧ Fr 55 [(4, .int .i64 k_1), (5, .slice ao2 s2.2.length cp2), (6, .int .i64 s2.1)] a) ?_ ⟨(some ⟨w1.heap.size, 0, none⟩), (Int.toNat (IntKind.i64.wrap (65530 + k_1))), _, hs.sel [0] rfl rfl, hf.keep (ks := [4, 5, 6]) (by kernel_rfl)⟩ hS
      clear hS hf hs; clear a
      intro rec1 KK2 hK2 s2 a w3 hM hS
      obtain ⟨ao2, cp2, F3, hs, hf⟩ := hM
      refine sq ?_
      refine sq ?_
      refine reg ?_
      refine st tbOk 4 [4, 5, 6, 21] (L' := [(4, .int .i64 k_1), (5, .slice ao2 s2.2.length cp2), (6, .int .i64 s2.1), (21, .bool (decide (s2.1 < ((s2.2.length : Nat) : Int))))]) hf (by kernel_rfl) ?_
      clear hf; clear a; intro a hf
      refine wpList_nil ?_
      refine cnd (b := decide (s2.1 < ((s2.2.length : Nat) : Int))) hf (by kernel_rfl) (fun hb2 => ?_) (fun hb2 => ?_)
      · replace hS := of_t hb2 hS
        refine wp_skip ?_
        refine sq ?_
        refine blk ?_
        refine reg ?_
        refine st tbOk 2 [4, 5, 6, 24, 25] (L' := [(4, .int .i64 k_1), (5, .slice ao2 s2.2.length cp2), (6, .int .i64 s2.1), (24, .slice ao2 s2.2.length cp2), (25, .int .i64 s2.1)]) hf (by kernel_rfl) ?_
        clear hf; clear a; intro a hf
        have hT := of_gd hS; clear hS; obtain ⟨hc2, hS⟩ := hT
        refine ixW tbOk u22 i5 (hs.own 0 rfl) (k := .i64) (n := s2.1) hc2 hf (by kernel_rfl) (by kernel_rfl) (by kernel_rfl) (by kernel_rfl) ?_
        clear hf; clear a; intro pb1 po1 a hq1 hf
        replace hf := Fr.keep (ks := [4, 5, 6, 26]) (L' := [(4, .int .i64 k_1), (5, .slice ao2 s2.2.length cp2), (6, .int .i64 s2.1), (26, .pointer (some ⟨pb1, po1, none⟩))]) hf (by kernel_rfl)
        refine stW tbOk i5 rfl (hs.own 0 rfl) hc2 0 hq1 [.int .u8 97] (z := 97) (fun _ e => (congrArg (fun c => spl c 0 [.int .u8 97]) e).trans rfl) (u := .int .u8 97) rfl rfl (by kernel_rfl) (by kernel_rfl) hf (by kernel_rfl) (by kernel_rfl) (by kernel_rfl) ?_
        clear hf; clear a; intro w4 a ho hg hf
        replace hs := hs.updRow 0 rfl ho hg (fun _ h => .inl h)
        clear ho hg
        replace hs : Sep w F R w4 F3 [.row 5 (tI .u8) (.slice ao2 (s2.2.set (Int.toNat s2.1) 97).length cp2) (s2.2.set (Int.toNat s2.1) 97)] := Sep.cast hs (by simp only [List.length_set]; rfl)
        replace hf := Fr.cast (L' := [(4, .int .i64 k_1), (5, .slice ao2 (s2.2.set (Int.toNat s2.1) 97).length cp2), (6, .int .i64 s2.1), (26, .pointer (some ⟨pb1, po1, none⟩))]) hf (by simp only [List.length_set])
        replace hf := Fr.keep (ks := [4, 5, 6]) (L' := [(4, .int .i64 k_1), (5, .slice ao2 (s2.2.set (Int.toNat s2.1) 97).length cp2), (6, .int .i64 s2.1)]) hf (by kernel_rfl)
        refine wpList_nil ?_
        refine reg ?_
        have hT := of_let hS; clear hS; obtain ⟨i_1, hl2, hS⟩ := hT
        refine st tbOk 3 [4, 5, 6] (L' := [(4, .int .i64 k_1), (5, .slice ao2 (s2.2.set (Int.toNat s2.1) 97).length cp2), (6, .int .i64 i_1)]) hf (by subst hl2; kernel_rfl) ?_
        clear hf; clear a; intro a hf
        refine wpList_nil ?_
        exact hK2 (i_1, (s2.2.set (Int.toNat s2.1) 97)) _ _ ⟨ao2, cp2, _, hs.sel [0] rfl rfl, hf.keep (ks := [4, 5, 6]) (by kernel_rfl)⟩ hS
      · replace hS := of_f hb2 hS
        refine wp_exit ?_
        exact hK1 s2.2 _ _ ⟨ao2, cp2, _, hs.sel [0] rfl rfl, hf.keep (ks := [4, 5]) (by kernel_rfl)⟩ hS

end Dm
