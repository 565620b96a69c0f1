/-
  The walk of the law OctetsParts; printed by a program of this repo. No condition.
-/
import Derived.Test.YtdigooncdjnfbaaWT
import Derived.Test.YtdigooncdjnfbaaW0
namespace Dm
open Go Go.RowKit Go.Proofs

set_option maxHeartbeats 4000000 in
theorem law01_OctetsParts_ok {w : World} {F : SH} {b : List Int}  (hn1 : b.length = 8) (hs : Sep w F (blks []) w F []) {r : Bool} (hS : law01_OctetsParts b = some r) :
    Calls Try.prog 9 [.agg (List.map (Value.int .u8) b).toArray].toArray w (Gives (fun u w' => ∃ (F' : SH), u = .bool r ∧ Sep w F (blks []) w' F' [])) := by
  generalize (blks []) = R at hs ⊢
  unfold law01_OctetsParts at hS
  refine fn_ok (vs := [.agg (List.map (Value.int .u8) b).toArray]) Try.func9 rfl 93 Try.ntmps9 (Nat.le_of_ble_eq_true rfl) ?_
  intro a hf
  replace hf := Fr.cast (L' := [(0, .agg (List.map (Value.int .u8) b).toArray)]) hf (by kernel_rfl)
  refine sq ?_
  refine reg ?_
  refine bx (T := 40) (List.map (Value.int .u8) b) (v := .agg (List.map (Value.int .u8) b).toArray) rfl (allOne_map (fun _ => rfl) b) hf (by kernel_rfl) (by kernel_rfl) (by kernel_rfl) ?_
  clear hf; clear a; intro w1 a hb hx _ hf
  replace hs : Sep w F R w1 F [.box w.heap.size 40 (List.map (Value.int .u8) b)] := hs.newBox hb hx
  clear hb hx
  replace hf := Fr.keep (ks := [1]) (L' := [(1, .pointer (some ⟨w.heap.size, 0, none⟩))]) hf (by kernel_rfl)
  refine st tbOk 1 [1] (L' := [(1, .pointer (some ⟨w.heap.size, 0, none⟩))]) hf (by kernel_rfl) ?_
  clear hf; clear a; intro a hf
  refine wpList_nil ?_
  refine sq ?_
  refine reg ?_
  have hT := of_bd hS; clear hS; obtain ⟨z1, hz1, hS⟩ := hT
  refine clV ent11 (vs := []) (caps := []) hf (by kernel_rfl) (by kernel_rfl) (by kernel_rfl) (by kernel_rfl) (law01_awake_ok (hs.enter [] rfl rfl) hz1) ?_
  clear hf; clear a; intro v w2 a hT hf; obtain ⟨F1, rfl, hr⟩ := hT
  replace hs : Sep w F R w2 F1 [.box w.heap.size 40 (List.map (Value.int .u8) b)] := hs.back [] [0] rfl rfl rfl rfl hr
  clear hr
  replace hf := Fr.keep (ks := [1, 16]) (L' := [(1, .pointer (some ⟨w.heap.size, 0, none⟩)), (16, .bool z1)]) hf (by kernel_rfl)
  refine st tbOk 1 [1, 3] (L' := [(1, .pointer (some ⟨w.heap.size, 0, none⟩)), (3, .bool z1)]) hf (by kernel_rfl) ?_
  clear hf; clear a; intro a hf
  refine wpList_nil ?_
  refine sq ?_
  refine sq ?_
  refine reg ?_
  refine st tbOk 2 [1, 18] (L' := [(1, .pointer (some ⟨w.heap.size, 0, none⟩)), (18, .bool (!z1))]) hf (by kernel_rfl) ?_
  clear hf; clear a; intro a hf
  refine wpList_nil ?_
  refine cnd (b := !z1) hf (by kernel_rfl) (fun hb1 => ?_) (fun hb1 => ?_)
  · replace hS := of_t hb1 hS
    refine sq ?_
    refine reg ?_
    refine st tbOk 1 [2] (L' := [(2, .bool false)]) hf (by kernel_rfl) ?_
    clear hf; clear a; intro a hf
    refine wpList_nil ?_
    have hr := Option.some.inj hS; subst hr
    refine wp_ret ?_
    exact ret_ok hf (vs := [.bool false]) (by kernel_rfl) ⟨_, rfl, hs.sel [] rfl rfl⟩
  · replace hS := of_f hb1 hS
    refine wp_skip ?_
    refine sq ?_
    refine reg ?_
    have hT := of_gd hS; clear hS; obtain ⟨hc1, hS⟩ := hT
    obtain ⟨F2, _, hs⟩ := hs.frz 0 rfl
    replace hs : Sep w F R w2 F2 [.cel w.heap.size 0 (List.map (Value.int .u8) b)] := hs
    refine slA tbOk u40 i5 rfl (t := (tI .u8)) (arr_RO (Value.int .u8) (fun _ _ => rfl) (hs.cel 0 rfl)) hn1 (lo := 0) (hi := ((b.length : Nat) : Int)) hc1 (.inl ⟨rfl, rfl⟩) (.inl ⟨rfl, rfl⟩) hf (by kernel_rfl) (by kernel_rfl) (by kernel_rfl) ?_
    clear hf; clear a; intro ao1 cp1 a hr1 hf
    replace hs : Sep w F R w2 F2 [.ro (tI .u8) (.slice ao1 (cutL b 0 ((b.length : Nat) : Int)).length cp1) (cutL b 0 ((b.length : Nat) : Int)), .cel w.heap.size 0 (List.map (Value.int .u8) b)] := hs.addRo hr1
    replace hf := Fr.keep (ks := [1, 20]) (L' := [(1, .pointer (some ⟨w.heap.size, 0, none⟩)), (20, .slice ao1 (cutL b 0 ((b.length : Nat) : Int)).length cp1)]) hf (by kernel_rfl)
    have hT := of_bd hS; clear hS; obtain ⟨z2, hz2, hS⟩ := hT
    refine clV ent12 (vs := [.slice ao1 (cutL b 0 ((b.length : Nat) : Int)).length cp1, .int .u64 0, .int .i64 8]) (caps := []) hf (by kernel_rfl) (by kernel_rfl) (by kernel_rfl) (by kernel_rfl) (octets_Get_ok (b := (cutL b 0 ((b.length : Nat) : Int))) (p_at := 0) (n := 8) (hs.enter [0] rfl rfl) hz2) ?_
    clear hf; clear a; intro v w3 a hT hf; obtain ⟨F3, rfl, hr⟩ := hT
    replace hs : Sep w F R w3 F3 [.ro (tI .u8) (.slice ao1 (cutL b 0 ((b.length : Nat) : Int)).length cp1) (cutL b 0 ((b.length : Nat) : Int)), .cel w.heap.size 0 (List.map (Value.int .u8) b)] := hs.back [0] [0, 1] rfl rfl rfl rfl hr
    clear hr
    replace hs : Sep w F R w3 F3 [.cel w.heap.size 0 (List.map (Value.int .u8) b)] := hs.sel [1] rfl rfl
    replace hf := Fr.keep (ks := [1, 21]) (L' := [(1, .pointer (some ⟨w.heap.size, 0, none⟩)), (21, .tuple #[.int .u64 z2.1, .int .i64 z2.2])]) hf (by kernel_rfl)
    refine st tbOk 5 [1, 4, 5] (L' := [(1, .pointer (some ⟨w.heap.size, 0, none⟩)), (4, .int .u64 z2.1), (5, .int .i64 z2.2)]) hf (by kernel_rfl) ?_
    clear hf; clear a; intro a hf
    refine wpList_nil ?_
    refine sq ?_
    refine reg ?_
    refine st tbOk 1 [1, 4, 5, 6] (L' := [(1, .pointer (some ⟨w.heap.size, 0, none⟩)), (4, .int .u64 z2.1), (5, .int .i64 z2.2), (6, .int .u64 0)]) hf (by kernel_rfl) ?_
    clear hf; clear a; intro a hf
    refine wpList_nil ?_
    refine sq ?_
    refine reg ?_
    refine st tbOk 1 [1, 4, 5, 6, 7] (L' := [(1, .pointer (some ⟨w.heap.size, 0, none⟩)), (4, .int .u64 z2.1), (5, .int .i64 z2.2), (6, .int .u64 0), (7, .int .u64 0)]) hf (by kernel_rfl) ?_
    clear hf; clear a; intro a hf
    refine wpList_nil ?_
    refine sq ?_
    refine reg ?_
    refine st tbOk 1 [1, 4, 5, 6, 7, 8] (L' := [(1, .pointer (some ⟨w.heap.size, 0, none⟩)), (4, .int .u64 z2.1), (5, .int .i64 z2.2), (6, .int .u64 0), (7, .int .u64 0), (8, .int .u64 0)]) hf (by kernel_rfl) ?_
    clear hf; clear a; intro a hf
    refine wpList_nil ?_
    refine sq ?_
    refine sq ?_
    refine reg ?_
    refine st tbOk 1 [1, 4, 5, 6, 7, 8, 9] (L' := [(1, .pointer (some ⟨w.heap.size, 0, none⟩)), (4, .int .u64 z2.1), (5, .int .i64 z2.2), (6, .int .u64 0), (7, .int .u64 0), (8, .int .u64 0), (9, .int .i64 0)]) hf (by kernel_rfl) ?_
    clear hf; clear a; intro a hf
    refine wpList_nil ?_
    refine ctj (fun (s1 : Int × Int × Int) (a : Act) (w' : World) => ∃ (F4 : SH), Sep w F R w' F4 [] ∧ Fr 93 [(4, .int .u64 z2.1), (5, .int .i64 z2.2), (6, .int .u64 s1.1), (7, .int .u64 s1.2.1), (8, .int .u64 s1.2.2)] a) hS ?_ ?_
    · clear hS hf hs; clear a; intro s1 a w10 hM hS
      obtain ⟨F4, hs, hf⟩ := hM
      refine sq ?_
      refine ctj (fun (s5 : Bool) (a : Act) (w' : World) => ∃ (F11 : SH), Sep w F R w' F11 [] ∧ Fr 93 [(2, .bool s5)] a) hS ?_ ?_
      · clear hS hf hs; clear a; intro s5 a w11 hM hS
        obtain ⟨F11, hs, hf⟩ := hM
        have hr := Option.some.inj hS; subst hr
        refine wp_ret ?_
        exact ret_ok hf (vs := [.bool s5]) (by kernel_rfl) ⟨_, rfl, hs.sel [] rfl rfl⟩
      · clear hS; intro KK5 k4 hK5 hS
        refine reg ?_
        refine st tbOk 3 [4, 6, 7, 8, 78] (L' := [(4, .int .u64 z2.1), (6, .int .u64 s1.1), (7, .int .u64 s1.2.1), (8, .int .u64 s1.2.2), (78, .bool (z2.2 == 0))]) hf (by kernel_rfl) ?_
        clear hf; clear a; intro a hf
        rcases Bool.eq_false_or_eq_true (z2.2 == 0) with hb5 | hb5
        · replace hS := of_t hb5 hS
          replace hf := Fr.cast (L' := [(4, .int .u64 z2.1), (6, .int .u64 s1.1), (7, .int .u64 s1.2.1), (8, .int .u64 s1.2.2), (78, .bool true)]) hf (by rw [hb5])
          refine st tbOk 5 [4, 7, 8, 83] (L' := [(4, .int .u64 z2.1), (7, .int .u64 s1.2.1), (8, .int .u64 s1.2.2), (83, .bool (z2.1 == s1.1))]) hf (by kernel_rfl) ?_
          clear hf; clear a; intro a hf
          rcases Bool.eq_false_or_eq_true (z2.1 == s1.1) with hb6 | hb6
          · replace hS := of_t hb6 hS
            replace hf := Fr.cast (L' := [(4, .int .u64 z2.1), (7, .int .u64 s1.2.1), (8, .int .u64 s1.2.2), (83, .bool true)]) hf (by rw [hb6])
            refine st tbOk 5 [4, 8, 88] (L' := [(4, .int .u64 z2.1), (8, .int .u64 s1.2.2), (88, .bool (z2.1 == s1.2.1))]) hf (by kernel_rfl) ?_
            clear hf; clear a; intro a hf
            rcases Bool.eq_false_or_eq_true (z2.1 == s1.2.1) with hb7 | hb7
            · replace hS := of_t hb7 hS
              replace hf := Fr.cast (L' := [(4, .int .u64 z2.1), (8, .int .u64 s1.2.2), (88, .bool true)]) hf (by rw [hb7])
              refine st tbOk 5 [2] (L' := [(2, .bool (z2.1 == s1.2.2))]) hf (by kernel_rfl) ?_
              clear hf; clear a; intro a hf
              refine wpList_nil ?_
              exact hK5 (z2.1 == s1.2.2) _ _ ⟨_, hs.sel [] rfl rfl, hf.keep (ks := [2]) (by kernel_rfl)⟩ hS
            · replace hS := of_f hb7 hS
              replace hf := Fr.cast (L' := [(4, .int .u64 z2.1), (8, .int .u64 s1.2.2), (88, .bool false)]) hf (by rw [hb7])
              refine st tbOk 5 [2] (L' := [(2, .bool false)]) hf (by kernel_rfl) ?_
              clear hf; clear a; intro a hf
              refine wpList_nil ?_
              exact hK5 false _ _ ⟨_, hs.sel [] rfl rfl, hf.keep (ks := [2]) (by kernel_rfl)⟩ hS
          · replace hS := of_f hb6 hS
            replace hf := Fr.cast (L' := [(4, .int .u64 z2.1), (7, .int .u64 s1.2.1), (8, .int .u64 s1.2.2), (83, .bool false)]) hf (by rw [hb6])
            refine st tbOk 10 [2] (L' := [(2, .bool false)]) hf (by kernel_rfl) ?_
            clear hf; clear a; intro a hf
            refine wpList_nil ?_
            exact hK5 false _ _ ⟨_, hs.sel [] rfl rfl, hf.keep (ks := [2]) (by kernel_rfl)⟩ hS
        · replace hS := of_f hb5 hS
          replace hf := Fr.cast (L' := [(4, .int .u64 z2.1), (6, .int .u64 s1.1), (7, .int .u64 s1.2.1), (8, .int .u64 s1.2.2), (78, .bool false)]) hf (by rw [hb5])
          refine st tbOk 15 [2] (L' := [(2, .bool false)]) hf (by kernel_rfl) ?_
          clear hf; clear a; intro a hf
          refine wpList_nil ?_
          exact hK5 false _ _ ⟨_, hs.sel [] rfl rfl, hf.keep (ks := [2]) (by kernel_rfl)⟩ hS
    · clear hS; intro KK1 k1 hK1 hS
      refine blk ?_
      refine lp (st := (0, 0, 0, 0)) (fun (s2 : Int × Int × Int × Int) (a : Act) (w' : World) => ∃ (F5 : SH), Sep w F R w' F5 [.cel w.heap.size 0 (List.map (Value.int .u8) b)] ∧ Fr 93 [(1, .pointer (some ⟨w.heap.size, 0, none⟩)), (4, .int .u64 z2.1), (5, .int .i64 z2.2), (6, .int .u64 s2.1), (7, .int .u64 s2.2.1), (8, .int .u64 s2.2.2.1), (9, .int .i64 s2.2.2.2)] a) ?_ ⟨_, hs.sel [0] rfl rfl, hf.keep (ks := [1, 4, 5, 6, 7, 8, 9]) (by kernel_rfl)⟩ hS
      clear hS hf hs; clear a
      intro rec1 KK2 hK2 s2 a w4 hM hS
      obtain ⟨F5, hs, hf⟩ := hM
      refine sq ?_
      refine sq ?_
      refine reg ?_
      refine st tbOk 2 [1, 4, 5, 6, 7, 8, 9, 25] (L' := [(1, .pointer (some ⟨w.heap.size, 0, none⟩)), (4, .int .u64 z2.1), (5, .int .i64 z2.2), (6, .int .u64 s2.1), (7, .int .u64 s2.2.1), (8, .int .u64 s2.2.2.1), (9, .int .i64 s2.2.2.2), (25, .bool (decide (s2.2.2.2 < 8)))]) hf (by kernel_rfl) ?_
      clear hf; clear a; intro a hf
      refine wpList_nil ?_
      refine cnd (b := decide (s2.2.2.2 < 8)) hf (by kernel_rfl) (fun hb2 => ?_) (fun hb2 => ?_)
      · replace hS := of_t hb2 hS
        refine wp_skip ?_
        refine sq ?_
        refine blk ?_
        refine sq ?_
        refine sq ?_
        refine reg ?_
        refine st tbOk 2 [1, 4, 5, 6, 7, 8, 9, 29] (L' := [(1, .pointer (some ⟨w.heap.size, 0, none⟩)), (4, .int .u64 z2.1), (5, .int .i64 z2.2), (6, .int .u64 s2.1), (7, .int .u64 s2.2.1), (8, .int .u64 s2.2.2.1), (9, .int .i64 s2.2.2.2), (29, .bool (decide (s2.2.2.2 < 2)))]) hf (by kernel_rfl) ?_
        clear hf; clear a; intro a hf
        refine wpList_nil ?_
        refine ctj (fun (s3 : Int) (a : Act) (w' : World) => ∃ (F6 : SH), Sep w F R w' F6 [.cel w.heap.size 0 (List.map (Value.int .u8) b)] ∧ Fr 93 [(1, .pointer (some ⟨w.heap.size, 0, none⟩)), (4, .int .u64 z2.1), (5, .int .i64 z2.2), (6, .int .u64 s3), (7, .int .u64 s2.2.1), (8, .int .u64 s2.2.2.1), (9, .int .i64 s2.2.2.2)] a) hS ?_ ?_
        · clear hS hf hs; clear a; intro s3 a w6 hM hS
          obtain ⟨F6, hs, hf⟩ := hM
          refine sq ?_
          refine sq ?_
          refine reg ?_
          refine st tbOk 2 [1, 4, 5, 6, 7, 8, 9, 46] (L' := [(1, .pointer (some ⟨w.heap.size, 0, none⟩)), (4, .int .u64 z2.1), (5, .int .i64 z2.2), (6, .int .u64 s3), (7, .int .u64 s2.2.1), (8, .int .u64 s2.2.2.1), (9, .int .i64 s2.2.2.2), (46, .bool (decide (s2.2.2.2 < 4)))]) hf (by kernel_rfl) ?_
          clear hf; clear a; intro a hf
          refine wpList_nil ?_
          refine ctj (fun (s4 : Int) (a : Act) (w' : World) => ∃ (F8 : SH), Sep w F R w' F8 [.cel w.heap.size 0 (List.map (Value.int .u8) b)] ∧ Fr 93 [(1, .pointer (some ⟨w.heap.size, 0, none⟩)), (4, .int .u64 z2.1), (5, .int .i64 z2.2), (6, .int .u64 s3), (7, .int .u64 s4), (8, .int .u64 s2.2.2.1), (9, .int .i64 s2.2.2.2)] a) hS ?_ ?_
          · clear hS hf hs; clear a; intro s4 a w8 hM hS
            obtain ⟨F8, hs, hf⟩ := hM
            refine sq ?_
            refine reg ?_
            have hT := of_gd hS; clear hS; obtain ⟨hc6, hS⟩ := hT
            refine slA tbOk u40 i5 rfl (t := (tI .u8)) (arr_RO (Value.int .u8) (fun _ _ => rfl) (hs.cel 0 rfl)) hn1 (lo := 0) (hi := ((b.length : Nat) : Int)) hc6 (.inl ⟨rfl, rfl⟩) (.inl ⟨rfl, rfl⟩) hf (by kernel_rfl) (by kernel_rfl) (by kernel_rfl) ?_
            clear hf; clear a; intro ao4 cp4 a hr4 hf
            replace hs : Sep w F R w8 F8 [.ro (tI .u8) (.slice ao4 (cutL b 0 ((b.length : Nat) : Int)).length cp4) (cutL b 0 ((b.length : Nat) : Int)), .cel w.heap.size 0 (List.map (Value.int .u8) b)] := hs.addRo hr4
            replace hf := Fr.keep (ks := [1, 4, 5, 6, 7, 8, 9, 63]) (L' := [(1, .pointer (some ⟨w.heap.size, 0, none⟩)), (4, .int .u64 z2.1), (5, .int .i64 z2.2), (6, .int .u64 s3), (7, .int .u64 s4), (8, .int .u64 s2.2.2.1), (9, .int .i64 s2.2.2.2), (63, .slice ao4 (cutL b 0 ((b.length : Nat) : Int)).length cp4)]) hf (by kernel_rfl)
            refine st tbOk 2 [1, 4, 5, 6, 7, 8, 9, 63, 65] (L' := [(1, .pointer (some ⟨w.heap.size, 0, none⟩)), (4, .int .u64 z2.1), (5, .int .i64 z2.2), (6, .int .u64 s3), (7, .int .u64 s4), (8, .int .u64 s2.2.2.1), (9, .int .i64 s2.2.2.2), (63, .slice ao4 (cutL b 0 ((b.length : Nat) : Int)).length cp4), (65, .int .u64 (IntKind.u64.wrap s2.2.2.2))]) hf (by kernel_rfl) ?_
            clear hf; clear a; intro a hf
            have hT := of_bd hS; clear hS; obtain ⟨z5, hz5, hS⟩ := hT
            refine clV ent12 (vs := [.slice ao4 (cutL b 0 ((b.length : Nat) : Int)).length cp4, .int .u64 (IntKind.u64.wrap s2.2.2.2), .int .i64 1]) (caps := []) hf (by kernel_rfl) (by kernel_rfl) (by kernel_rfl) (by kernel_rfl) (octets_Get_ok (b := (cutL b 0 ((b.length : Nat) : Int))) (p_at := IntKind.u64.wrap s2.2.2.2) (n := 1) (hs.enter [0] rfl rfl) hz5) ?_
            clear hf; clear a; intro v w9 a hT hf; obtain ⟨F10, rfl, hr⟩ := hT
            replace hs : Sep w F R w9 F10 [.ro (tI .u8) (.slice ao4 (cutL b 0 ((b.length : Nat) : Int)).length cp4) (cutL b 0 ((b.length : Nat) : Int)), .cel w.heap.size 0 (List.map (Value.int .u8) b)] := hs.back [0] [0, 1] rfl rfl rfl rfl hr
            clear hr
            replace hs : Sep w F R w9 F10 [.cel w.heap.size 0 (List.map (Value.int .u8) b)] := hs.sel [1] rfl rfl
            replace hf := Fr.keep (ks := [1, 4, 5, 6, 7, 8, 9, 66]) (L' := [(1, .pointer (some ⟨w.heap.size, 0, none⟩)), (4, .int .u64 z2.1), (5, .int .i64 z2.2), (6, .int .u64 s3), (7, .int .u64 s4), (8, .int .u64 s2.2.2.1), (9, .int .i64 s2.2.2.2), (66, .tuple #[.int .u64 z5.1, .int .i64 z5.2])]) hf (by kernel_rfl)
            refine st tbOk 5 [1, 4, 5, 6, 7, 8, 9, 14] (L' := [(1, .pointer (some ⟨w.heap.size, 0, none⟩)), (4, .int .u64 z2.1), (5, .int .i64 z2.2), (6, .int .u64 s3), (7, .int .u64 s4), (8, .int .u64 s2.2.2.1), (9, .int .i64 s2.2.2.2), (14, .int .u64 z5.1)]) hf (by kernel_rfl) ?_
            clear hf; clear a; intro a hf
            refine wpList_nil ?_
            refine reg ?_
            refine st tbOk 5 [1, 4, 5, 6, 7, 9, 69, 70, 73] (L' := [(1, .pointer (some ⟨w.heap.size, 0, none⟩)), (4, .int .u64 z2.1), (5, .int .i64 z2.2), (6, .int .u64 s3), (7, .int .u64 s4), (9, .int .i64 s2.2.2.2), (69, .int .u64 s2.2.2.1), (70, .int .u64 z5.1), (73, .int .u64 (IntKind.u64.wrap (IntKind.i64.wrap (8 * s2.2.2.2))))]) hf (by kernel_rfl) ?_
            clear hf; clear a; intro a hf
            have hT := of_gd hS; clear hS; obtain ⟨hc7, hS⟩ := hT
            refine bin (run_shl (k := .u64) (k' := .u64) (x := z5.1) hc7 _) hf (by kernel_rfl) (by kernel_rfl) (by kernel_rfl) (by kernel_rfl) ?_
            clear hf; clear a; intro a hf
            replace hf := Fr.keep (ks := [1, 4, 5, 6, 7, 9, 69, 74]) (L' := [(1, .pointer (some ⟨w.heap.size, 0, none⟩)), (4, .int .u64 z2.1), (5, .int .i64 z2.2), (6, .int .u64 s3), (7, .int .u64 s4), (9, .int .i64 s2.2.2.2), (69, .int .u64 s2.2.2.1), (74, .int .u64 (shl .u64 z5.1 (IntKind.u64.wrap (IntKind.i64.wrap (8 * s2.2.2.2)))))]) hf (by kernel_rfl)
            have hT := of_let hS; clear hS; obtain ⟨w_1, hl3, hS⟩ := hT
            refine st tbOk 2 [1, 4, 5, 6, 7, 8, 9] (L' := [(1, .pointer (some ⟨w.heap.size, 0, none⟩)), (4, .int .u64 z2.1), (5, .int .i64 z2.2), (6, .int .u64 s3), (7, .int .u64 s4), (8, .int .u64 w_1), (9, .int .i64 s2.2.2.2)]) hf (by subst hl3; kernel_rfl) ?_
            clear hf; clear a; intro a hf
            refine wpList_nil ?_
            refine reg ?_
            have hT := of_let hS; clear hS; obtain ⟨i_1, hl4, hS⟩ := hT
            refine st tbOk 3 [1, 4, 5, 6, 7, 8, 9] (L' := [(1, .pointer (some ⟨w.heap.size, 0, none⟩)), (4, .int .u64 z2.1), (5, .int .i64 z2.2), (6, .int .u64 s3), (7, .int .u64 s4), (8, .int .u64 w_1), (9, .int .i64 i_1)]) hf (by subst hl4; kernel_rfl) ?_
            clear hf; clear a; intro a hf
            refine wpList_nil ?_
            exact hK2 (s3, s4, w_1, i_1) _ _ ⟨_, hs.sel [0] rfl rfl, hf.keep (ks := [1, 4, 5, 6, 7, 8, 9]) (by kernel_rfl)⟩ hS
          · clear hS; intro KK4 k3 hK4 hS
            refine cnd (b := decide (s2.2.2.2 < 4)) hf (by kernel_rfl) (fun hb4 => ?_) (fun hb4 => ?_)
            · replace hS := of_t hb4 hS
              refine sq ?_
              refine reg ?_
              have hT := of_gd hS; clear hS; obtain ⟨hc4, hS⟩ := hT
              refine slA tbOk u40 i5 rfl (t := (tI .u8)) (arr_RO (Value.int .u8) (fun _ _ => rfl) (hs.cel 0 rfl)) hn1 (lo := 0) (hi := ((b.length : Nat) : Int)) hc4 (.inl ⟨rfl, rfl⟩) (.inl ⟨rfl, rfl⟩) hf (by kernel_rfl) (by kernel_rfl) (by kernel_rfl) ?_
              clear hf; clear a; intro ao3 cp3 a hr3 hf
              replace hs : Sep w F R w6 F6 [.ro (tI .u8) (.slice ao3 (cutL b 0 ((b.length : Nat) : Int)).length cp3) (cutL b 0 ((b.length : Nat) : Int)), .cel w.heap.size 0 (List.map (Value.int .u8) b)] := hs.addRo hr3
              replace hf := Fr.keep (ks := [1, 4, 5, 6, 7, 8, 9, 48]) (L' := [(1, .pointer (some ⟨w.heap.size, 0, none⟩)), (4, .int .u64 z2.1), (5, .int .i64 z2.2), (6, .int .u64 s3), (7, .int .u64 s2.2.1), (8, .int .u64 s2.2.2.1), (9, .int .i64 s2.2.2.2), (48, .slice ao3 (cutL b 0 ((b.length : Nat) : Int)).length cp3)]) hf (by kernel_rfl)
              refine st tbOk 3 [1, 4, 5, 6, 7, 8, 9, 48, 51] (L' := [(1, .pointer (some ⟨w.heap.size, 0, none⟩)), (4, .int .u64 z2.1), (5, .int .i64 z2.2), (6, .int .u64 s3), (7, .int .u64 s2.2.1), (8, .int .u64 s2.2.2.1), (9, .int .i64 s2.2.2.2), (48, .slice ao3 (cutL b 0 ((b.length : Nat) : Int)).length cp3), (51, .int .u64 (IntKind.u64.wrap (IntKind.i64.wrap (2 * s2.2.2.2))))]) hf (by kernel_rfl) ?_
              clear hf; clear a; intro a hf
              have hT := of_bd hS; clear hS; obtain ⟨z4, hz4, hS⟩ := hT
              refine clV ent12 (vs := [.slice ao3 (cutL b 0 ((b.length : Nat) : Int)).length cp3, .int .u64 (IntKind.u64.wrap (IntKind.i64.wrap (2 * s2.2.2.2))), .int .i64 2]) (caps := []) hf (by kernel_rfl) (by kernel_rfl) (by kernel_rfl) (by kernel_rfl) (octets_Get_ok (b := (cutL b 0 ((b.length : Nat) : Int))) (p_at := IntKind.u64.wrap (IntKind.i64.wrap (2 * s2.2.2.2))) (n := 2) (hs.enter [0] rfl rfl) hz4) ?_
              clear hf; clear a; intro v w7 a hT hf; obtain ⟨F9, rfl, hr⟩ := hT
              replace hs : Sep w F R w7 F9 [.ro (tI .u8) (.slice ao3 (cutL b 0 ((b.length : Nat) : Int)).length cp3) (cutL b 0 ((b.length : Nat) : Int)), .cel w.heap.size 0 (List.map (Value.int .u8) b)] := hs.back [0] [0, 1] rfl rfl rfl rfl hr
              clear hr
              replace hs : Sep w F R w7 F9 [.cel w.heap.size 0 (List.map (Value.int .u8) b)] := hs.sel [1] rfl rfl
              replace hf := Fr.keep (ks := [1, 4, 5, 6, 7, 8, 9, 52]) (L' := [(1, .pointer (some ⟨w.heap.size, 0, none⟩)), (4, .int .u64 z2.1), (5, .int .i64 z2.2), (6, .int .u64 s3), (7, .int .u64 s2.2.1), (8, .int .u64 s2.2.2.1), (9, .int .i64 s2.2.2.2), (52, .tuple #[.int .u64 z4.1, .int .i64 z4.2])]) hf (by kernel_rfl)
              refine st tbOk 5 [1, 4, 5, 6, 7, 8, 9, 12] (L' := [(1, .pointer (some ⟨w.heap.size, 0, none⟩)), (4, .int .u64 z2.1), (5, .int .i64 z2.2), (6, .int .u64 s3), (7, .int .u64 s2.2.1), (8, .int .u64 s2.2.2.1), (9, .int .i64 s2.2.2.2), (12, .int .u64 z4.1)]) hf (by kernel_rfl) ?_
              clear hf; clear a; intro a hf
              refine wpList_nil ?_
              refine reg ?_
              refine st tbOk 5 [1, 4, 5, 6, 8, 9, 55, 56, 59] (L' := [(1, .pointer (some ⟨w.heap.size, 0, none⟩)), (4, .int .u64 z2.1), (5, .int .i64 z2.2), (6, .int .u64 s3), (8, .int .u64 s2.2.2.1), (9, .int .i64 s2.2.2.2), (55, .int .u64 s2.2.1), (56, .int .u64 z4.1), (59, .int .u64 (IntKind.u64.wrap (IntKind.i64.wrap (16 * s2.2.2.2))))]) hf (by kernel_rfl) ?_
              clear hf; clear a; intro a hf
              have hT := of_gd hS; clear hS; obtain ⟨hc5, hS⟩ := hT
              refine bin (run_shl (k := .u64) (k' := .u64) (x := z4.1) hc5 _) hf (by kernel_rfl) (by kernel_rfl) (by kernel_rfl) (by kernel_rfl) ?_
              clear hf; clear a; intro a hf
              replace hf := Fr.keep (ks := [1, 4, 5, 6, 8, 9, 55, 60]) (L' := [(1, .pointer (some ⟨w.heap.size, 0, none⟩)), (4, .int .u64 z2.1), (5, .int .i64 z2.2), (6, .int .u64 s3), (8, .int .u64 s2.2.2.1), (9, .int .i64 s2.2.2.2), (55, .int .u64 s2.2.1), (60, .int .u64 (shl .u64 z4.1 (IntKind.u64.wrap (IntKind.i64.wrap (16 * s2.2.2.2)))))]) hf (by kernel_rfl)
              have hT := of_let hS; clear hS; obtain ⟨z_1, hl2, hS⟩ := hT
              refine st tbOk 2 [1, 4, 5, 6, 7, 8, 9] (L' := [(1, .pointer (some ⟨w.heap.size, 0, none⟩)), (4, .int .u64 z2.1), (5, .int .i64 z2.2), (6, .int .u64 s3), (7, .int .u64 z_1), (8, .int .u64 s2.2.2.1), (9, .int .i64 s2.2.2.2)]) hf (by subst hl2; kernel_rfl) ?_
              clear hf; clear a; intro a hf
              refine wpList_nil ?_
              exact hK4 z_1 _ _ ⟨_, hs.sel [0] rfl rfl, hf.keep (ks := [1, 4, 5, 6, 7, 8, 9]) (by kernel_rfl)⟩ hS
            · replace hS := of_f hb4 hS
              refine wp_skip ?_
              exact hK4 s2.2.1 _ _ ⟨_, hs.sel [0] rfl rfl, hf.keep (ks := [1, 4, 5, 6, 7, 8, 9]) (by kernel_rfl)⟩ hS
        · clear hS; intro KK3 k2 hK3 hS
          refine cnd (b := decide (s2.2.2.2 < 2)) hf (by kernel_rfl) (fun hb3 => ?_) (fun hb3 => ?_)
          · replace hS := of_t hb3 hS
            refine sq ?_
            refine reg ?_
            have hT := of_gd hS; clear hS; obtain ⟨hc2, hS⟩ := hT
            refine slA tbOk u40 i5 rfl (t := (tI .u8)) (arr_RO (Value.int .u8) (fun _ _ => rfl) (hs.cel 0 rfl)) hn1 (lo := 0) (hi := ((b.length : Nat) : Int)) hc2 (.inl ⟨rfl, rfl⟩) (.inl ⟨rfl, rfl⟩) hf (by kernel_rfl) (by kernel_rfl) (by kernel_rfl) ?_
            clear hf; clear a; intro ao2 cp2 a hr2 hf
            replace hs : Sep w F R w4 F5 [.ro (tI .u8) (.slice ao2 (cutL b 0 ((b.length : Nat) : Int)).length cp2) (cutL b 0 ((b.length : Nat) : Int)), .cel w.heap.size 0 (List.map (Value.int .u8) b)] := hs.addRo hr2
            replace hf := Fr.keep (ks := [1, 4, 5, 6, 7, 8, 9, 31]) (L' := [(1, .pointer (some ⟨w.heap.size, 0, none⟩)), (4, .int .u64 z2.1), (5, .int .i64 z2.2), (6, .int .u64 s2.1), (7, .int .u64 s2.2.1), (8, .int .u64 s2.2.2.1), (9, .int .i64 s2.2.2.2), (31, .slice ao2 (cutL b 0 ((b.length : Nat) : Int)).length cp2)]) hf (by kernel_rfl)
            refine st tbOk 3 [1, 4, 5, 6, 7, 8, 9, 31, 34] (L' := [(1, .pointer (some ⟨w.heap.size, 0, none⟩)), (4, .int .u64 z2.1), (5, .int .i64 z2.2), (6, .int .u64 s2.1), (7, .int .u64 s2.2.1), (8, .int .u64 s2.2.2.1), (9, .int .i64 s2.2.2.2), (31, .slice ao2 (cutL b 0 ((b.length : Nat) : Int)).length cp2), (34, .int .u64 (IntKind.u64.wrap (IntKind.i64.wrap (4 * s2.2.2.2))))]) hf (by kernel_rfl) ?_
            clear hf; clear a; intro a hf
            have hT := of_bd hS; clear hS; obtain ⟨z3, hz3, hS⟩ := hT
            refine clV ent12 (vs := [.slice ao2 (cutL b 0 ((b.length : Nat) : Int)).length cp2, .int .u64 (IntKind.u64.wrap (IntKind.i64.wrap (4 * s2.2.2.2))), .int .i64 4]) (caps := []) hf (by kernel_rfl) (by kernel_rfl) (by kernel_rfl) (by kernel_rfl) (octets_Get_ok (b := (cutL b 0 ((b.length : Nat) : Int))) (p_at := IntKind.u64.wrap (IntKind.i64.wrap (4 * s2.2.2.2))) (n := 4) (hs.enter [0] rfl rfl) hz3) ?_
            clear hf; clear a; intro v w5 a hT hf; obtain ⟨F7, rfl, hr⟩ := hT
            replace hs : Sep w F R w5 F7 [.ro (tI .u8) (.slice ao2 (cutL b 0 ((b.length : Nat) : Int)).length cp2) (cutL b 0 ((b.length : Nat) : Int)), .cel w.heap.size 0 (List.map (Value.int .u8) b)] := hs.back [0] [0, 1] rfl rfl rfl rfl hr
            clear hr
            replace hs : Sep w F R w5 F7 [.cel w.heap.size 0 (List.map (Value.int .u8) b)] := hs.sel [1] rfl rfl
            replace hf := Fr.keep (ks := [1, 4, 5, 6, 7, 8, 9, 35]) (L' := [(1, .pointer (some ⟨w.heap.size, 0, none⟩)), (4, .int .u64 z2.1), (5, .int .i64 z2.2), (6, .int .u64 s2.1), (7, .int .u64 s2.2.1), (8, .int .u64 s2.2.2.1), (9, .int .i64 s2.2.2.2), (35, .tuple #[.int .u64 z3.1, .int .i64 z3.2])]) hf (by kernel_rfl)
            refine st tbOk 5 [1, 4, 5, 6, 7, 8, 9, 10] (L' := [(1, .pointer (some ⟨w.heap.size, 0, none⟩)), (4, .int .u64 z2.1), (5, .int .i64 z2.2), (6, .int .u64 s2.1), (7, .int .u64 s2.2.1), (8, .int .u64 s2.2.2.1), (9, .int .i64 s2.2.2.2), (10, .int .u64 z3.1)]) hf (by kernel_rfl) ?_
            clear hf; clear a; intro a hf
            refine wpList_nil ?_
            refine reg ?_
            refine st tbOk 5 [1, 4, 5, 7, 8, 9, 38, 39, 42] (L' := [(1, .pointer (some ⟨w.heap.size, 0, none⟩)), (4, .int .u64 z2.1), (5, .int .i64 z2.2), (7, .int .u64 s2.2.1), (8, .int .u64 s2.2.2.1), (9, .int .i64 s2.2.2.2), (38, .int .u64 s2.1), (39, .int .u64 z3.1), (42, .int .u64 (IntKind.u64.wrap (IntKind.i64.wrap (32 * s2.2.2.2))))]) hf (by kernel_rfl) ?_
            clear hf; clear a; intro a hf
            have hT := of_gd hS; clear hS; obtain ⟨hc3, hS⟩ := hT
            refine bin (run_shl (k := .u64) (k' := .u64) (x := z3.1) hc3 _) hf (by kernel_rfl) (by kernel_rfl) (by kernel_rfl) (by kernel_rfl) ?_
            clear hf; clear a; intro a hf
            replace hf := Fr.keep (ks := [1, 4, 5, 7, 8, 9, 38, 43]) (L' := [(1, .pointer (some ⟨w.heap.size, 0, none⟩)), (4, .int .u64 z2.1), (5, .int .i64 z2.2), (7, .int .u64 s2.2.1), (8, .int .u64 s2.2.2.1), (9, .int .i64 s2.2.2.2), (38, .int .u64 s2.1), (43, .int .u64 (shl .u64 z3.1 (IntKind.u64.wrap (IntKind.i64.wrap (32 * s2.2.2.2)))))]) hf (by kernel_rfl)
            have hT := of_let hS; clear hS; obtain ⟨y_1, hl1, hS⟩ := hT
            refine st tbOk 2 [1, 4, 5, 6, 7, 8, 9] (L' := [(1, .pointer (some ⟨w.heap.size, 0, none⟩)), (4, .int .u64 z2.1), (5, .int .i64 z2.2), (6, .int .u64 y_1), (7, .int .u64 s2.2.1), (8, .int .u64 s2.2.2.1), (9, .int .i64 s2.2.2.2)]) hf (by subst hl1; kernel_rfl) ?_
            clear hf; clear a; intro a hf
            refine wpList_nil ?_
            exact hK3 y_1 _ _ ⟨_, hs.sel [0] rfl rfl, hf.keep (ks := [1, 4, 5, 6, 7, 8, 9]) (by kernel_rfl)⟩ hS
          · replace hS := of_f hb3 hS
            refine wp_skip ?_
            exact hK3 s2.1 _ _ ⟨_, hs.sel [0] rfl rfl, hf.keep (ks := [1, 4, 5, 6, 7, 8, 9]) (by kernel_rfl)⟩ hS
      · replace hS := of_f hb2 hS
        refine wp_exit ?_
        exact hK1 (s2.1, s2.2.1, s2.2.2.1) _ _ ⟨_, hs.sel [] rfl rfl, hf.keep (ks := [4, 5, 6, 7, 8]) (by kernel_rfl)⟩ hS

end Dm
