/-
  The walks: a call of each Go function gives what its shallow form gives, where that form gives something; printed by a program of this repo. No condition.
-/
import Derived.Test.YtmlghbdlhjinaaaWT
namespace Dm
open Go Go.RowKit Go.Proofs

set_option maxHeartbeats 4000000 in
theorem ref08_four_ok {w : World} {F : SH} {b : List Int} {p_x : Int} {ao1 : Option Addr} {cp1 : Nat} (hs : Sep w F (blks [.row 5 (tI .u8) (.slice ao1 b.length cp1) b]) w F [.row 5 (tI .u8) (.slice ao1 b.length cp1) b]) {r : List Int} (hS : ref08_four b p_x = some r) :
    Calls Try.prog 36 [.slice ao1 b.length cp1, .int .u64 p_x].toArray w (Gives (fun u w' => ∃ (ao5 : Option Addr) (cp5 : Nat) (F' : SH), u = .slice ao5 r.length cp5 ∧ Sep w F (blks [.row 5 (tI .u8) (.slice ao1 b.length cp1) b]) w' F' [.row 5 (tI .u8) (.slice ao5 r.length cp5) r])) := by
  generalize (blks [.row 5 (tI .u8) (.slice ao1 b.length cp1) b]) = R at hs ⊢
  unfold ref08_four at hS
  refine fn_ok (vs := [.slice ao1 b.length cp1, .int .u64 p_x]) Try.func36 rfl 19 Try.ntmps36 (Nat.le_of_ble_eq_true rfl) ?_
  intro a hf
  replace hf := Fr.cast (L' := [(0, .slice ao1 b.length cp1), (1, .int .u64 p_x)]) hf (by kernel_rfl)
  refine sq ?_
  refine reg ?_
  refine st tbOk 1 [0, 1] (L' := [(0, .slice ao1 b.length cp1), (1, .int .u64 p_x)]) hf (by kernel_rfl) ?_
  clear hf; clear a; intro a hf
  refine wpList_nil ?_
  refine sq ?_
  refine sq ?_
  refine reg ?_
  refine st tbOk 1 [0, 1, 5] (L' := [(0, .slice ao1 b.length cp1), (1, .int .u64 p_x), (5, .int .i64 0)]) hf (by kernel_rfl) ?_
  clear hf; clear a; intro a hf
  refine wpList_nil ?_
  refine ctj (fun (s1 : List Int) (a : Act) (w' : World) => ∃ (ao2 : Option Addr) (cp2 : Nat) (F1 : SH), Sep w F R w' F1 [.row 5 (tI .u8) (.slice ao2 s1.length cp2) s1] ∧ Fr 19 [(0, .slice ao2 s1.length cp2)] a) hS ?_ ?_
  · clear hS hf hs; clear a; intro s1 a w4 hM hS
    obtain ⟨ao2, cp2, F1, hs, hf⟩ := hM
    refine sq ?_
    refine reg ?_
    refine st tbOk 2 [4] (L' := [(4, .slice ao2 s1.length cp2)]) hf (by kernel_rfl) ?_
    clear hf; clear a; intro a hf
    refine wpList_nil ?_
    have hr := Option.some.inj hS; subst hr
    refine wp_ret ?_
    exact ret_ok hf (vs := [.slice ao2 s1.length cp2]) (by kernel_rfl) ⟨ao2, cp2, _, rfl, hs.sel [0] rfl rfl⟩
  · clear hS; intro KK1 k1 hK1 hS
    refine blk ?_
    refine lp (st := (b, p_x, 0)) (fun (s2 : (List Int) × Int × Int) (a : Act) (w' : World) => ∃ (ao3 : Option Addr) (cp3 : Nat) (F2 : SH), Sep w F R w' F2 [.row 5 (tI .u8) (.slice ao3 s2.1.length cp3) s2.1] ∧ Fr 19 [(0, .slice ao3 s2.1.length cp3), (1, .int .u64 s2.2.1), (5, .int .i64 s2.2.2)] a) ?_ ⟨ao1, cp1, _, hs.sel [0] rfl rfl, hf.keep (ks := [0, 1, 5]) (by kernel_rfl)⟩ hS
    clear hS hf hs; clear a
    intro rec1 KK2 hK2 s2 a w1 hM hS
    obtain ⟨ao3, cp3, F2, hs, hf⟩ := hM
    refine sq ?_
    refine sq ?_
    refine reg ?_
    refine st tbOk 2 [0, 1, 5, 7] (L' := [(0, .slice ao3 s2.1.length cp3), (1, .int .u64 s2.2.1), (5, .int .i64 s2.2.2), (7, .bool (decide (s2.2.2 < 4)))]) hf (by kernel_rfl) ?_
    clear hf; clear a; intro a hf
    refine wpList_nil ?_
    refine cnd (b := decide (s2.2.2 < 4)) hf (by kernel_rfl) (fun hb1 => ?_) (fun hb1 => ?_)
    · replace hS := of_t hb1 hS
      refine wp_skip ?_
      refine sq ?_
      refine blk ?_
      refine sq ?_
      refine reg ?_
      refine st tbOk 4 [1, 5, 10, 13] (L' := [(1, .int .u64 s2.2.1), (5, .int .i64 s2.2.2), (10, .slice ao3 s2.1.length cp3), (13, .int .u8 (IntKind.u8.wrap (Int.tmod s2.2.1 256)))]) hf (by kernel_rfl) ?_
      clear hf; clear a; intro a hf
      refine bsR tbOk u22 i5 rfl (t := (tI .u8)) (vs := [(0, .int .u8 (IntKind.u8.wrap (Int.tmod s2.2.1 256)))]) (cells := #[.int .u8 (IntKind.u8.wrap (Int.tmod s2.2.1 256))]) ([IntKind.u8.wrap (Int.tmod s2.2.1 256)] : List Int) hs.le hf (by kernel_rfl) (by kernel_rfl) (by kernel_rfl) rfl (by kernel_rfl) (reps_flat _) rfl ?_
      clear hf; clear a; intro w2 a ho hx hf
      replace hs : Sep w F R w2 F2 [.row 5 (tI .u8) (.slice (some ⟨w1.heap.size, 0, none⟩) ([IntKind.u8.wrap (Int.tmod s2.2.1 256)] : List Int).length ([IntKind.u8.wrap (Int.tmod s2.2.1 256)] : List Int).length) ([IntKind.u8.wrap (Int.tmod s2.2.1 256)] : List Int), .row 5 (tI .u8) (.slice ao3 s2.1.length cp3) s2.1] := hs.newRow ho hx
      clear ho hx
      replace hf := Fr.keep (ks := [1, 5, 10, 14]) (L' := [(1, .int .u64 s2.2.1), (5, .int .i64 s2.2.2), (10, .slice ao3 s2.1.length cp3), (14, .slice (some ⟨w1.heap.size, 0, none⟩) ([IntKind.u8.wrap (Int.tmod s2.2.1 256)] : List Int).length ([IntKind.u8.wrap (Int.tmod s2.2.1 256)] : List Int).length)]) hf (by kernel_rfl)
      have hT := of_gd hS; clear hS; obtain ⟨hc1, hS⟩ := hT
      refine apR tbOk u22 i5 rfl rfl rfl rfl hs.le (hs.own 1 rfl) (hs.raW 0 rfl) hc1 hf (by kernel_rfl) (by kernel_rfl) (by kernel_rfl) (by kernel_rfl) ?_
      clear hf; clear a; intro ao4 cp4 w3 a ho hg hl hf
      replace hs : Sep w F R w3 F2 [.row 5 (tI .u8) (.slice (some ⟨w1.heap.size, 0, none⟩) ([IntKind.u8.wrap (Int.tmod s2.2.1 256)] : List Int).length ([IntKind.u8.wrap (Int.tmod s2.2.1 256)] : List Int).length) ([IntKind.u8.wrap (Int.tmod s2.2.1 256)] : List Int), .row 5 (tI .u8) (.slice ao4 (s2.1 ++ ([IntKind.u8.wrap (Int.tmod s2.2.1 256)] : List Int)).length cp4) (s2.1 ++ ([IntKind.u8.wrap (Int.tmod s2.2.1 256)] : List Int))] := hs.updRow 1 rfl ho hg hl
      clear ho hg hl
      replace hs : Sep w F R w3 F2 [.row 5 (tI .u8) (.slice ao4 (s2.1 ++ ([IntKind.u8.wrap (Int.tmod s2.2.1 256)] : List Int)).length cp4) (s2.1 ++ ([IntKind.u8.wrap (Int.tmod s2.2.1 256)] : List Int))] := hs.sel [1] rfl rfl
      replace hf := Fr.keep (ks := [1, 5, 15]) (L' := [(1, .int .u64 s2.2.1), (5, .int .i64 s2.2.2), (15, .slice ao4 (s2.1 ++ ([IntKind.u8.wrap (Int.tmod s2.2.1 256)] : List Int)).length cp4)]) hf (by kernel_rfl)
      refine st tbOk 1 [0, 1, 5] (L' := [(0, .slice ao4 (s2.1 ++ ([IntKind.u8.wrap (Int.tmod s2.2.1 256)] : List Int)).length cp4), (1, .int .u64 s2.2.1), (5, .int .i64 s2.2.2)]) hf (by kernel_rfl) ?_
      clear hf; clear a; intro a hf
      refine wpList_nil ?_
      refine reg ?_
      have hT := of_let hS; clear hS; obtain ⟨x_1, hl1, hS⟩ := hT
      refine st tbOk 3 [0, 1, 5] (L' := [(0, .slice ao4 (s2.1 ++ ([IntKind.u8.wrap (Int.tmod s2.2.1 256)] : List Int)).length cp4), (1, .int .u64 x_1), (5, .int .i64 s2.2.2)]) hf (by subst hl1; kernel_rfl) ?_
      clear hf; clear a; intro a hf
      refine wpList_nil ?_
      refine reg ?_
      have hT := of_let hS; clear hS; obtain ⟨i_1, hl2, hS⟩ := hT
      refine st tbOk 3 [0, 1, 5] (L' := [(0, .slice ao4 (s2.1 ++ ([IntKind.u8.wrap (Int.tmod s2.2.1 256)] : List Int)).length cp4), (1, .int .u64 x_1), (5, .int .i64 i_1)]) hf (by subst hl2; kernel_rfl) ?_
      clear hf; clear a; intro a hf
      refine wpList_nil ?_
      exact hK2 ((s2.1 ++ ([IntKind.u8.wrap (Int.tmod s2.2.1 256)] : List Int)), x_1, i_1) _ _ ⟨ao4, cp4, _, hs.sel [0] rfl rfl, hf.keep (ks := [0, 1, 5]) (by kernel_rfl)⟩ hS
    · replace hS := of_f hb1 hS
      refine wp_exit ?_
      exact hK1 s2.1 _ _ ⟨ao3, cp3, _, hs.sel [0] rfl rfl, hf.keep (ks := [0]) (by kernel_rfl)⟩ hS

set_option maxHeartbeats 4000000 in
theorem ref08_padded_ok {w : World} {F : SH} {b : List Int} {ao1 : Option Addr} {cp1 : Nat} (hs : Sep w F (blks [.row 5 (tI .u8) (.slice ao1 b.length cp1) b]) w F [.row 5 (tI .u8) (.slice ao1 b.length cp1) b]) {r : List Int} (hS : ref08_padded b = some r) :
    Calls Try.prog 37 [.slice ao1 b.length cp1].toArray w (Gives (fun u w' => ∃ (ao5 : Option Addr) (cp5 : Nat) (F' : SH), u = .slice ao5 r.length cp5 ∧ Sep w F (blks [.row 5 (tI .u8) (.slice ao1 b.length cp1) b]) w' F' [.row 5 (tI .u8) (.slice ao5 r.length cp5) r])) := by
  generalize (blks [.row 5 (tI .u8) (.slice ao1 b.length cp1) b]) = R at hs ⊢
  unfold ref08_padded at hS
  refine fn_ok (vs := [.slice ao1 b.length cp1]) Try.func37 rfl 11 Try.ntmps37 (Nat.le_of_ble_eq_true rfl) ?_
  intro a hf
  replace hf := Fr.cast (L' := [(0, .slice ao1 b.length cp1)]) hf (by kernel_rfl)
  refine sq ?_
  refine reg ?_
  refine st tbOk 1 [0] (L' := [(0, .slice ao1 b.length cp1)]) hf (by kernel_rfl) ?_
  clear hf; clear a; intro a hf
  refine wpList_nil ?_
  refine sq ?_
  refine ctj (fun (s1 : List Int) (a : Act) (w' : World) => ∃ (ao2 : Option Addr) (cp2 : Nat) (F1 : SH), Sep w F R w' F1 [.row 5 (tI .u8) (.slice ao2 s1.length cp2) s1] ∧ Fr 11 [(0, .slice ao2 s1.length cp2)] a) hS ?_ ?_
  · clear hS hf hs; clear a; intro s1 a w4 hM hS
    obtain ⟨ao2, cp2, F1, hs, hf⟩ := hM
    refine sq ?_
    refine reg ?_
    refine st tbOk 2 [2] (L' := [(2, .slice ao2 s1.length cp2)]) hf (by kernel_rfl) ?_
    clear hf; clear a; intro a hf
    refine wpList_nil ?_
    have hr := Option.some.inj hS; subst hr
    refine wp_ret ?_
    exact ret_ok hf (vs := [.slice ao2 s1.length cp2]) (by kernel_rfl) ⟨ao2, cp2, _, rfl, hs.sel [0] rfl rfl⟩
  · clear hS; intro KK1 k1 hK1 hS
    refine blk ?_
    refine lp (st := b) (fun (s2 : List Int) (a : Act) (w' : World) => ∃ (ao3 : Option Addr) (cp3 : Nat) (F2 : SH), Sep w F R w' F2 [.row 5 (tI .u8) (.slice ao3 s2.length cp3) s2] ∧ Fr 11 [(0, .slice ao3 s2.length cp3)] a) ?_ ⟨ao1, cp1, _, hs.sel [0] rfl rfl, hf.keep (ks := [0]) (by kernel_rfl)⟩ hS
    clear hS hf hs; clear a
    intro rec1 KK2 hK2 s2 a w1 hM hS
    obtain ⟨ao3, cp3, F2, hs, hf⟩ := hM
    refine sq ?_
    refine sq ?_
    refine reg ?_
    refine st tbOk 4 [0, 6] (L' := [(0, .slice ao3 s2.length cp3), (6, .bool ((Int.tmod ((s2.length : Nat) : Int) 4) != 0))]) hf (by kernel_rfl) ?_
    clear hf; clear a; intro a hf
    refine wpList_nil ?_
    refine cnd (b := (Int.tmod ((s2.length : Nat) : Int) 4) != 0) hf (by kernel_rfl) (fun hb1 => ?_) (fun hb1 => ?_)
    · replace hS := of_t hb1 hS
      refine wp_skip ?_
      refine blk ?_
      refine reg ?_
      refine st tbOk 1 [7] (L' := [(7, .slice ao3 s2.length cp3)]) hf (by kernel_rfl) ?_
      clear hf; clear a; intro a hf
      refine bsR tbOk u22 i5 rfl (t := (tI .u8)) (vs := [(0, .int .u8 0)]) (cells := #[.int .u8 0]) ([0] : List Int) hs.le hf (by kernel_rfl) (by kernel_rfl) (by kernel_rfl) rfl (by kernel_rfl) (reps_flat _) rfl ?_
      clear hf; clear a; intro w2 a ho hx hf
      replace hs : Sep w F R w2 F2 [.row 5 (tI .u8) (.slice (some ⟨w1.heap.size, 0, none⟩) ([0] : List Int).length ([0] : List Int).length) ([0] : List Int), .row 5 (tI .u8) (.slice ao3 s2.length cp3) s2] := hs.newRow ho hx
      clear ho hx
      replace hf := Fr.keep (ks := [7, 8]) (L' := [(7, .slice ao3 s2.length cp3), (8, .slice (some ⟨w1.heap.size, 0, none⟩) ([0] : List Int).length ([0] : List Int).length)]) hf (by kernel_rfl)
      have hT := of_gd hS; clear hS; obtain ⟨hc1, hS⟩ := hT
      refine apR tbOk u22 i5 rfl rfl rfl rfl hs.le (hs.own 1 rfl) (hs.raW 0 rfl) hc1 hf (by kernel_rfl) (by kernel_rfl) (by kernel_rfl) (by kernel_rfl) ?_
      clear hf; clear a; intro ao4 cp4 w3 a ho hg hl hf
      replace hs : Sep w F R w3 F2 [.row 5 (tI .u8) (.slice (some ⟨w1.heap.size, 0, none⟩) ([0] : List Int).length ([0] : List Int).length) ([0] : List Int), .row 5 (tI .u8) (.slice ao4 (s2 ++ ([0] : List Int)).length cp4) (s2 ++ ([0] : List Int))] := hs.updRow 1 rfl ho hg hl
      clear ho hg hl
      replace hs : Sep w F R w3 F2 [.row 5 (tI .u8) (.slice ao4 (s2 ++ ([0] : List Int)).length cp4) (s2 ++ ([0] : List Int))] := hs.sel [1] rfl rfl
      replace hf := Fr.keep (ks := [9]) (L' := [(9, .slice ao4 (s2 ++ ([0] : List Int)).length cp4)]) hf (by kernel_rfl)
      refine st tbOk 1 [0] (L' := [(0, .slice ao4 (s2 ++ ([0] : List Int)).length cp4)]) hf (by kernel_rfl) ?_
      clear hf; clear a; intro a hf
      refine wpList_nil ?_
      exact hK2 (s2 ++ ([0] : List Int)) _ _ ⟨ao4, cp4, _, hs.sel [0] rfl rfl, hf.keep (ks := [0]) (by kernel_rfl)⟩ hS
    · replace hS := of_f hb1 hS
      refine wp_exit ?_
      exact hK1 s2 _ _ ⟨ao3, cp3, _, hs.sel [0] rfl rfl, hf.keep (ks := [0]) (by kernel_rfl)⟩ hS

set_option maxHeartbeats 4000000 in
theorem ref08_Put_ok {w : World} {F : SH} {p_l : List ((List UInt8) × Int × (List Int))} {ao1 : Option Addr} {cp1 : Nat} (hs : Sep w F (blks [.ro ty53 (.slice ao1 p_l.length cp1) p_l]) w F [.ro ty53 (.slice ao1 p_l.length cp1) p_l]) {r : (List Int) × Int} (hS : ref08_Put p_l = some r) :
    Calls Try.prog 26 [.slice ao1 p_l.length cp1].toArray w (Gives (fun u w' => ∃ (ao19 : Option Addr) (cp19 : Nat) (F' : SH), u = .tuple #[.slice ao19 r.1.length cp19, .int .i64 r.2] ∧ Sep w F (blks [.ro ty53 (.slice ao1 p_l.length cp1) p_l]) w' F' [.row 5 (tI .u8) (.slice ao19 r.1.length cp19) r.1])) := by
  generalize (blks [.ro ty53 (.slice ao1 p_l.length cp1) p_l]) = R at hs ⊢
  unfold ref08_Put at hS
  refine fn_ok (vs := [.slice ao1 p_l.length cp1]) Try.func26 rfl 88 Try.ntmps26 (Nat.le_of_ble_eq_true rfl) ?_
  intro a hf
  replace hf := Fr.cast (L' := [(0, .slice ao1 p_l.length cp1)]) hf (by kernel_rfl)
  refine sq ?_
  refine reg ?_
  refine st tbOk 2 [0] (L' := [(0, .slice ao1 p_l.length cp1)]) hf (by kernel_rfl) ?_
  clear hf; clear a; intro a hf
  refine wpList_nil ?_
  refine sq ?_
  refine reg ?_
  refine st tbOk 1 [0, 4] (L' := [(0, .slice ao1 p_l.length cp1), (4, .slice none 0 0)]) hf (by kernel_rfl) ?_
  clear hf; clear a; intro a hf
  refine wpList_nil ?_
  refine sq ?_
  refine sq ?_
  refine reg ?_
  refine st tbOk 1 [0, 4, 5] (L' := [(0, .slice ao1 p_l.length cp1), (4, .slice none 0 0), (5, .int .i64 0)]) hf (by kernel_rfl) ?_
  clear hf; clear a; intro a hf
  refine wpList_nil ?_
  refine ctj (fun (s1 : Unit) (a : Act) (w' : World) => ∃ (F1 : SH), Sep w F R w' F1 [.ro ty53 (.slice ao1 p_l.length cp1) p_l] ∧ Fr 88 [(0, .slice ao1 p_l.length cp1), (4, .slice none 0 0)] a) hS ?_ ?_
  · clear hS hf hs; clear a; intro s1 a w5 hM hS
    obtain ⟨F1, hs, hf⟩ := hM
    refine sq ?_
    refine sq ?_
    refine reg ?_
    refine st tbOk 1 [0, 4, 7] (L' := [(0, .slice ao1 p_l.length cp1), (4, .slice none 0 0), (7, .int .i64 0)]) hf (by kernel_rfl) ?_
    clear hf; clear a; intro a hf
    refine wpList_nil ?_
    refine ctj (fun (s6 : List Int) (a : Act) (w' : World) => ∃ (ao4 : Option Addr) (cp4 : Nat) (F6 : SH), Sep w F R w' F6 [.row 5 (tI .u8) (.slice ao4 s6.length cp4) s6] ∧ Fr 88 [(4, .slice ao4 s6.length cp4)] a) hS ?_ ?_
    · clear hS hf hs; clear a; intro s6 a w16 hM hS
      obtain ⟨ao4, cp4, F6, hs, hf⟩ := hM
      refine sq ?_
      refine sq ?_
      refine reg ?_
      refine st tbOk 3 [4, 86] (L' := [(4, .slice ao4 s6.length cp4), (86, .bool (decide (((s6.length : Nat) : Int) > 65536)))]) hf (by kernel_rfl) ?_
      clear hf; clear a; intro a hf
      refine wpList_nil ?_
      refine cnd (b := decide (((s6.length : Nat) : Int) > 65536)) hf (by kernel_rfl) (fun hb5 => ?_) (fun hb5 => ?_)
      · replace hS := of_t hb5 hS
        refine sq ?_
        refine reg ?_
        refine st tbOk 2 [2, 3] (L' := [(2, .slice none 0 0), (3, .int .i64 13)]) hf (by kernel_rfl) ?_
        clear hf; clear a; intro a hf
        refine wpList_nil ?_
        have hr := Option.some.inj hS; subst hr
        refine wp_ret ?_
        replace hs : Sep w F R w16 F6 [.row 5 (tI .u8) (.slice none 0 0) ([] : List Int), .row 5 (tI .u8) (.slice ao4 s6.length cp4) s6] := hs.addNil 5 (tI .u8)
        exact ret_ok hf (vs := [.slice none 0 0, .int .i64 13]) (by kernel_rfl) ⟨none, 0, _, rfl, hs.sel [0] rfl rfl⟩
      · replace hS := of_f hb5 hS
        refine wp_skip ?_
        refine sq ?_
        refine reg ?_
        refine st tbOk 3 [2, 3] (L' := [(2, .slice ao4 s6.length cp4), (3, .int .i64 0)]) hf (by kernel_rfl) ?_
        clear hf; clear a; intro a hf
        refine wpList_nil ?_
        have hr := Option.some.inj hS; subst hr
        refine wp_ret ?_
        exact ret_ok hf (vs := [.slice ao4 s6.length cp4, .int .i64 0]) (by kernel_rfl) ⟨ao4, cp4, _, rfl, hs.sel [0] rfl rfl⟩
    · clear hS; intro KK6 k4 hK6 hS
      refine blk ?_
      replace hs : Sep w F R w5 F1 [.row 5 (tI .u8) (.slice none 0 0) ([] : List Int), .ro ty53 (.slice ao1 p_l.length cp1) p_l] := hs.addNil 5 (tI .u8)
      refine lp (st := ([], 0)) (fun (s7 : (List Int) × Int) (a : Act) (w' : World) => ∃ (ao5 : Option Addr) (cp5 : Nat) (F7 : SH), Sep w F R w' F7 [.row 5 (tI .u8) (.slice ao5 s7.1.length cp5) s7.1, .ro ty53 (.slice ao1 p_l.length cp1) p_l] ∧ Fr 88 [(0, .slice ao1 p_l.length cp1), (4, .slice ao5 s7.1.length cp5), (7, .int .i64 s7.2)] a) ?_ ⟨none, 0, _, hs.sel [0, 1] rfl rfl, hf.keep (ks := [0, 4, 7]) (by kernel_rfl)⟩ hS
      clear hS hf hs; clear a
      intro rec3 KK7 hK7 s7 a w6 hM hS
      obtain ⟨ao5, cp5, F7, hs, hf⟩ := hM
      refine sq ?_
      refine sq ?_
      refine reg ?_
      refine st tbOk 4 [0, 4, 7, 35] (L' := [(0, .slice ao1 p_l.length cp1), (4, .slice ao5 s7.1.length cp5), (7, .int .i64 s7.2), (35, .bool (decide (s7.2 < ((p_l.length : Nat) : Int))))]) hf (by kernel_rfl) ?_
      clear hf; clear a; intro a hf
      refine wpList_nil ?_
      refine cnd (b := decide (s7.2 < ((p_l.length : Nat) : Int))) hf (by kernel_rfl) (fun hb4 => ?_) (fun hb4 => ?_)
      · replace hS := of_t hb4 hS
        refine wp_skip ?_
        refine sq ?_
        refine blk ?_
        refine sq ?_
        refine reg ?_
        refine st tbOk 3 [0, 7, 38, 39, 40] (L' := [(0, .slice ao1 p_l.length cp1), (7, .int .i64 s7.2), (38, .slice ao5 s7.1.length cp5), (39, .slice ao1 p_l.length cp1), (40, .int .i64 s7.2)]) hf (by kernel_rfl) ?_
        clear hf; clear a; intro a hf
        have hT := of_gd hS; clear hS; obtain ⟨hc4, hS⟩ := hT
        refine ixR tbOk u42 i65 rfl rfl ((hs.ro 1 rfl).ra (LeH.refl _)) (k := .i64) (n := s7.2) hc4 hf (by kernel_rfl) (by kernel_rfl) (by kernel_rfl) (by kernel_rfl) ?_
        clear hf; clear a; intro pb3 po3 c3 a hp3 hr5 hf
        obtain ⟨ao6, cp6, rfl, hr6⟩ := hr5
        replace hs : Sep w F R w6 F7 [.ro (tI .u8) (.slice ao6 ((gt p_l s7.2).2.2).length cp6) ((gt p_l s7.2).2.2), .row 5 (tI .u8) (.slice ao5 s7.1.length cp5) s7.1, .ro ty53 (.slice ao1 p_l.length cp1) p_l] := hs.addRo hr6
        replace hs : Sep w F R w6 F7 [.cel pb3 po3 [strV ((gt p_l s7.2).1), .int .u32 ((gt p_l s7.2).2.1), .slice ao6 ((gt p_l s7.2).2.2).length cp6], .ro (tI .u8) (.slice ao6 ((gt p_l s7.2).2.2).length cp6) ((gt p_l s7.2).2.2), .row 5 (tI .u8) (.slice ao5 s7.1.length cp5) s7.1, .ro ty53 (.slice ao1 p_l.length cp1) p_l] := hs.addCel hp3
        replace hf := Fr.keep (ks := [0, 7, 38, 41]) (L' := [(0, .slice ao1 p_l.length cp1), (7, .int .i64 s7.2), (38, .slice ao5 s7.1.length cp5), (41, .pointer (some ⟨pb3, po3, none⟩))]) hf (by kernel_rfl)
        refine st tbOk 1 [0, 7, 38, 42] (L' := [(0, .slice ao1 p_l.length cp1), (7, .int .i64 s7.2), (38, .slice ao5 s7.1.length cp5), (42, .pointer (some ⟨pb3, po3, none⟩))]) hf (by kernel_rfl) ?_
        clear hf; clear a; intro a hf
        refine ldC tbOk (T := 9) (hs.ccel 0 rfl) (LeH.refl _) 0 (strV ((gt p_l s7.2).1)) hf (by kernel_rfl) (by kernel_rfl) (by kernel_rfl) (by kernel_rfl) ?_
        clear hf; clear a; intro a hf
        replace hs : Sep w F R w6 F7 [.row 5 (tI .u8) (.slice ao5 s7.1.length cp5) s7.1, .ro ty53 (.slice ao1 p_l.length cp1) p_l] := hs.sel [2, 3] rfl rfl
        replace hf := Fr.keep (ks := [0, 7, 38, 43]) (L' := [(0, .slice ao1 p_l.length cp1), (7, .int .i64 s7.2), (38, .slice ao5 s7.1.length cp5), (43, strV ((gt p_l s7.2).1))]) hf (by kernel_rfl)
        refine st tbOk 3 [0, 7, 38, 46] (L' := [(0, .slice ao1 p_l.length cp1), (7, .int .i64 s7.2), (38, .slice ao5 s7.1.length cp5), (46, .int .u64 (IntKind.u64.wrap (IntKind.i64.wrap (((((gt p_l s7.2).1).length : Nat) : Int) + 1))))]) hf (by kernel_rfl) ?_
        clear hf; clear a; intro a hf
        have hT := of_bd hS; clear hS; obtain ⟨z1, hz1, hS⟩ := hT
        refine clV ent36 (vs := [.slice ao5 s7.1.length cp5, .int .u64 (IntKind.u64.wrap (IntKind.i64.wrap (((((gt p_l s7.2).1).length : Nat) : Int) + 1)))]) (caps := []) hf (by kernel_rfl) (by kernel_rfl) (by kernel_rfl) (by kernel_rfl) (ref08_four_ok (b := s7.1) (p_x := IntKind.u64.wrap (IntKind.i64.wrap (((((gt p_l s7.2).1).length : Nat) : Int) + 1))) (hs.enter [0] rfl rfl) hz1) ?_
        clear hf; clear a; intro v w7 a hT hf; obtain ⟨ao7, cp7, F8, rfl, hr⟩ := hT
        replace hs : Sep w F R w7 F8 [.row 5 (tI .u8) (.slice ao7 z1.length cp7) z1, .ro ty53 (.slice ao1 p_l.length cp1) p_l] := hs.back [0] [1] rfl rfl rfl rfl hr
        clear hr
        replace hf := Fr.keep (ks := [0, 7, 47]) (L' := [(0, .slice ao1 p_l.length cp1), (7, .int .i64 s7.2), (47, .slice ao7 z1.length cp7)]) hf (by kernel_rfl)
        refine st tbOk 1 [0, 4, 7] (L' := [(0, .slice ao1 p_l.length cp1), (4, .slice ao7 z1.length cp7), (7, .int .i64 s7.2)]) hf (by kernel_rfl) ?_
        clear hf; clear a; intro a hf
        refine wpList_nil ?_
        refine sq ?_
        refine reg ?_
        refine st tbOk 3 [0, 7, 48, 49, 50] (L' := [(0, .slice ao1 p_l.length cp1), (7, .int .i64 s7.2), (48, .slice ao7 z1.length cp7), (49, .slice ao1 p_l.length cp1), (50, .int .i64 s7.2)]) hf (by kernel_rfl) ?_
        clear hf; clear a; intro a hf
        have hT := of_gd hS; clear hS; obtain ⟨hc5, hS⟩ := hT
        refine ixR tbOk u42 i65 rfl rfl ((hs.ro 1 rfl).ra (LeH.refl _)) (k := .i64) (n := s7.2) hc5 hf (by kernel_rfl) (by kernel_rfl) (by kernel_rfl) (by kernel_rfl) ?_
        clear hf; clear a; intro pb4 po4 c4 a hp4 hr7 hf
        obtain ⟨ao8, cp8, rfl, hr8⟩ := hr7
        replace hs : Sep w F R w7 F8 [.ro (tI .u8) (.slice ao8 ((gt p_l s7.2).2.2).length cp8) ((gt p_l s7.2).2.2), .row 5 (tI .u8) (.slice ao7 z1.length cp7) z1, .ro ty53 (.slice ao1 p_l.length cp1) p_l] := hs.addRo hr8
        replace hs : Sep w F R w7 F8 [.cel pb4 po4 [strV ((gt p_l s7.2).1), .int .u32 ((gt p_l s7.2).2.1), .slice ao8 ((gt p_l s7.2).2.2).length cp8], .ro (tI .u8) (.slice ao8 ((gt p_l s7.2).2.2).length cp8) ((gt p_l s7.2).2.2), .row 5 (tI .u8) (.slice ao7 z1.length cp7) z1, .ro ty53 (.slice ao1 p_l.length cp1) p_l] := hs.addCel hp4
        replace hf := Fr.keep (ks := [0, 7, 48, 51]) (L' := [(0, .slice ao1 p_l.length cp1), (7, .int .i64 s7.2), (48, .slice ao7 z1.length cp7), (51, .pointer (some ⟨pb4, po4, none⟩))]) hf (by kernel_rfl)
        refine st tbOk 1 [0, 7, 48, 52] (L' := [(0, .slice ao1 p_l.length cp1), (7, .int .i64 s7.2), (48, .slice ao7 z1.length cp7), (52, .pointer (some ⟨pb4, po4 + 2, none⟩))]) hf (by kernel_rfl) ?_
        clear hf; clear a; intro a hf
        refine ldC tbOk (T := 22) (hs.ccel 0 rfl) (LeH.refl _) 2 (.slice ao8 ((gt p_l s7.2).2.2).length cp8) hf (by kernel_rfl) (by kernel_rfl) (by kernel_rfl) (by kernel_rfl) ?_
        clear hf; clear a; intro a hf
        replace hs : Sep w F R w7 F8 [.ro (tI .u8) (.slice ao8 ((gt p_l s7.2).2.2).length cp8) ((gt p_l s7.2).2.2), .row 5 (tI .u8) (.slice ao7 z1.length cp7) z1, .ro ty53 (.slice ao1 p_l.length cp1) p_l] := hs.sel [1, 2, 3] rfl rfl
        replace hf := Fr.keep (ks := [0, 7, 48, 53]) (L' := [(0, .slice ao1 p_l.length cp1), (7, .int .i64 s7.2), (48, .slice ao7 z1.length cp7), (53, .slice ao8 ((gt p_l s7.2).2.2).length cp8)]) hf (by kernel_rfl)
        refine st tbOk 2 [0, 7, 48, 55] (L' := [(0, .slice ao1 p_l.length cp1), (7, .int .i64 s7.2), (48, .slice ao7 z1.length cp7), (55, .int .u64 (IntKind.u64.wrap ((((gt p_l s7.2).2.2).length : Nat) : Int)))]) hf (by kernel_rfl) ?_
        clear hf; clear a; intro a hf
        have hT := of_bd hS; clear hS; obtain ⟨z2, hz2, hS⟩ := hT
        refine clV ent36 (vs := [.slice ao7 z1.length cp7, .int .u64 (IntKind.u64.wrap ((((gt p_l s7.2).2.2).length : Nat) : Int))]) (caps := []) hf (by kernel_rfl) (by kernel_rfl) (by kernel_rfl) (by kernel_rfl) (ref08_four_ok (b := z1) (p_x := IntKind.u64.wrap ((((gt p_l s7.2).2.2).length : Nat) : Int)) (hs.enter [1] rfl rfl) hz2) ?_
        clear hf; clear a; intro v w8 a hT hf; obtain ⟨ao9, cp9, F9, rfl, hr⟩ := hT
        replace hs : Sep w F R w8 F9 [.row 5 (tI .u8) (.slice ao9 z2.length cp9) z2, .ro (tI .u8) (.slice ao8 ((gt p_l s7.2).2.2).length cp8) ((gt p_l s7.2).2.2), .ro ty53 (.slice ao1 p_l.length cp1) p_l] := hs.back [1] [0, 2] rfl rfl rfl rfl hr
        clear hr
        replace hs : Sep w F R w8 F9 [.row 5 (tI .u8) (.slice ao9 z2.length cp9) z2, .ro ty53 (.slice ao1 p_l.length cp1) p_l] := hs.sel [0, 2] rfl rfl
        replace hf := Fr.keep (ks := [0, 7, 56]) (L' := [(0, .slice ao1 p_l.length cp1), (7, .int .i64 s7.2), (56, .slice ao9 z2.length cp9)]) hf (by kernel_rfl)
        refine st tbOk 1 [0, 4, 7] (L' := [(0, .slice ao1 p_l.length cp1), (4, .slice ao9 z2.length cp9), (7, .int .i64 s7.2)]) hf (by kernel_rfl) ?_
        clear hf; clear a; intro a hf
        refine wpList_nil ?_
        refine sq ?_
        refine reg ?_
        refine st tbOk 3 [0, 7, 57, 58, 59] (L' := [(0, .slice ao1 p_l.length cp1), (7, .int .i64 s7.2), (57, .slice ao9 z2.length cp9), (58, .slice ao1 p_l.length cp1), (59, .int .i64 s7.2)]) hf (by kernel_rfl) ?_
        clear hf; clear a; intro a hf
        have hT := of_gd hS; clear hS; obtain ⟨hc6, hS⟩ := hT
        refine ixR tbOk u42 i65 rfl rfl ((hs.ro 1 rfl).ra (LeH.refl _)) (k := .i64) (n := s7.2) hc6 hf (by kernel_rfl) (by kernel_rfl) (by kernel_rfl) (by kernel_rfl) ?_
        clear hf; clear a; intro pb5 po5 c5 a hp5 hr9 hf
        obtain ⟨ao10, cp10, rfl, hr10⟩ := hr9
        replace hs : Sep w F R w8 F9 [.ro (tI .u8) (.slice ao10 ((gt p_l s7.2).2.2).length cp10) ((gt p_l s7.2).2.2), .row 5 (tI .u8) (.slice ao9 z2.length cp9) z2, .ro ty53 (.slice ao1 p_l.length cp1) p_l] := hs.addRo hr10
        replace hs : Sep w F R w8 F9 [.cel pb5 po5 [strV ((gt p_l s7.2).1), .int .u32 ((gt p_l s7.2).2.1), .slice ao10 ((gt p_l s7.2).2.2).length cp10], .ro (tI .u8) (.slice ao10 ((gt p_l s7.2).2.2).length cp10) ((gt p_l s7.2).2.2), .row 5 (tI .u8) (.slice ao9 z2.length cp9) z2, .ro ty53 (.slice ao1 p_l.length cp1) p_l] := hs.addCel hp5
        replace hf := Fr.keep (ks := [0, 7, 57, 60]) (L' := [(0, .slice ao1 p_l.length cp1), (7, .int .i64 s7.2), (57, .slice ao9 z2.length cp9), (60, .pointer (some ⟨pb5, po5, none⟩))]) hf (by kernel_rfl)
        refine st tbOk 1 [0, 7, 57, 61] (L' := [(0, .slice ao1 p_l.length cp1), (7, .int .i64 s7.2), (57, .slice ao9 z2.length cp9), (61, .pointer (some ⟨pb5, po5 + 1, none⟩))]) hf (by kernel_rfl) ?_
        clear hf; clear a; intro a hf
        refine ldC tbOk (T := 50) (hs.ccel 0 rfl) (LeH.refl _) 1 (.int .u32 ((gt p_l s7.2).2.1)) hf (by kernel_rfl) (by kernel_rfl) (by kernel_rfl) (by kernel_rfl) ?_
        clear hf; clear a; intro a hf
        replace hs : Sep w F R w8 F9 [.row 5 (tI .u8) (.slice ao9 z2.length cp9) z2, .ro ty53 (.slice ao1 p_l.length cp1) p_l] := hs.sel [2, 3] rfl rfl
        replace hf := Fr.keep (ks := [0, 7, 57, 62]) (L' := [(0, .slice ao1 p_l.length cp1), (7, .int .i64 s7.2), (57, .slice ao9 z2.length cp9), (62, .int .u32 ((gt p_l s7.2).2.1))]) hf (by kernel_rfl)
        refine st tbOk 1 [0, 7, 57, 63] (L' := [(0, .slice ao1 p_l.length cp1), (7, .int .i64 s7.2), (57, .slice ao9 z2.length cp9), (63, .int .u64 (IntKind.u64.wrap ((gt p_l s7.2).2.1)))]) hf (by kernel_rfl) ?_
        clear hf; clear a; intro a hf
        have hT := of_bd hS; clear hS; obtain ⟨z3, hz3, hS⟩ := hT
        refine clV ent36 (vs := [.slice ao9 z2.length cp9, .int .u64 (IntKind.u64.wrap ((gt p_l s7.2).2.1))]) (caps := []) hf (by kernel_rfl) (by kernel_rfl) (by kernel_rfl) (by kernel_rfl) (ref08_four_ok (b := z2) (p_x := IntKind.u64.wrap ((gt p_l s7.2).2.1)) (hs.enter [0] rfl rfl) hz3) ?_
        clear hf; clear a; intro v w9 a hT hf; obtain ⟨ao11, cp11, F10, rfl, hr⟩ := hT
        replace hs : Sep w F R w9 F10 [.row 5 (tI .u8) (.slice ao11 z3.length cp11) z3, .ro ty53 (.slice ao1 p_l.length cp1) p_l] := hs.back [0] [1] rfl rfl rfl rfl hr
        clear hr
        replace hf := Fr.keep (ks := [0, 7, 64]) (L' := [(0, .slice ao1 p_l.length cp1), (7, .int .i64 s7.2), (64, .slice ao11 z3.length cp11)]) hf (by kernel_rfl)
        refine st tbOk 1 [0, 4, 7] (L' := [(0, .slice ao1 p_l.length cp1), (4, .slice ao11 z3.length cp11), (7, .int .i64 s7.2)]) hf (by kernel_rfl) ?_
        clear hf; clear a; intro a hf
        refine wpList_nil ?_
        refine sq ?_
        refine reg ?_
        refine st tbOk 3 [0, 7, 65, 66, 67] (L' := [(0, .slice ao1 p_l.length cp1), (7, .int .i64 s7.2), (65, .slice ao11 z3.length cp11), (66, .slice ao1 p_l.length cp1), (67, .int .i64 s7.2)]) hf (by kernel_rfl) ?_
        clear hf; clear a; intro a hf
        have hT := of_gd hS; clear hS; obtain ⟨hc7, hS⟩ := hT
        refine ixR tbOk u42 i65 rfl rfl ((hs.ro 1 rfl).ra (LeH.refl _)) (k := .i64) (n := s7.2) hc7 hf (by kernel_rfl) (by kernel_rfl) (by kernel_rfl) (by kernel_rfl) ?_
        clear hf; clear a; intro pb6 po6 c6 a hp6 hr11 hf
        obtain ⟨ao12, cp12, rfl, hr12⟩ := hr11
        replace hs : Sep w F R w9 F10 [.ro (tI .u8) (.slice ao12 ((gt p_l s7.2).2.2).length cp12) ((gt p_l s7.2).2.2), .row 5 (tI .u8) (.slice ao11 z3.length cp11) z3, .ro ty53 (.slice ao1 p_l.length cp1) p_l] := hs.addRo hr12
        replace hs : Sep w F R w9 F10 [.cel pb6 po6 [strV ((gt p_l s7.2).1), .int .u32 ((gt p_l s7.2).2.1), .slice ao12 ((gt p_l s7.2).2.2).length cp12], .ro (tI .u8) (.slice ao12 ((gt p_l s7.2).2.2).length cp12) ((gt p_l s7.2).2.2), .row 5 (tI .u8) (.slice ao11 z3.length cp11) z3, .ro ty53 (.slice ao1 p_l.length cp1) p_l] := hs.addCel hp6
        replace hf := Fr.keep (ks := [0, 7, 65, 68]) (L' := [(0, .slice ao1 p_l.length cp1), (7, .int .i64 s7.2), (65, .slice ao11 z3.length cp11), (68, .pointer (some ⟨pb6, po6, none⟩))]) hf (by kernel_rfl)
        refine st tbOk 1 [0, 7, 65, 69] (L' := [(0, .slice ao1 p_l.length cp1), (7, .int .i64 s7.2), (65, .slice ao11 z3.length cp11), (69, .pointer (some ⟨pb6, po6, none⟩))]) hf (by kernel_rfl) ?_
        clear hf; clear a; intro a hf
        refine ldC tbOk (T := 9) (hs.ccel 0 rfl) (LeH.refl _) 0 (strV ((gt p_l s7.2).1)) hf (by kernel_rfl) (by kernel_rfl) (by kernel_rfl) (by kernel_rfl) ?_
        clear hf; clear a; intro a hf
        replace hs : Sep w F R w9 F10 [.row 5 (tI .u8) (.slice ao11 z3.length cp11) z3, .ro ty53 (.slice ao1 p_l.length cp1) p_l] := hs.sel [2, 3] rfl rfl
        replace hf := Fr.keep (ks := [0, 7, 65, 70]) (L' := [(0, .slice ao1 p_l.length cp1), (7, .int .i64 s7.2), (65, .slice ao11 z3.length cp11), (70, strV ((gt p_l s7.2).1))]) hf (by kernel_rfl)
        have hT := of_gd hS; clear hS; obtain ⟨hc8, hS⟩ := hT
        refine apS tbOk u22 u9 i5 hs.le (hs.own 0 rfl) (y := (gt p_l s7.2).1) hc8 hf (by kernel_rfl) (by kernel_rfl) (by kernel_rfl) (by kernel_rfl) ?_
        clear hf; clear a; intro ao13 cp13 w10 a ho hg hl hf
        replace hs : Sep w F R w10 F10 [.row 5 (tI .u8) (.slice ao13 (z3 ++ ofStr ((gt p_l s7.2).1)).length cp13) (z3 ++ ofStr ((gt p_l s7.2).1)), .ro ty53 (.slice ao1 p_l.length cp1) p_l] := hs.updRow 0 rfl ho hg hl
        clear ho hg hl
        replace hf := Fr.keep (ks := [0, 7, 71]) (L' := [(0, .slice ao1 p_l.length cp1), (7, .int .i64 s7.2), (71, .slice ao13 (z3 ++ ofStr ((gt p_l s7.2).1)).length cp13)]) hf (by kernel_rfl)
        refine st tbOk 1 [0, 4, 7] (L' := [(0, .slice ao1 p_l.length cp1), (4, .slice ao13 (z3 ++ ofStr ((gt p_l s7.2).1)).length cp13), (7, .int .i64 s7.2)]) hf (by kernel_rfl) ?_
        clear hf; clear a; intro a hf
        refine wpList_nil ?_
        refine sq ?_
        refine reg ?_
        refine st tbOk 1 [0, 7, 72] (L' := [(0, .slice ao1 p_l.length cp1), (7, .int .i64 s7.2), (72, .slice ao13 (z3 ++ ofStr ((gt p_l s7.2).1)).length cp13)]) hf (by kernel_rfl) ?_
        clear hf; clear a; intro a hf
        refine bsR tbOk u22 i5 rfl (t := (tI .u8)) (vs := [(0, .int .u8 0)]) (cells := #[.int .u8 0]) ([0] : List Int) hs.le hf (by kernel_rfl) (by kernel_rfl) (by kernel_rfl) rfl (by kernel_rfl) (reps_flat _) rfl ?_
        clear hf; clear a; intro w11 a ho hx hf
        replace hs : Sep w F R w11 F10 [.row 5 (tI .u8) (.slice (some ⟨w10.heap.size, 0, none⟩) ([0] : List Int).length ([0] : List Int).length) ([0] : List Int), .row 5 (tI .u8) (.slice ao13 (z3 ++ ofStr ((gt p_l s7.2).1)).length cp13) (z3 ++ ofStr ((gt p_l s7.2).1)), .ro ty53 (.slice ao1 p_l.length cp1) p_l] := hs.newRow ho hx
        clear ho hx
        replace hf := Fr.keep (ks := [0, 7, 72, 73]) (L' := [(0, .slice ao1 p_l.length cp1), (7, .int .i64 s7.2), (72, .slice ao13 (z3 ++ ofStr ((gt p_l s7.2).1)).length cp13), (73, .slice (some ⟨w10.heap.size, 0, none⟩) ([0] : List Int).length ([0] : List Int).length)]) hf (by kernel_rfl)
        have hT := of_gd hS; clear hS; obtain ⟨hc9, hS⟩ := hT
        refine apR tbOk u22 i5 rfl rfl rfl rfl hs.le (hs.own 1 rfl) (hs.raW 0 rfl) hc9 hf (by kernel_rfl) (by kernel_rfl) (by kernel_rfl) (by kernel_rfl) ?_
        clear hf; clear a; intro ao14 cp14 w12 a ho hg hl hf
        replace hs : Sep w F R w12 F10 [.row 5 (tI .u8) (.slice (some ⟨w10.heap.size, 0, none⟩) ([0] : List Int).length ([0] : List Int).length) ([0] : List Int), .row 5 (tI .u8) (.slice ao14 ((z3 ++ ofStr ((gt p_l s7.2).1)) ++ ([0] : List Int)).length cp14) ((z3 ++ ofStr ((gt p_l s7.2).1)) ++ ([0] : List Int)), .ro ty53 (.slice ao1 p_l.length cp1) p_l] := hs.updRow 1 rfl ho hg hl
        clear ho hg hl
        replace hs : Sep w F R w12 F10 [.row 5 (tI .u8) (.slice ao14 ((z3 ++ ofStr ((gt p_l s7.2).1)) ++ ([0] : List Int)).length cp14) ((z3 ++ ofStr ((gt p_l s7.2).1)) ++ ([0] : List Int)), .ro ty53 (.slice ao1 p_l.length cp1) p_l] := hs.sel [1, 2] rfl rfl
        replace hf := Fr.keep (ks := [0, 7, 74]) (L' := [(0, .slice ao1 p_l.length cp1), (7, .int .i64 s7.2), (74, .slice ao14 ((z3 ++ ofStr ((gt p_l s7.2).1)) ++ ([0] : List Int)).length cp14)]) hf (by kernel_rfl)
        have hT := of_bd hS; clear hS; obtain ⟨z4, hz4, hS⟩ := hT
        refine clV ent37 (vs := [.slice ao14 ((z3 ++ ofStr ((gt p_l s7.2).1)) ++ ([0] : List Int)).length cp14]) (caps := []) hf (by kernel_rfl) (by kernel_rfl) (by kernel_rfl) (by kernel_rfl) (ref08_padded_ok (b := ((z3 ++ ofStr ((gt p_l s7.2).1)) ++ ([0] : List Int))) (hs.enter [0] rfl rfl) hz4) ?_
        clear hf; clear a; intro v w13 a hT hf; obtain ⟨ao15, cp15, F11, rfl, hr⟩ := hT
        replace hs : Sep w F R w13 F11 [.row 5 (tI .u8) (.slice ao15 z4.length cp15) z4, .ro ty53 (.slice ao1 p_l.length cp1) p_l] := hs.back [0] [1] rfl rfl rfl rfl hr
        clear hr
        replace hf := Fr.keep (ks := [0, 7, 75]) (L' := [(0, .slice ao1 p_l.length cp1), (7, .int .i64 s7.2), (75, .slice ao15 z4.length cp15)]) hf (by kernel_rfl)
        refine st tbOk 1 [0, 4, 7] (L' := [(0, .slice ao1 p_l.length cp1), (4, .slice ao15 z4.length cp15), (7, .int .i64 s7.2)]) hf (by kernel_rfl) ?_
        clear hf; clear a; intro a hf
        refine wpList_nil ?_
        refine reg ?_
        refine st tbOk 3 [0, 7, 76, 77, 78] (L' := [(0, .slice ao1 p_l.length cp1), (7, .int .i64 s7.2), (76, .slice ao15 z4.length cp15), (77, .slice ao1 p_l.length cp1), (78, .int .i64 s7.2)]) hf (by kernel_rfl) ?_
        clear hf; clear a; intro a hf
        have hT := of_gd hS; clear hS; obtain ⟨hc10, hS⟩ := hT
        refine ixR tbOk u42 i65 rfl rfl ((hs.ro 1 rfl).ra (LeH.refl _)) (k := .i64) (n := s7.2) hc10 hf (by kernel_rfl) (by kernel_rfl) (by kernel_rfl) (by kernel_rfl) ?_
        clear hf; clear a; intro pb7 po7 c7 a hp7 hr13 hf
        obtain ⟨ao16, cp16, rfl, hr14⟩ := hr13
        replace hs : Sep w F R w13 F11 [.ro (tI .u8) (.slice ao16 ((gt p_l s7.2).2.2).length cp16) ((gt p_l s7.2).2.2), .row 5 (tI .u8) (.slice ao15 z4.length cp15) z4, .ro ty53 (.slice ao1 p_l.length cp1) p_l] := hs.addRo hr14
        replace hs : Sep w F R w13 F11 [.cel pb7 po7 [strV ((gt p_l s7.2).1), .int .u32 ((gt p_l s7.2).2.1), .slice ao16 ((gt p_l s7.2).2.2).length cp16], .ro (tI .u8) (.slice ao16 ((gt p_l s7.2).2.2).length cp16) ((gt p_l s7.2).2.2), .row 5 (tI .u8) (.slice ao15 z4.length cp15) z4, .ro ty53 (.slice ao1 p_l.length cp1) p_l] := hs.addCel hp7
        replace hf := Fr.keep (ks := [0, 7, 76, 79]) (L' := [(0, .slice ao1 p_l.length cp1), (7, .int .i64 s7.2), (76, .slice ao15 z4.length cp15), (79, .pointer (some ⟨pb7, po7, none⟩))]) hf (by kernel_rfl)
        refine st tbOk 1 [0, 7, 76, 80] (L' := [(0, .slice ao1 p_l.length cp1), (7, .int .i64 s7.2), (76, .slice ao15 z4.length cp15), (80, .pointer (some ⟨pb7, po7 + 2, none⟩))]) hf (by kernel_rfl) ?_
        clear hf; clear a; intro a hf
        refine ldC tbOk (T := 22) (hs.ccel 0 rfl) (LeH.refl _) 2 (.slice ao16 ((gt p_l s7.2).2.2).length cp16) hf (by kernel_rfl) (by kernel_rfl) (by kernel_rfl) (by kernel_rfl) ?_
        clear hf; clear a; intro a hf
        replace hs : Sep w F R w13 F11 [.ro (tI .u8) (.slice ao16 ((gt p_l s7.2).2.2).length cp16) ((gt p_l s7.2).2.2), .row 5 (tI .u8) (.slice ao15 z4.length cp15) z4, .ro ty53 (.slice ao1 p_l.length cp1) p_l] := hs.sel [1, 2, 3] rfl rfl
        replace hf := Fr.keep (ks := [0, 7, 76, 81]) (L' := [(0, .slice ao1 p_l.length cp1), (7, .int .i64 s7.2), (76, .slice ao15 z4.length cp15), (81, .slice ao16 ((gt p_l s7.2).2.2).length cp16)]) hf (by kernel_rfl)
        have hT := of_gd hS; clear hS; obtain ⟨hc11, hS⟩ := hT
        refine apR tbOk u22 i5 rfl rfl rfl rfl hs.le (hs.own 1 rfl) (hs.raR 0 rfl) hc11 hf (by kernel_rfl) (by kernel_rfl) (by kernel_rfl) (by kernel_rfl) ?_
        clear hf; clear a; intro ao17 cp17 w14 a ho hg hl hf
        replace hs : Sep w F R w14 F11 [.ro (tI .u8) (.slice ao16 ((gt p_l s7.2).2.2).length cp16) ((gt p_l s7.2).2.2), .row 5 (tI .u8) (.slice ao17 (z4 ++ ((gt p_l s7.2).2.2)).length cp17) (z4 ++ ((gt p_l s7.2).2.2)), .ro ty53 (.slice ao1 p_l.length cp1) p_l] := hs.updRow 1 rfl ho hg hl
        clear ho hg hl
        replace hs : Sep w F R w14 F11 [.row 5 (tI .u8) (.slice ao17 (z4 ++ ((gt p_l s7.2).2.2)).length cp17) (z4 ++ ((gt p_l s7.2).2.2)), .ro ty53 (.slice ao1 p_l.length cp1) p_l] := hs.sel [1, 2] rfl rfl
        replace hf := Fr.keep (ks := [0, 7, 82]) (L' := [(0, .slice ao1 p_l.length cp1), (7, .int .i64 s7.2), (82, .slice ao17 (z4 ++ ((gt p_l s7.2).2.2)).length cp17)]) hf (by kernel_rfl)
        have hT := of_bd hS; clear hS; obtain ⟨z5, hz5, hS⟩ := hT
        refine clV ent37 (vs := [.slice ao17 (z4 ++ ((gt p_l s7.2).2.2)).length cp17]) (caps := []) hf (by kernel_rfl) (by kernel_rfl) (by kernel_rfl) (by kernel_rfl) (ref08_padded_ok (b := (z4 ++ ((gt p_l s7.2).2.2))) (hs.enter [0] rfl rfl) hz5) ?_
        clear hf; clear a; intro v w15 a hT hf; obtain ⟨ao18, cp18, F12, rfl, hr⟩ := hT
        replace hs : Sep w F R w15 F12 [.row 5 (tI .u8) (.slice ao18 z5.length cp18) z5, .ro ty53 (.slice ao1 p_l.length cp1) p_l] := hs.back [0] [1] rfl rfl rfl rfl hr
        clear hr
        replace hf := Fr.keep (ks := [0, 7, 83]) (L' := [(0, .slice ao1 p_l.length cp1), (7, .int .i64 s7.2), (83, .slice ao18 z5.length cp18)]) hf (by kernel_rfl)
        refine st tbOk 1 [0, 4, 7] (L' := [(0, .slice ao1 p_l.length cp1), (4, .slice ao18 z5.length cp18), (7, .int .i64 s7.2)]) hf (by kernel_rfl) ?_
        clear hf; clear a; intro a hf
        refine wpList_nil ?_
        refine reg ?_
        have hT := of_let hS; clear hS; obtain ⟨i_2, hl3, hS⟩ := hT
        refine st tbOk 3 [0, 4, 7] (L' := [(0, .slice ao1 p_l.length cp1), (4, .slice ao18 z5.length cp18), (7, .int .i64 i_2)]) hf (by subst hl3; kernel_rfl) ?_
        clear hf; clear a; intro a hf
        refine wpList_nil ?_
        exact hK7 (z5, i_2) _ _ ⟨ao18, cp18, _, hs.sel [0, 1] rfl rfl, hf.keep (ks := [0, 4, 7]) (by kernel_rfl)⟩ hS
      · replace hS := of_f hb4 hS
        refine wp_exit ?_
        exact hK6 s7.1 _ _ ⟨ao5, cp5, _, hs.sel [0] rfl rfl, hf.keep (ks := [4]) (by kernel_rfl)⟩ hS
  · clear hS; intro KK1 k1 hK1 hS
    refine blk ?_
    refine lp (st := 0) (fun (s2 : Int) (a : Act) (w' : World) => ∃ (F2 : SH), Sep w F R w' F2 [.ro ty53 (.slice ao1 p_l.length cp1) p_l] ∧ Fr 88 [(0, .slice ao1 p_l.length cp1), (4, .slice none 0 0), (5, .int .i64 s2)] a) ?_ ⟨_, hs.sel [0] rfl rfl, hf.keep (ks := [0, 4, 5]) (by kernel_rfl)⟩ hS
    clear hS hf hs; clear a
    intro rec1 KK2 hK2 s2 a w1 hM hS
    obtain ⟨F2, hs, hf⟩ := hM
    refine sq ?_
    refine sq ?_
    refine reg ?_
    refine st tbOk 4 [0, 4, 5, 11] (L' := [(0, .slice ao1 p_l.length cp1), (4, .slice none 0 0), (5, .int .i64 s2), (11, .bool (decide (s2 < ((p_l.length : Nat) : Int))))]) hf (by kernel_rfl) ?_
    clear hf; clear a; intro a hf
    refine wpList_nil ?_
    refine cnd (b := decide (s2 < ((p_l.length : Nat) : Int))) hf (by kernel_rfl) (fun hb1 => ?_) (fun hb1 => ?_)
    · replace hS := of_t hb1 hS
      refine wp_skip ?_
      refine sq ?_
      refine ctj (fun (s3 : Unit) (a : Act) (w' : World) => ∃ (F3 : SH), Sep w F R w' F3 [.ro ty53 (.slice ao1 p_l.length cp1) p_l] ∧ Fr 88 [(0, .slice ao1 p_l.length cp1), (4, .slice none 0 0), (5, .int .i64 s2)] a) hS ?_ ?_
      · clear hS hf hs; clear a; intro s3 a w4 hM hS
        obtain ⟨F3, hs, hf⟩ := hM
        refine reg ?_
        have hT := of_let hS; clear hS; obtain ⟨i_1, hl2, hS⟩ := hT
        refine st tbOk 3 [0, 4, 5] (L' := [(0, .slice ao1 p_l.length cp1), (4, .slice none 0 0), (5, .int .i64 i_1)]) hf (by subst hl2; kernel_rfl) ?_
        clear hf; clear a; intro a hf
        refine wpList_nil ?_
        exact hK2 i_1 _ _ ⟨_, hs.sel [0] rfl rfl, hf.keep (ks := [0, 4, 5]) (by kernel_rfl)⟩ hS
      · clear hS; intro KK3 k2 hK3 hS
        refine blk ?_
        refine sq ?_
        refine reg ?_
        refine st tbOk 1 [0, 4, 5, 6] (L' := [(0, .slice ao1 p_l.length cp1), (4, .slice none 0 0), (5, .int .i64 s2), (6, .int .i64 0)]) hf (by kernel_rfl) ?_
        clear hf; clear a; intro a hf
        refine wpList_nil ?_
        refine ctj (fun (s4 : Unit) (a : Act) (w' : World) => ∃ (F4 : SH), Sep w F R w' F4 [.ro ty53 (.slice ao1 p_l.length cp1) p_l] ∧ Fr 88 [(0, .slice ao1 p_l.length cp1), (4, .slice none 0 0), (5, .int .i64 s2)] a) hS ?_ ?_
        · clear hS hf hs; clear a; intro s4 a w3 hM hS
          obtain ⟨F4, hs, hf⟩ := hM
          exact hK3 () _ _ ⟨_, hs.sel [0] rfl rfl, hf.keep (ks := [0, 4, 5]) (by kernel_rfl)⟩ hS
        · clear hS; intro KK4 k3 hK4 hS
          refine blk ?_
          refine lp (st := 0) (fun (s5 : Int) (a : Act) (w' : World) => ∃ (F5 : SH), Sep w F R w' F5 [.ro ty53 (.slice ao1 p_l.length cp1) p_l] ∧ Fr 88 [(0, .slice ao1 p_l.length cp1), (4, .slice none 0 0), (5, .int .i64 s2), (6, .int .i64 s5)] a) ?_ ⟨_, hs.sel [0] rfl rfl, hf.keep (ks := [0, 4, 5, 6]) (by kernel_rfl)⟩ hS
          clear hS hf hs; clear a
          intro rec2 KK5 hK5 s5 a w2 hM hS
          obtain ⟨F5, hs, hf⟩ := hM
          refine sq ?_
          refine sq ?_
          refine reg ?_
          refine st tbOk 3 [0, 4, 5, 6, 14, 15, 16] (L' := [(0, .slice ao1 p_l.length cp1), (4, .slice none 0 0), (5, .int .i64 s2), (6, .int .i64 s5), (14, .int .i64 s5), (15, .slice ao1 p_l.length cp1), (16, .int .i64 s2)]) hf (by kernel_rfl) ?_
          clear hf; clear a; intro a hf
          have hT := of_gd hS; clear hS; obtain ⟨hc1, hS⟩ := hT
          refine ixR tbOk u42 i65 rfl rfl ((hs.ro 0 rfl).ra (LeH.refl _)) (k := .i64) (n := s2) hc1 hf (by kernel_rfl) (by kernel_rfl) (by kernel_rfl) (by kernel_rfl) ?_
          clear hf; clear a; intro pb1 po1 c1 a hp1 hr1 hf
          obtain ⟨ao2, cp2, rfl, hr2⟩ := hr1
          replace hs : Sep w F R w2 F5 [.ro (tI .u8) (.slice ao2 ((gt p_l s2).2.2).length cp2) ((gt p_l s2).2.2), .ro ty53 (.slice ao1 p_l.length cp1) p_l] := hs.addRo hr2
          replace hs : Sep w F R w2 F5 [.cel pb1 po1 [strV ((gt p_l s2).1), .int .u32 ((gt p_l s2).2.1), .slice ao2 ((gt p_l s2).2.2).length cp2], .ro (tI .u8) (.slice ao2 ((gt p_l s2).2.2).length cp2) ((gt p_l s2).2.2), .ro ty53 (.slice ao1 p_l.length cp1) p_l] := hs.addCel hp1
          replace hf := Fr.keep (ks := [0, 4, 5, 6, 14, 17]) (L' := [(0, .slice ao1 p_l.length cp1), (4, .slice none 0 0), (5, .int .i64 s2), (6, .int .i64 s5), (14, .int .i64 s5), (17, .pointer (some ⟨pb1, po1, none⟩))]) hf (by kernel_rfl)
          refine st tbOk 1 [0, 4, 5, 6, 14, 18] (L' := [(0, .slice ao1 p_l.length cp1), (4, .slice none 0 0), (5, .int .i64 s2), (6, .int .i64 s5), (14, .int .i64 s5), (18, .pointer (some ⟨pb1, po1, none⟩))]) hf (by kernel_rfl) ?_
          clear hf; clear a; intro a hf
          refine ldC tbOk (T := 9) (hs.ccel 0 rfl) (LeH.refl _) 0 (strV ((gt p_l s2).1)) hf (by kernel_rfl) (by kernel_rfl) (by kernel_rfl) (by kernel_rfl) ?_
          clear hf; clear a; intro a hf
          replace hs : Sep w F R w2 F5 [.ro ty53 (.slice ao1 p_l.length cp1) p_l] := hs.sel [2] rfl rfl
          replace hf := Fr.keep (ks := [0, 4, 5, 6, 14, 19]) (L' := [(0, .slice ao1 p_l.length cp1), (4, .slice none 0 0), (5, .int .i64 s2), (6, .int .i64 s5), (14, .int .i64 s5), (19, strV ((gt p_l s2).1))]) hf (by kernel_rfl)
          refine st tbOk 2 [0, 4, 5, 6, 21] (L' := [(0, .slice ao1 p_l.length cp1), (4, .slice none 0 0), (5, .int .i64 s2), (6, .int .i64 s5), (21, .bool (decide (s5 < ((((gt p_l s2).1).length : Nat) : Int))))]) hf (by kernel_rfl) ?_
          clear hf; clear a; intro a hf
          refine wpList_nil ?_
          refine cnd (b := decide (s5 < ((((gt p_l s2).1).length : Nat) : Int))) hf (by kernel_rfl) (fun hb2 => ?_) (fun hb2 => ?_)
          · replace hS := of_t hb2 hS
            refine wp_skip ?_
            refine sq ?_
            refine blk ?_
            refine sq ?_
            refine reg ?_
            refine st tbOk 2 [0, 4, 5, 6, 24, 25] (L' := [(0, .slice ao1 p_l.length cp1), (4, .slice none 0 0), (5, .int .i64 s2), (6, .int .i64 s5), (24, .slice ao1 p_l.length cp1), (25, .int .i64 s2)]) hf (by kernel_rfl) ?_
            clear hf; clear a; intro a hf
            have hT := of_gd hS; clear hS; obtain ⟨hc2, hS⟩ := hT
            refine ixR tbOk u42 i65 rfl rfl ((hs.ro 0 rfl).ra (LeH.refl _)) (k := .i64) (n := s2) hc2 hf (by kernel_rfl) (by kernel_rfl) (by kernel_rfl) (by kernel_rfl) ?_
            clear hf; clear a; intro pb2 po2 c2 a hp2 hr3 hf
            obtain ⟨ao3, cp3, rfl, hr4⟩ := hr3
            replace hs : Sep w F R w2 F5 [.ro (tI .u8) (.slice ao3 ((gt p_l s2).2.2).length cp3) ((gt p_l s2).2.2), .ro ty53 (.slice ao1 p_l.length cp1) p_l] := hs.addRo hr4
            replace hs : Sep w F R w2 F5 [.cel pb2 po2 [strV ((gt p_l s2).1), .int .u32 ((gt p_l s2).2.1), .slice ao3 ((gt p_l s2).2.2).length cp3], .ro (tI .u8) (.slice ao3 ((gt p_l s2).2.2).length cp3) ((gt p_l s2).2.2), .ro ty53 (.slice ao1 p_l.length cp1) p_l] := hs.addCel hp2
            replace hf := Fr.keep (ks := [0, 4, 5, 6, 26]) (L' := [(0, .slice ao1 p_l.length cp1), (4, .slice none 0 0), (5, .int .i64 s2), (6, .int .i64 s5), (26, .pointer (some ⟨pb2, po2, none⟩))]) hf (by kernel_rfl)
            refine st tbOk 1 [0, 4, 5, 6, 27] (L' := [(0, .slice ao1 p_l.length cp1), (4, .slice none 0 0), (5, .int .i64 s2), (6, .int .i64 s5), (27, .pointer (some ⟨pb2, po2, none⟩))]) hf (by kernel_rfl) ?_
            clear hf; clear a; intro a hf
            refine ldC tbOk (T := 9) (hs.ccel 0 rfl) (LeH.refl _) 0 (strV ((gt p_l s2).1)) hf (by kernel_rfl) (by kernel_rfl) (by kernel_rfl) (by kernel_rfl) ?_
            clear hf; clear a; intro a hf
            replace hs : Sep w F R w2 F5 [.ro ty53 (.slice ao1 p_l.length cp1) p_l] := hs.sel [2] rfl rfl
            replace hf := Fr.keep (ks := [0, 4, 5, 6, 28]) (L' := [(0, .slice ao1 p_l.length cp1), (4, .slice none 0 0), (5, .int .i64 s2), (6, .int .i64 s5), (28, strV ((gt p_l s2).1))]) hf (by kernel_rfl)
            refine st tbOk 1 [0, 4, 5, 6, 28, 29] (L' := [(0, .slice ao1 p_l.length cp1), (4, .slice none 0 0), (5, .int .i64 s2), (6, .int .i64 s5), (28, strV ((gt p_l s2).1)), (29, .int .i64 s5)]) hf (by kernel_rfl) ?_
            clear hf; clear a; intro a hf
            have hT := of_gd hS; clear hS; obtain ⟨hc3, hS⟩ := hT
            refine ixS tbOk u9 (p := ((gt p_l s2).1)) (k := .i64) (n := s5) hc3 hf (by kernel_rfl) (by kernel_rfl) (by kernel_rfl) (by kernel_rfl) ?_
            clear hf; clear a; intro a hf
            replace hf := Fr.keep (ks := [0, 4, 5, 6, 30]) (L' := [(0, .slice ao1 p_l.length cp1), (4, .slice none 0 0), (5, .int .i64 s2), (6, .int .i64 s5), (30, .int .u8 ((((gt p_l s2).1).getD (Int.toNat s5) 0).toNat : Int))]) hf (by kernel_rfl)
            refine st tbOk 1 [0, 4, 5, 6, 31] (L' := [(0, .slice ao1 p_l.length cp1), (4, .slice none 0 0), (5, .int .i64 s2), (6, .int .i64 s5), (31, .bool (((((gt p_l s2).1).getD (Int.toNat s5) 0).toNat : Int) == 0))]) hf (by kernel_rfl) ?_
            clear hf; clear a; intro a hf
            refine wpList_nil ?_
            refine cnd (b := ((((gt p_l s2).1).getD (Int.toNat s5) 0).toNat : Int) == 0) hf (by kernel_rfl) (fun hb3 => ?_) (fun hb3 => ?_)
            · replace hS := of_t hb3 hS
              refine sq ?_
              refine reg ?_
              refine st tbOk 2 [2, 3] (L' := [(2, .slice none 0 0), (3, .int .i64 1)]) hf (by kernel_rfl) ?_
              clear hf; clear a; intro a hf
              refine wpList_nil ?_
              have hr := Option.some.inj hS; subst hr
              refine wp_ret ?_
              replace hs : Sep w F R w2 F5 [.row 5 (tI .u8) (.slice none 0 0) ([] : List Int), .ro ty53 (.slice ao1 p_l.length cp1) p_l] := hs.addNil 5 (tI .u8)
              exact ret_ok hf (vs := [.slice none 0 0, .int .i64 1]) (by kernel_rfl) ⟨none, 0, _, rfl, hs.sel [0] rfl rfl⟩
            · replace hS := of_f hb3 hS
              refine wp_skip ?_
              refine reg ?_
              have hT := of_let hS; clear hS; obtain ⟨k_1, hl1, hS⟩ := hT
              refine st tbOk 3 [0, 4, 5, 6] (L' := [(0, .slice ao1 p_l.length cp1), (4, .slice none 0 0), (5, .int .i64 s2), (6, .int .i64 k_1)]) hf (by subst hl1; kernel_rfl) ?_
              clear hf; clear a; intro a hf
              refine wpList_nil ?_
              exact hK5 k_1 _ _ ⟨_, hs.sel [0] rfl rfl, hf.keep (ks := [0, 4, 5, 6]) (by kernel_rfl)⟩ hS
          · replace hS := of_f hb2 hS
            refine wp_exit ?_
            exact hK4 () _ _ ⟨_, hs.sel [0] rfl rfl, hf.keep (ks := [0, 4, 5]) (by kernel_rfl)⟩ hS
    · replace hS := of_f hb1 hS
      refine wp_exit ?_
      exact hK1 () _ _ ⟨_, hs.sel [0] rfl rfl, hf.keep (ks := [0, 4]) (by kernel_rfl)⟩ hS

end Dm
