/-
  The walks: a call of each Go function gives what its shallow form gives, where that form gives something; printed by a program of this repo. No condition.
-/
import Derived.Test.YtmocofbneblccaaWT
namespace Dm
open Go Go.RowKit Go.Proofs

set_option maxHeartbeats 4000000 in
theorem ref06_number_ok {w : World} {F : SH} {b : List Int} {p_x : Int} {n : Int} {ao1 : Option Addr} {cp1 : Nat} (hs : Sep w F (blks [.row 5 (tI .u8) (.slice ao1 b.length cp1) b]) w F [.row 5 (tI .u8) (.slice ao1 b.length cp1) b]) {r : List Int} (hS : ref06_number b p_x n = some r) :
    Calls Try.prog 43 [.slice ao1 b.length cp1, .int .u64 p_x, .int .i64 n].toArray w (Gives (fun u w' => ∃ (ao5 : Option Addr) (cp5 : Nat) (F' : SH), u = .slice ao5 r.length cp5 ∧ Sep w F (blks [.row 5 (tI .u8) (.slice ao1 b.length cp1) b]) w' F' [.row 5 (tI .u8) (.slice ao5 r.length cp5) r])) := by
  generalize (blks [.row 5 (tI .u8) (.slice ao1 b.length cp1) b]) = R at hs ⊢
  unfold ref06_number at hS
  refine fn_ok (vs := [.slice ao1 b.length cp1, .int .u64 p_x, .int .i64 n]) Try.func43 rfl 22 Try.ntmps43 (Nat.le_of_ble_eq_true rfl) ?_
  intro a hf
  replace hf := Fr.cast (L' := [(0, .slice ao1 b.length cp1), (1, .int .u64 p_x), (2, .int .i64 n)]) hf (by kernel_rfl)
  refine sq ?_
  refine reg ?_
  refine st tbOk 1 [0, 1, 2] (L' := [(0, .slice ao1 b.length cp1), (1, .int .u64 p_x), (2, .int .i64 n)]) hf (by kernel_rfl) ?_
  clear hf; clear a; intro a hf
  refine wpList_nil ?_
  refine sq ?_
  refine sq ?_
  refine reg ?_
  refine st tbOk 1 [0, 1, 2, 7] (L' := [(0, .slice ao1 b.length cp1), (1, .int .u64 p_x), (2, .int .i64 n), (7, .int .i64 0)]) hf (by kernel_rfl) ?_
  clear hf; clear a; intro a hf
  refine wpList_nil ?_
  refine ctj (fun (s1 : List Int) (a : Act) (w' : World) => ∃ (ao2 : Option Addr) (cp2 : Nat) (F1 : SH), Sep w F R w' F1 [.row 5 (tI .u8) (.slice ao2 s1.length cp2) s1] ∧ Fr 22 [(0, .slice ao2 s1.length cp2)] a) hS ?_ ?_
  · clear hS hf hs; clear a; intro s1 a w4 hM hS
    obtain ⟨ao2, cp2, F1, hs, hf⟩ := hM
    refine sq ?_
    refine reg ?_
    refine st tbOk 2 [6] (L' := [(6, .slice ao2 s1.length cp2)]) hf (by kernel_rfl) ?_
    clear hf; clear a; intro a hf
    refine wpList_nil ?_
    have hr := Option.some.inj hS; subst hr
    refine wp_ret ?_
    exact ret_ok hf (vs := [.slice ao2 s1.length cp2]) (by kernel_rfl) ⟨ao2, cp2, _, rfl, hs.sel [0] rfl rfl⟩
  · clear hS; intro KK1 k1 hK1 hS
    refine blk ?_
    refine lp (st := (b, p_x, 0)) (fun (s2 : (List Int) × Int × Int) (a : Act) (w' : World) => ∃ (ao3 : Option Addr) (cp3 : Nat) (F2 : SH), Sep w F R w' F2 [.row 5 (tI .u8) (.slice ao3 s2.1.length cp3) s2.1] ∧ Fr 22 [(0, .slice ao3 s2.1.length cp3), (1, .int .u64 s2.2.1), (2, .int .i64 n), (7, .int .i64 s2.2.2)] a) ?_ ⟨ao1, cp1, _, hs.sel [0] rfl rfl, hf.keep (ks := [0, 1, 2, 7]) (by kernel_rfl)⟩ hS
    clear hS hf hs; clear a
    intro rec1 KK2 hK2 s2 a w1 hM hS
    obtain ⟨ao3, cp3, F2, hs, hf⟩ := hM
    refine sq ?_
    refine sq ?_
    refine reg ?_
    refine st tbOk 3 [0, 1, 2, 7, 10] (L' := [(0, .slice ao3 s2.1.length cp3), (1, .int .u64 s2.2.1), (2, .int .i64 n), (7, .int .i64 s2.2.2), (10, .bool (decide (s2.2.2 < n)))]) hf (by kernel_rfl) ?_
    clear hf; clear a; intro a hf
    refine wpList_nil ?_
    refine cnd (b := decide (s2.2.2 < n)) hf (by kernel_rfl) (fun hb1 => ?_) (fun hb1 => ?_)
    · replace hS := of_t hb1 hS
      refine wp_skip ?_
      refine sq ?_
      refine blk ?_
      refine sq ?_
      refine reg ?_
      refine st tbOk 4 [1, 2, 7, 13, 16] (L' := [(1, .int .u64 s2.2.1), (2, .int .i64 n), (7, .int .i64 s2.2.2), (13, .slice ao3 s2.1.length cp3), (16, .int .u8 (IntKind.u8.wrap (Int.tmod s2.2.1 256)))]) hf (by kernel_rfl) ?_
      clear hf; clear a; intro a hf
      refine bsR tbOk u22 i5 rfl (t := (tI .u8)) (vs := [(0, .int .u8 (IntKind.u8.wrap (Int.tmod s2.2.1 256)))]) (cells := #[.int .u8 (IntKind.u8.wrap (Int.tmod s2.2.1 256))]) ([IntKind.u8.wrap (Int.tmod s2.2.1 256)] : List Int) hs.le hf (by kernel_rfl) (by kernel_rfl) (by kernel_rfl) rfl (by kernel_rfl) (reps_flat _) rfl ?_
      clear hf; clear a; intro w2 a ho hx hf
      replace hs : Sep w F R w2 F2 [.row 5 (tI .u8) (.slice (some ⟨w1.heap.size, 0, none⟩) ([IntKind.u8.wrap (Int.tmod s2.2.1 256)] : List Int).length ([IntKind.u8.wrap (Int.tmod s2.2.1 256)] : List Int).length) ([IntKind.u8.wrap (Int.tmod s2.2.1 256)] : List Int), .row 5 (tI .u8) (.slice ao3 s2.1.length cp3) s2.1] := hs.newRow ho hx
      clear ho hx
      replace hf := Fr.keep (ks := [1, 2, 7, 13, 17]) (L' := [(1, .int .u64 s2.2.1), (2, .int .i64 n), (7, .int .i64 s2.2.2), (13, .slice ao3 s2.1.length cp3), (17, .slice (some ⟨w1.heap.size, 0, none⟩) ([IntKind.u8.wrap (Int.tmod s2.2.1 256)] : List Int).length ([IntKind.u8.wrap (Int.tmod s2.2.1 256)] : List Int).length)]) hf (by kernel_rfl)
      have hT := of_gd hS; clear hS; obtain ⟨hc1, hS⟩ := hT
      refine apR tbOk u22 i5 rfl rfl rfl rfl hs.le (hs.own 1 rfl) (hs.raW 0 rfl) hc1 hf (by kernel_rfl) (by kernel_rfl) (by kernel_rfl) (by kernel_rfl) ?_
      clear hf; clear a; intro ao4 cp4 w3 a ho hg hl hf
      replace hs : Sep w F R w3 F2 [.row 5 (tI .u8) (.slice (some ⟨w1.heap.size, 0, none⟩) ([IntKind.u8.wrap (Int.tmod s2.2.1 256)] : List Int).length ([IntKind.u8.wrap (Int.tmod s2.2.1 256)] : List Int).length) ([IntKind.u8.wrap (Int.tmod s2.2.1 256)] : List Int), .row 5 (tI .u8) (.slice ao4 (s2.1 ++ ([IntKind.u8.wrap (Int.tmod s2.2.1 256)] : List Int)).length cp4) (s2.1 ++ ([IntKind.u8.wrap (Int.tmod s2.2.1 256)] : List Int))] := hs.updRow 1 rfl ho hg hl
      clear ho hg hl
      replace hs : Sep w F R w3 F2 [.row 5 (tI .u8) (.slice ao4 (s2.1 ++ ([IntKind.u8.wrap (Int.tmod s2.2.1 256)] : List Int)).length cp4) (s2.1 ++ ([IntKind.u8.wrap (Int.tmod s2.2.1 256)] : List Int))] := hs.sel [1] rfl rfl
      replace hf := Fr.keep (ks := [1, 2, 7, 18]) (L' := [(1, .int .u64 s2.2.1), (2, .int .i64 n), (7, .int .i64 s2.2.2), (18, .slice ao4 (s2.1 ++ ([IntKind.u8.wrap (Int.tmod s2.2.1 256)] : List Int)).length cp4)]) hf (by kernel_rfl)
      refine st tbOk 1 [0, 1, 2, 7] (L' := [(0, .slice ao4 (s2.1 ++ ([IntKind.u8.wrap (Int.tmod s2.2.1 256)] : List Int)).length cp4), (1, .int .u64 s2.2.1), (2, .int .i64 n), (7, .int .i64 s2.2.2)]) hf (by kernel_rfl) ?_
      clear hf; clear a; intro a hf
      refine wpList_nil ?_
      refine reg ?_
      have hT := of_let hS; clear hS; obtain ⟨x_1, hl1, hS⟩ := hT
      refine st tbOk 3 [0, 1, 2, 7] (L' := [(0, .slice ao4 (s2.1 ++ ([IntKind.u8.wrap (Int.tmod s2.2.1 256)] : List Int)).length cp4), (1, .int .u64 x_1), (2, .int .i64 n), (7, .int .i64 s2.2.2)]) hf (by subst hl1; kernel_rfl) ?_
      clear hf; clear a; intro a hf
      refine wpList_nil ?_
      refine reg ?_
      have hT := of_let hS; clear hS; obtain ⟨i_1, hl2, hS⟩ := hT
      refine st tbOk 3 [0, 1, 2, 7] (L' := [(0, .slice ao4 (s2.1 ++ ([IntKind.u8.wrap (Int.tmod s2.2.1 256)] : List Int)).length cp4), (1, .int .u64 x_1), (2, .int .i64 n), (7, .int .i64 i_1)]) hf (by subst hl2; kernel_rfl) ?_
      clear hf; clear a; intro a hf
      refine wpList_nil ?_
      exact hK2 ((s2.1 ++ ([IntKind.u8.wrap (Int.tmod s2.2.1 256)] : List Int)), x_1, i_1) _ _ ⟨ao4, cp4, _, hs.sel [0] rfl rfl, hf.keep (ks := [0, 1, 2, 7]) (by kernel_rfl)⟩ hS
    · replace hS := of_f hb1 hS
      refine wp_exit ?_
      exact hK1 s2.1 _ _ ⟨ao3, cp3, _, hs.sel [0] rfl rfl, hf.keep (ks := [0]) (by kernel_rfl)⟩ hS

set_option maxHeartbeats 4000000 in
theorem ref06_Put_ok {w : World} {F : SH} {p_s : Int × Int × Int × Int × Int × Int}  (hs : Sep w F (blks []) w F []) {r : List Int} (hS : ref06_Put p_s = some r) :
    Calls Try.prog 27 [.agg #[.int .u32 p_s.1, .int .u8 p_s.2.1, .int .u8 p_s.2.2.1, .int .u16 p_s.2.2.2.1, .int .u64 p_s.2.2.2.2.1, .int .u64 p_s.2.2.2.2.2]].toArray w (Gives (fun u w' => ∃ (ao6 : Option Addr) (cp6 : Nat) (F' : SH), u = .slice ao6 r.length cp6 ∧ Sep w F (blks []) w' F' [.row 5 (tI .u8) (.slice ao6 r.length cp6) r])) := by
  generalize (blks []) = R at hs ⊢
  unfold ref06_Put at hS
  refine fn_ok (vs := [.agg #[.int .u32 p_s.1, .int .u8 p_s.2.1, .int .u8 p_s.2.2.1, .int .u16 p_s.2.2.2.1, .int .u64 p_s.2.2.2.2.1, .int .u64 p_s.2.2.2.2.2]]) Try.func27 rfl 29 Try.ntmps27 (Nat.le_of_ble_eq_true rfl) ?_
  intro a hf
  replace hf := Fr.cast (L' := [(0, .agg #[.int .u32 p_s.1, .int .u8 p_s.2.1, .int .u8 p_s.2.2.1, .int .u16 p_s.2.2.2.1, .int .u64 p_s.2.2.2.2.1, .int .u64 p_s.2.2.2.2.2])]) hf (by kernel_rfl)
  refine sq ?_
  refine reg ?_
  refine bx (T := 65) [.int .u32 p_s.1, .int .u8 p_s.2.1, .int .u8 p_s.2.2.1, .int .u16 p_s.2.2.2.1, .int .u64 p_s.2.2.2.2.1, .int .u64 p_s.2.2.2.2.2] (v := .agg #[.int .u32 p_s.1, .int .u8 p_s.2.1, .int .u8 p_s.2.2.1, .int .u16 p_s.2.2.2.1, .int .u64 p_s.2.2.2.2.1, .int .u64 p_s.2.2.2.2.2]) rfl (by kernel_rfl) hf (by kernel_rfl) (by kernel_rfl) (by kernel_rfl) ?_
  clear hf; clear a; intro w1 a hb hx _ hf
  replace hs : Sep w F R w1 F [.box w.heap.size 65 [.int .u32 p_s.1, .int .u8 p_s.2.1, .int .u8 p_s.2.2.1, .int .u16 p_s.2.2.2.1, .int .u64 p_s.2.2.2.2.1, .int .u64 p_s.2.2.2.2.2]] := hs.newBox hb hx
  clear hb hx
  replace hf := Fr.keep (ks := [1]) (L' := [(1, .pointer (some ⟨w.heap.size, 0, none⟩))]) hf (by kernel_rfl)
  refine st tbOk 1 [1] (L' := [(1, .pointer (some ⟨w.heap.size, 0, none⟩))]) hf (by kernel_rfl) ?_
  clear hf; clear a; intro a hf
  refine wpList_nil ?_
  refine sq ?_
  refine reg ?_
  refine st tbOk 1 [1, 3] (L' := [(1, .pointer (some ⟨w.heap.size, 0, none⟩)), (3, .slice none 0 0)]) hf (by kernel_rfl) ?_
  clear hf; clear a; intro a hf
  refine wpList_nil ?_
  refine sq ?_
  refine reg ?_
  refine st tbOk 2 [1, 4, 5] (L' := [(1, .pointer (some ⟨w.heap.size, 0, none⟩)), (4, .slice none 0 0), (5, .pointer (some ⟨w.heap.size, 0, none⟩))]) hf (by kernel_rfl) ?_
  clear hf; clear a; intro a hf
  refine ldC tbOk (T := 31) (hs.cbx 0 rfl) (LeH.refl _) 0 (.int .u32 p_s.1) hf (by kernel_rfl) (by kernel_rfl) (by kernel_rfl) (by kernel_rfl) ?_
  clear hf; clear a; intro a hf
  replace hf := Fr.keep (ks := [1, 4, 6]) (L' := [(1, .pointer (some ⟨w.heap.size, 0, none⟩)), (4, .slice none 0 0), (6, .int .u32 p_s.1)]) hf (by kernel_rfl)
  refine st tbOk 1 [1, 4, 7] (L' := [(1, .pointer (some ⟨w.heap.size, 0, none⟩)), (4, .slice none 0 0), (7, .int .u64 (IntKind.u64.wrap p_s.1))]) hf (by kernel_rfl) ?_
  clear hf; clear a; intro a hf
  have hT := of_bd hS; clear hS; obtain ⟨z1, hz1, hS⟩ := hT
  replace hs : Sep w F R w1 F [.row 5 (tI .u8) (.slice none 0 0) ([] : List Int), .box w.heap.size 65 [.int .u32 p_s.1, .int .u8 p_s.2.1, .int .u8 p_s.2.2.1, .int .u16 p_s.2.2.2.1, .int .u64 p_s.2.2.2.2.1, .int .u64 p_s.2.2.2.2.2]] := hs.addNil 5 (tI .u8)
  refine clV ent43 (vs := [.slice none 0 0, .int .u64 (IntKind.u64.wrap p_s.1), .int .i64 4]) (caps := []) hf (by kernel_rfl) (by kernel_rfl) (by kernel_rfl) (by kernel_rfl) (ref06_number_ok (b := ([] : List Int)) (p_x := IntKind.u64.wrap p_s.1) (n := 4) (hs.enter [0] rfl rfl) hz1) ?_
  clear hf; clear a; intro v w2 a hT hf; obtain ⟨ao1, cp1, F1, rfl, hr⟩ := hT
  replace hs : Sep w F R w2 F1 [.row 5 (tI .u8) (.slice ao1 z1.length cp1) z1, .box w.heap.size 65 [.int .u32 p_s.1, .int .u8 p_s.2.1, .int .u8 p_s.2.2.1, .int .u16 p_s.2.2.2.1, .int .u64 p_s.2.2.2.2.1, .int .u64 p_s.2.2.2.2.2]] := hs.back [0] [1] rfl rfl rfl rfl hr
  clear hr
  replace hf := Fr.keep (ks := [1, 8]) (L' := [(1, .pointer (some ⟨w.heap.size, 0, none⟩)), (8, .slice ao1 z1.length cp1)]) hf (by kernel_rfl)
  refine st tbOk 1 [1, 3] (L' := [(1, .pointer (some ⟨w.heap.size, 0, none⟩)), (3, .slice ao1 z1.length cp1)]) hf (by kernel_rfl) ?_
  clear hf; clear a; intro a hf
  refine wpList_nil ?_
  refine sq ?_
  refine reg ?_
  refine st tbOk 2 [1, 9, 10] (L' := [(1, .pointer (some ⟨w.heap.size, 0, none⟩)), (9, .slice ao1 z1.length cp1), (10, .pointer (some ⟨w.heap.size, 1, none⟩))]) hf (by kernel_rfl) ?_
  clear hf; clear a; intro a hf
  refine ldC tbOk (T := 5) (hs.cbx 1 rfl) (LeH.refl _) 1 (.int .u8 p_s.2.1) hf (by kernel_rfl) (by kernel_rfl) (by kernel_rfl) (by kernel_rfl) ?_
  clear hf; clear a; intro a hf
  replace hf := Fr.keep (ks := [1, 9, 11]) (L' := [(1, .pointer (some ⟨w.heap.size, 0, none⟩)), (9, .slice ao1 z1.length cp1), (11, .int .u8 p_s.2.1)]) hf (by kernel_rfl)
  refine st tbOk 1 [1, 9, 11, 12] (L' := [(1, .pointer (some ⟨w.heap.size, 0, none⟩)), (9, .slice ao1 z1.length cp1), (11, .int .u8 p_s.2.1), (12, .pointer (some ⟨w.heap.size, 2, none⟩))]) hf (by kernel_rfl) ?_
  clear hf; clear a; intro a hf
  refine ldC tbOk (T := 5) (hs.cbx 1 rfl) (LeH.refl _) 2 (.int .u8 p_s.2.2.1) hf (by kernel_rfl) (by kernel_rfl) (by kernel_rfl) (by kernel_rfl) ?_
  clear hf; clear a; intro a hf
  replace hf := Fr.keep (ks := [1, 9, 11, 13]) (L' := [(1, .pointer (some ⟨w.heap.size, 0, none⟩)), (9, .slice ao1 z1.length cp1), (11, .int .u8 p_s.2.1), (13, .int .u8 p_s.2.2.1)]) hf (by kernel_rfl)
  refine bsR tbOk u22 i5 rfl (t := (tI .u8)) (vs := [(0, .int .u8 p_s.2.1), (1, .int .u8 p_s.2.2.1)]) (cells := #[.int .u8 p_s.2.1, .int .u8 p_s.2.2.1]) ([p_s.2.1, p_s.2.2.1] : List Int) hs.le hf (by kernel_rfl) (by kernel_rfl) (by kernel_rfl) rfl (by kernel_rfl) (reps_flat _) rfl ?_
  clear hf; clear a; intro w3 a ho hx hf
  replace hs : Sep w F R w3 F1 [.row 5 (tI .u8) (.slice (some ⟨w2.heap.size, 0, none⟩) ([p_s.2.1, p_s.2.2.1] : List Int).length ([p_s.2.1, p_s.2.2.1] : List Int).length) ([p_s.2.1, p_s.2.2.1] : List Int), .row 5 (tI .u8) (.slice ao1 z1.length cp1) z1, .box w.heap.size 65 [.int .u32 p_s.1, .int .u8 p_s.2.1, .int .u8 p_s.2.2.1, .int .u16 p_s.2.2.2.1, .int .u64 p_s.2.2.2.2.1, .int .u64 p_s.2.2.2.2.2]] := hs.newRow ho hx
  clear ho hx
  replace hf := Fr.keep (ks := [1, 9, 14]) (L' := [(1, .pointer (some ⟨w.heap.size, 0, none⟩)), (9, .slice ao1 z1.length cp1), (14, .slice (some ⟨w2.heap.size, 0, none⟩) ([p_s.2.1, p_s.2.2.1] : List Int).length ([p_s.2.1, p_s.2.2.1] : List Int).length)]) hf (by kernel_rfl)
  have hT := of_gd hS; clear hS; obtain ⟨hc1, hS⟩ := hT
  refine apR tbOk u22 i5 rfl rfl rfl rfl hs.le (hs.own 1 rfl) (hs.raW 0 rfl) hc1 hf (by kernel_rfl) (by kernel_rfl) (by kernel_rfl) (by kernel_rfl) ?_
  clear hf; clear a; intro ao2 cp2 w4 a ho hg hl hf
  replace hs : Sep w F R w4 F1 [.row 5 (tI .u8) (.slice (some ⟨w2.heap.size, 0, none⟩) ([p_s.2.1, p_s.2.2.1] : List Int).length ([p_s.2.1, p_s.2.2.1] : List Int).length) ([p_s.2.1, p_s.2.2.1] : List Int), .row 5 (tI .u8) (.slice ao2 (z1 ++ ([p_s.2.1, p_s.2.2.1] : List Int)).length cp2) (z1 ++ ([p_s.2.1, p_s.2.2.1] : List Int)), .box w.heap.size 65 [.int .u32 p_s.1, .int .u8 p_s.2.1, .int .u8 p_s.2.2.1, .int .u16 p_s.2.2.2.1, .int .u64 p_s.2.2.2.2.1, .int .u64 p_s.2.2.2.2.2]] := hs.updRow 1 rfl ho hg hl
  clear ho hg hl
  replace hs : Sep w F R w4 F1 [.row 5 (tI .u8) (.slice ao2 (z1 ++ ([p_s.2.1, p_s.2.2.1] : List Int)).length cp2) (z1 ++ ([p_s.2.1, p_s.2.2.1] : List Int)), .box w.heap.size 65 [.int .u32 p_s.1, .int .u8 p_s.2.1, .int .u8 p_s.2.2.1, .int .u16 p_s.2.2.2.1, .int .u64 p_s.2.2.2.2.1, .int .u64 p_s.2.2.2.2.2]] := hs.sel [1, 2] rfl rfl
  replace hf := Fr.keep (ks := [1, 15]) (L' := [(1, .pointer (some ⟨w.heap.size, 0, none⟩)), (15, .slice ao2 (z1 ++ ([p_s.2.1, p_s.2.2.1] : List Int)).length cp2)]) hf (by kernel_rfl)
  refine st tbOk 1 [1, 3] (L' := [(1, .pointer (some ⟨w.heap.size, 0, none⟩)), (3, .slice ao2 (z1 ++ ([p_s.2.1, p_s.2.2.1] : List Int)).length cp2)]) hf (by kernel_rfl) ?_
  clear hf; clear a; intro a hf
  refine wpList_nil ?_
  refine sq ?_
  refine reg ?_
  refine st tbOk 2 [1, 16, 17] (L' := [(1, .pointer (some ⟨w.heap.size, 0, none⟩)), (16, .slice ao2 (z1 ++ ([p_s.2.1, p_s.2.2.1] : List Int)).length cp2), (17, .pointer (some ⟨w.heap.size, 3, none⟩))]) hf (by kernel_rfl) ?_
  clear hf; clear a; intro a hf
  refine ldC tbOk (T := 63) (hs.cbx 1 rfl) (LeH.refl _) 3 (.int .u16 p_s.2.2.2.1) hf (by kernel_rfl) (by kernel_rfl) (by kernel_rfl) (by kernel_rfl) ?_
  clear hf; clear a; intro a hf
  replace hf := Fr.keep (ks := [1, 16, 18]) (L' := [(1, .pointer (some ⟨w.heap.size, 0, none⟩)), (16, .slice ao2 (z1 ++ ([p_s.2.1, p_s.2.2.1] : List Int)).length cp2), (18, .int .u16 p_s.2.2.2.1)]) hf (by kernel_rfl)
  refine st tbOk 1 [1, 16, 19] (L' := [(1, .pointer (some ⟨w.heap.size, 0, none⟩)), (16, .slice ao2 (z1 ++ ([p_s.2.1, p_s.2.2.1] : List Int)).length cp2), (19, .int .u64 (IntKind.u64.wrap p_s.2.2.2.1))]) hf (by kernel_rfl) ?_
  clear hf; clear a; intro a hf
  have hT := of_bd hS; clear hS; obtain ⟨z2, hz2, hS⟩ := hT
  refine clV ent43 (vs := [.slice ao2 (z1 ++ ([p_s.2.1, p_s.2.2.1] : List Int)).length cp2, .int .u64 (IntKind.u64.wrap p_s.2.2.2.1), .int .i64 2]) (caps := []) hf (by kernel_rfl) (by kernel_rfl) (by kernel_rfl) (by kernel_rfl) (ref06_number_ok (b := (z1 ++ ([p_s.2.1, p_s.2.2.1] : List Int))) (p_x := IntKind.u64.wrap p_s.2.2.2.1) (n := 2) (hs.enter [0] rfl rfl) hz2) ?_
  clear hf; clear a; intro v w5 a hT hf; obtain ⟨ao3, cp3, F2, rfl, hr⟩ := hT
  replace hs : Sep w F R w5 F2 [.row 5 (tI .u8) (.slice ao3 z2.length cp3) z2, .box w.heap.size 65 [.int .u32 p_s.1, .int .u8 p_s.2.1, .int .u8 p_s.2.2.1, .int .u16 p_s.2.2.2.1, .int .u64 p_s.2.2.2.2.1, .int .u64 p_s.2.2.2.2.2]] := hs.back [0] [1] rfl rfl rfl rfl hr
  clear hr
  replace hf := Fr.keep (ks := [1, 20]) (L' := [(1, .pointer (some ⟨w.heap.size, 0, none⟩)), (20, .slice ao3 z2.length cp3)]) hf (by kernel_rfl)
  refine st tbOk 1 [1, 3] (L' := [(1, .pointer (some ⟨w.heap.size, 0, none⟩)), (3, .slice ao3 z2.length cp3)]) hf (by kernel_rfl) ?_
  clear hf; clear a; intro a hf
  refine wpList_nil ?_
  refine sq ?_
  refine reg ?_
  refine st tbOk 2 [1, 21, 22] (L' := [(1, .pointer (some ⟨w.heap.size, 0, none⟩)), (21, .slice ao3 z2.length cp3), (22, .pointer (some ⟨w.heap.size, 4, none⟩))]) hf (by kernel_rfl) ?_
  clear hf; clear a; intro a hf
  refine ldC tbOk (T := 23) (hs.cbx 1 rfl) (LeH.refl _) 4 (.int .u64 p_s.2.2.2.2.1) hf (by kernel_rfl) (by kernel_rfl) (by kernel_rfl) (by kernel_rfl) ?_
  clear hf; clear a; intro a hf
  replace hf := Fr.keep (ks := [1, 21, 23]) (L' := [(1, .pointer (some ⟨w.heap.size, 0, none⟩)), (21, .slice ao3 z2.length cp3), (23, .int .u64 p_s.2.2.2.2.1)]) hf (by kernel_rfl)
  have hT := of_bd hS; clear hS; obtain ⟨z3, hz3, hS⟩ := hT
  refine clV ent43 (vs := [.slice ao3 z2.length cp3, .int .u64 p_s.2.2.2.2.1, .int .i64 8]) (caps := []) hf (by kernel_rfl) (by kernel_rfl) (by kernel_rfl) (by kernel_rfl) (ref06_number_ok (b := z2) (p_x := p_s.2.2.2.2.1) (n := 8) (hs.enter [0] rfl rfl) hz3) ?_
  clear hf; clear a; intro v w6 a hT hf; obtain ⟨ao4, cp4, F3, rfl, hr⟩ := hT
  replace hs : Sep w F R w6 F3 [.row 5 (tI .u8) (.slice ao4 z3.length cp4) z3, .box w.heap.size 65 [.int .u32 p_s.1, .int .u8 p_s.2.1, .int .u8 p_s.2.2.1, .int .u16 p_s.2.2.2.1, .int .u64 p_s.2.2.2.2.1, .int .u64 p_s.2.2.2.2.2]] := hs.back [0] [1] rfl rfl rfl rfl hr
  clear hr
  replace hf := Fr.keep (ks := [1, 24]) (L' := [(1, .pointer (some ⟨w.heap.size, 0, none⟩)), (24, .slice ao4 z3.length cp4)]) hf (by kernel_rfl)
  refine st tbOk 1 [1, 3] (L' := [(1, .pointer (some ⟨w.heap.size, 0, none⟩)), (3, .slice ao4 z3.length cp4)]) hf (by kernel_rfl) ?_
  clear hf; clear a; intro a hf
  refine wpList_nil ?_
  refine sq ?_
  refine reg ?_
  refine st tbOk 2 [25, 26] (L' := [(25, .slice ao4 z3.length cp4), (26, .pointer (some ⟨w.heap.size, 5, none⟩))]) hf (by kernel_rfl) ?_
  clear hf; clear a; intro a hf
  refine ldC tbOk (T := 23) (hs.cbx 1 rfl) (LeH.refl _) 5 (.int .u64 p_s.2.2.2.2.2) hf (by kernel_rfl) (by kernel_rfl) (by kernel_rfl) (by kernel_rfl) ?_
  clear hf; clear a; intro a hf
  replace hs : Sep w F R w6 F3 [.row 5 (tI .u8) (.slice ao4 z3.length cp4) z3] := hs.sel [0] rfl rfl
  replace hf := Fr.keep (ks := [25, 27]) (L' := [(25, .slice ao4 z3.length cp4), (27, .int .u64 p_s.2.2.2.2.2)]) hf (by kernel_rfl)
  have hT := of_bd hS; clear hS; obtain ⟨z4, hz4, hS⟩ := hT
  refine clV ent43 (vs := [.slice ao4 z3.length cp4, .int .u64 p_s.2.2.2.2.2, .int .i64 8]) (caps := []) hf (by kernel_rfl) (by kernel_rfl) (by kernel_rfl) (by kernel_rfl) (ref06_number_ok (b := z3) (p_x := p_s.2.2.2.2.2) (n := 8) (hs.enter [0] rfl rfl) hz4) ?_
  clear hf; clear a; intro v w7 a hT hf; obtain ⟨ao5, cp5, F4, rfl, hr⟩ := hT
  replace hs : Sep w F R w7 F4 [.row 5 (tI .u8) (.slice ao5 z4.length cp5) z4] := hs.back [0] [] rfl rfl rfl rfl hr
  clear hr
  replace hf := Fr.keep (ks := [28]) (L' := [(28, .slice ao5 z4.length cp5)]) hf (by kernel_rfl)
  refine st tbOk 1 [2] (L' := [(2, .slice ao5 z4.length cp5)]) hf (by kernel_rfl) ?_
  clear hf; clear a; intro a hf
  refine wpList_nil ?_
  have hr := Option.some.inj hS; subst hr
  refine wp_ret ?_
  exact ret_ok hf (vs := [.slice ao5 z4.length cp5]) (by kernel_rfl) ⟨ao5, cp5, _, rfl, hs.sel [0] rfl rfl⟩

end Dm
