/-
  The walks: a call of each Go function gives what its shallow form gives, where that form gives something; printed by a program of this repo. No condition.
-/
import Derived.Test.YtlbilaaofmnbfaaWT
namespace Dm
open Go Go.RowKit Go.Proofs

set_option maxHeartbeats 4000000 in
theorem law03_model_ok {w : World} {F : SH} {p_h : Int × Int × Int × Int}  (hs : Sep w F (blks []) w F []) {r : Int × Int × Int × Int} (hS : law03_model p_h = some r) :
    Calls Try.prog 16 [.agg #[.int .i64 p_h.1, .int .u64 p_h.2.1, .int .u64 p_h.2.2.1, .int .i64 p_h.2.2.2]].toArray w (Gives (fun u w' => ∃ (F' : SH), u = .agg #[.int .i64 r.1, .int .u64 r.2.1, .int .u64 r.2.2.1, .int .i64 r.2.2.2] ∧ Sep w F (blks []) w' F' [])) := by
  generalize (blks []) = R at hs ⊢
  unfold law03_model at hS
  refine fn_ok (vs := [.agg #[.int .i64 p_h.1, .int .u64 p_h.2.1, .int .u64 p_h.2.2.1, .int .i64 p_h.2.2.2]]) Try.func16 rfl 12 Try.ntmps16 (Nat.le_of_ble_eq_true rfl) ?_
  intro a hf
  replace hf := Fr.cast (L' := [(0, .agg #[.int .i64 p_h.1, .int .u64 p_h.2.1, .int .u64 p_h.2.2.1, .int .i64 p_h.2.2.2])]) hf (by kernel_rfl)
  refine sq ?_
  refine reg ?_
  refine bx (T := 25) [.int .i64 p_h.1, .int .u64 p_h.2.1, .int .u64 p_h.2.2.1, .int .i64 p_h.2.2.2] (v := .agg #[.int .i64 p_h.1, .int .u64 p_h.2.1, .int .u64 p_h.2.2.1, .int .i64 p_h.2.2.2]) rfl (by kernel_rfl) hf (by kernel_rfl) (by kernel_rfl) (by kernel_rfl) ?_
  clear hf; clear a; intro w1 a hb hx _ hf
  replace hs : Sep w F R w1 F [.box w.heap.size 25 [.int .i64 p_h.1, .int .u64 p_h.2.1, .int .u64 p_h.2.2.1, .int .i64 p_h.2.2.2]] := hs.newBox hb hx
  clear hb hx
  replace hf := Fr.keep (ks := [1]) (L' := [(1, .pointer (some ⟨w.heap.size, 0, none⟩))]) hf (by kernel_rfl)
  refine al tbOk i31 [.int .i64 0, .int .u64 0, .int .u64 0, .int .i64 0] rfl (by kernel_rfl) hf (by kernel_rfl) (by kernel_rfl) ?_
  clear hf; clear a; intro w2 a hb hx _ hf
  replace hs : Sep w F R w2 F [.box w1.heap.size 31 [.int .i64 0, .int .u64 0, .int .u64 0, .int .i64 0], .box w.heap.size 25 [.int .i64 p_h.1, .int .u64 p_h.2.1, .int .u64 p_h.2.2.1, .int .i64 p_h.2.2.2]] := hs.newBox hb hx
  clear hb hx
  replace hf := Fr.keep (ks := [1, 2]) (L' := [(1, .pointer (some ⟨w.heap.size, 0, none⟩)), (2, .pointer (some ⟨w1.heap.size, 0, none⟩))]) hf (by kernel_rfl)
  refine wpList_nil ?_
  refine sq ?_
  refine reg ?_
  refine st tbOk 1 [1, 2, 3] (L' := [(1, .pointer (some ⟨w.heap.size, 0, none⟩)), (2, .pointer (some ⟨w1.heap.size, 0, none⟩)), (3, .pointer (some ⟨w.heap.size, 0, none⟩))]) hf (by kernel_rfl) ?_
  clear hf; clear a; intro a hf
  refine ldC tbOk (T := 3) (hs.cbx 1 rfl) (LeH.refl _) 0 (.int .i64 p_h.1) hf (by kernel_rfl) (by kernel_rfl) (by kernel_rfl) (by kernel_rfl) ?_
  clear hf; clear a; intro a hf
  replace hf := Fr.keep (ks := [1, 2, 4]) (L' := [(1, .pointer (some ⟨w.heap.size, 0, none⟩)), (2, .pointer (some ⟨w1.heap.size, 0, none⟩)), (4, .int .i64 p_h.1)]) hf (by kernel_rfl)
  refine st tbOk 1 [1, 2, 4, 5] (L' := [(1, .pointer (some ⟨w.heap.size, 0, none⟩)), (2, .pointer (some ⟨w1.heap.size, 0, none⟩)), (4, .int .i64 p_h.1), (5, .pointer (some ⟨w.heap.size, 1, none⟩))]) hf (by kernel_rfl) ?_
  clear hf; clear a; intro a hf
  refine ldC tbOk (T := 22) (hs.cbx 1 rfl) (LeH.refl _) 1 (.int .u64 p_h.2.1) hf (by kernel_rfl) (by kernel_rfl) (by kernel_rfl) (by kernel_rfl) ?_
  clear hf; clear a; intro a hf
  replace hf := Fr.keep (ks := [1, 2, 4, 6]) (L' := [(1, .pointer (some ⟨w.heap.size, 0, none⟩)), (2, .pointer (some ⟨w1.heap.size, 0, none⟩)), (4, .int .i64 p_h.1), (6, .int .u64 p_h.2.1)]) hf (by kernel_rfl)
  refine st tbOk 1 [1, 2, 4, 6, 7] (L' := [(1, .pointer (some ⟨w.heap.size, 0, none⟩)), (2, .pointer (some ⟨w1.heap.size, 0, none⟩)), (4, .int .i64 p_h.1), (6, .int .u64 p_h.2.1), (7, .pointer (some ⟨w.heap.size, 2, none⟩))]) hf (by kernel_rfl) ?_
  clear hf; clear a; intro a hf
  refine ldC tbOk (T := 22) (hs.cbx 1 rfl) (LeH.refl _) 2 (.int .u64 p_h.2.2.1) hf (by kernel_rfl) (by kernel_rfl) (by kernel_rfl) (by kernel_rfl) ?_
  clear hf; clear a; intro a hf
  replace hf := Fr.keep (ks := [1, 2, 4, 6, 8]) (L' := [(1, .pointer (some ⟨w.heap.size, 0, none⟩)), (2, .pointer (some ⟨w1.heap.size, 0, none⟩)), (4, .int .i64 p_h.1), (6, .int .u64 p_h.2.1), (8, .int .u64 p_h.2.2.1)]) hf (by kernel_rfl)
  refine st tbOk 1 [2, 4, 6, 8, 9] (L' := [(2, .pointer (some ⟨w1.heap.size, 0, none⟩)), (4, .int .i64 p_h.1), (6, .int .u64 p_h.2.1), (8, .int .u64 p_h.2.2.1), (9, .pointer (some ⟨w.heap.size, 3, none⟩))]) hf (by kernel_rfl) ?_
  clear hf; clear a; intro a hf
  refine ldC tbOk (T := 3) (hs.cbx 1 rfl) (LeH.refl _) 3 (.int .i64 p_h.2.2.2) hf (by kernel_rfl) (by kernel_rfl) (by kernel_rfl) (by kernel_rfl) ?_
  clear hf; clear a; intro a hf
  replace hs : Sep w F R w2 F [.box w1.heap.size 31 [.int .i64 0, .int .u64 0, .int .u64 0, .int .i64 0]] := hs.sel [0] rfl rfl
  replace hf := Fr.keep (ks := [2, 4, 6, 8, 10]) (L' := [(2, .pointer (some ⟨w1.heap.size, 0, none⟩)), (4, .int .i64 p_h.1), (6, .int .u64 p_h.2.1), (8, .int .u64 p_h.2.2.1), (10, .int .i64 p_h.2.2.2)]) hf (by kernel_rfl)
  refine st tbOk 1 [2, 11] (L' := [(2, .pointer (some ⟨w1.heap.size, 0, none⟩)), (11, .agg #[.int .i64 p_h.1, .int .u64 p_h.2.1, .int .u64 p_h.2.2.1, .int .i64 p_h.2.2.2])]) hf (by kernel_rfl) ?_
  clear hf; clear a; intro a hf
  refine stB tbOk i31 (hs.bx 0 rfl) 0 [.int .i64 p_h.1, .int .u64 p_h.2.1, .int .u64 p_h.2.2.1, .int .i64 p_h.2.2.2] [.int .i64 p_h.1, .int .u64 p_h.2.1, .int .u64 p_h.2.2.1, .int .i64 p_h.2.2.2] (v := .agg #[.int .i64 p_h.1, .int .u64 p_h.2.1, .int .u64 p_h.2.2.1, .int .i64 p_h.2.2.2]) rfl rfl (by kernel_rfl) (by kernel_rfl) (by kernel_rfl) (by kernel_rfl) hf (by kernel_rfl) (by kernel_rfl) (by kernel_rfl) ?_
  clear hf; clear a; intro w3 a hb hg _ hf
  replace hs : Sep w F R w3 F [.box w1.heap.size 31 [.int .i64 p_h.1, .int .u64 p_h.2.1, .int .u64 p_h.2.2.1, .int .i64 p_h.2.2.2]] := hs.updBox 0 rfl hb hg
  clear hb hg
  replace hf := Fr.keep (ks := [2]) (L' := [(2, .pointer (some ⟨w1.heap.size, 0, none⟩))]) hf (by kernel_rfl)
  refine wpList_nil ?_
  have hr := Option.some.inj hS; subst hr
  refine wp_ret ?_
  exact ret_okC hf (vs := [.agg #[.int .i64 p_h.1, .int .u64 p_h.2.1, .int .u64 p_h.2.2.1, .int .i64 p_h.2.2.2]]) (.cons (.cell tbOk (hs.cbx 0 rfl) (off := 0) (by kernel_rfl) (by kernel_rfl)) .nil) ⟨_, rfl, hs.sel [] rfl rfl⟩

set_option maxHeartbeats 4000000 in
theorem ref03_number_ok {w : World} {F : SH} {b : List Int} {p_x : Int} {n : Int} {ao1 : Option Addr} {cp1 : Nat} (hs : Sep w F (blks [.row 5 (tI .u8) (.slice ao1 b.length cp1) b]) w F [.row 5 (tI .u8) (.slice ao1 b.length cp1) b]) {r : List Int} (hS : ref03_number b p_x n = some r) :
    Calls Try.prog 29 [.slice ao1 b.length cp1, .int .u64 p_x, .int .i64 n].toArray w (Gives (fun u w' => ∃ (ao5 : Option Addr) (cp5 : Nat) (F' : SH), u = .slice ao5 r.length cp5 ∧ Sep w F (blks [.row 5 (tI .u8) (.slice ao1 b.length cp1) b]) w' F' [.row 5 (tI .u8) (.slice ao5 r.length cp5) r])) := by
  generalize (blks [.row 5 (tI .u8) (.slice ao1 b.length cp1) b]) = R at hs ⊢
  unfold ref03_number at hS
  refine fn_ok (vs := [.slice ao1 b.length cp1, .int .u64 p_x, .int .i64 n]) Try.func29 rfl 22 Try.ntmps29 (Nat.le_of_ble_eq_true rfl) ?_
  intro a hf
  replace hf := Fr.cast (L' := [(0, .slice ao1 b.length cp1), (1, .int .u64 p_x), (2, .int .i64 n)]) hf (by kernel_rfl)
  refine sq ?_
  refine reg ?_
  refine st tbOk 1 [0, 1, 2] (L' := [(0, .slice ao1 b.length cp1), (1, .int .u64 p_x), (2, .int .i64 n)]) hf (by kernel_rfl) ?_
  clear hf; clear a; intro a hf
  refine wpList_nil ?_
  refine sq ?_
  refine sq ?_
  refine reg ?_
  refine st tbOk 1 [0, 1, 2, 7] (L' := [(0, .slice ao1 b.length cp1), (1, .int .u64 p_x), (2, .int .i64 n), (7, .int .i64 0)]) hf (by kernel_rfl) ?_
  clear hf; clear a; intro a hf
  refine wpList_nil ?_
  refine ctj (fun (s1 : List Int) (a : Act) (w' : World) => ∃ (ao2 : Option Addr) (cp2 : Nat) (F1 : SH), Sep w F R w' F1 [.row 5 (tI .u8) (.slice ao2 s1.length cp2) s1] ∧ Fr 22 [(0, .slice ao2 s1.length cp2)] a) hS ?_ ?_
  · clear hS hf hs; clear a; intro s1 a w4 hM hS
    obtain ⟨ao2, cp2, F1, hs, hf⟩ := hM
    refine sq ?_
    refine reg ?_
    refine st tbOk 2 [6] (L' := [(6, .slice ao2 s1.length cp2)]) hf (by kernel_rfl) ?_
    clear hf; clear a; intro a hf
    refine wpList_nil ?_
    have hr := Option.some.inj hS; subst hr
    refine wp_ret ?_
    exact ret_ok hf (vs := [.slice ao2 s1.length cp2]) (by kernel_rfl) ⟨ao2, cp2, _, rfl, hs.sel [0] rfl rfl⟩
  · clear hS; intro KK1 k1 hK1 hS
    refine blk ?_
    refine lp (st := (b, p_x, 0)) (fun (s2 : (List Int) × Int × Int) (a : Act) (w' : World) => ∃ (ao3 : Option Addr) (cp3 : Nat) (F2 : SH), Sep w F R w' F2 [.row 5 (tI .u8) (.slice ao3 s2.1.length cp3) s2.1] ∧ Fr 22 [(0, .slice ao3 s2.1.length cp3), (1, .int .u64 s2.2.1), (2, .int .i64 n), (7, .int .i64 s2.2.2)] a) ?_ ⟨ao1, cp1, _, hs.sel [0] rfl rfl, hf.keep (ks := [0, 1, 2, 7]) (by kernel_rfl)⟩ hS
    clear hS hf hs; clear a
    intro rec1 KK2 hK2 s2 a w1 hM hS
    obtain ⟨ao3, cp3, F2, hs, hf⟩ := hM
    refine sq ?_
    refine sq ?_
    refine reg ?_
    refine st tbOk 3 [0, 1, 2, 7, 10] (L' := [(0, .slice ao3 s2.1.length cp3), (1, .int .u64 s2.2.1), (2, .int .i64 n), (7, .int .i64 s2.2.2), (10, .bool (decide (s2.2.2 < n)))]) hf (by kernel_rfl) ?_
    clear hf; clear a; intro a hf
    refine wpList_nil ?_
    refine cnd (b := decide (s2.2.2 < n)) hf (by kernel_rfl) (fun hb1 => ?_) (fun hb1 => ?_)
    · replace hS := of_t hb1 hS
      refine wp_skip ?_
      refine sq ?_
      refine blk ?_
      refine sq ?_
      refine reg ?_
      refine st tbOk 4 [1, 2, 7, 13, 16] (L' := [(1, .int .u64 s2.2.1), (2, .int .i64 n), (7, .int .i64 s2.2.2), (13, .slice ao3 s2.1.length cp3), (16, .int .u8 (IntKind.u8.wrap (Int.tmod s2.2.1 256)))]) hf (by kernel_rfl) ?_
      clear hf; clear a; intro a hf
      refine bsR tbOk u26 i5 rfl (t := (tI .u8)) (vs := [(0, .int .u8 (IntKind.u8.wrap (Int.tmod s2.2.1 256)))]) (cells := #[.int .u8 (IntKind.u8.wrap (Int.tmod s2.2.1 256))]) ([IntKind.u8.wrap (Int.tmod s2.2.1 256)] : List Int) hs.le hf (by kernel_rfl) (by kernel_rfl) (by kernel_rfl) rfl (by kernel_rfl) (reps_flat _) rfl ?_
      clear hf; clear a; intro w2 a ho hx hf
      replace hs : Sep w F R w2 F2 [.row 5 (tI .u8) (.slice (some ⟨w1.heap.size, 0, none⟩) ([IntKind.u8.wrap (Int.tmod s2.2.1 256)] : List Int).length ([IntKind.u8.wrap (Int.tmod s2.2.1 256)] : List Int).length) ([IntKind.u8.wrap (Int.tmod s2.2.1 256)] : List Int), .row 5 (tI .u8) (.slice ao3 s2.1.length cp3) s2.1] := hs.newRow ho hx
      clear ho hx
      replace hf := Fr.keep (ks := [1, 2, 7, 13, 17]) (L' := [(1, .int .u64 s2.2.1), (2, .int .i64 n), (7, .int .i64 s2.2.2), (13, .slice ao3 s2.1.length cp3), (17, .slice (some ⟨w1.heap.size, 0, none⟩) ([IntKind.u8.wrap (Int.tmod s2.2.1 256)] : List Int).length ([IntKind.u8.wrap (Int.tmod s2.2.1 256)] : List Int).length)]) hf (by kernel_rfl)
      have hT := of_gd hS; clear hS; obtain ⟨hc1, hS⟩ := hT
      refine apR tbOk u26 i5 rfl rfl rfl rfl hs.le (hs.own 1 rfl) (hs.raW 0 rfl) hc1 hf (by kernel_rfl) (by kernel_rfl) (by kernel_rfl) (by kernel_rfl) ?_
      clear hf; clear a; intro ao4 cp4 w3 a ho hg hl hf
      replace hs : Sep w F R w3 F2 [.row 5 (tI .u8) (.slice (some ⟨w1.heap.size, 0, none⟩) ([IntKind.u8.wrap (Int.tmod s2.2.1 256)] : List Int).length ([IntKind.u8.wrap (Int.tmod s2.2.1 256)] : List Int).length) ([IntKind.u8.wrap (Int.tmod s2.2.1 256)] : List Int), .row 5 (tI .u8) (.slice ao4 (s2.1 ++ ([IntKind.u8.wrap (Int.tmod s2.2.1 256)] : List Int)).length cp4) (s2.1 ++ ([IntKind.u8.wrap (Int.tmod s2.2.1 256)] : List Int))] := hs.updRow 1 rfl ho hg hl
      clear ho hg hl
      replace hs : Sep w F R w3 F2 [.row 5 (tI .u8) (.slice ao4 (s2.1 ++ ([IntKind.u8.wrap (Int.tmod s2.2.1 256)] : List Int)).length cp4) (s2.1 ++ ([IntKind.u8.wrap (Int.tmod s2.2.1 256)] : List Int))] := hs.sel [1] rfl rfl
      replace hf := Fr.keep (ks := [1, 2, 7, 18]) (L' := [(1, .int .u64 s2.2.1), (2, .int .i64 n), (7, .int .i64 s2.2.2), (18, .slice ao4 (s2.1 ++ ([IntKind.u8.wrap (Int.tmod s2.2.1 256)] : List Int)).length cp4)]) hf (by kernel_rfl)
      refine st tbOk 1 [0, 1, 2, 7] (L' := [(0, .slice ao4 (s2.1 ++ ([IntKind.u8.wrap (Int.tmod s2.2.1 256)] : List Int)).length cp4), (1, .int .u64 s2.2.1), (2, .int .i64 n), (7, .int .i64 s2.2.2)]) hf (by kernel_rfl) ?_
      clear hf; clear a; intro a hf
      refine wpList_nil ?_
      refine reg ?_
      have hT := of_let hS; clear hS; obtain ⟨x_1, hl1, hS⟩ := hT
      refine st tbOk 3 [0, 1, 2, 7] (L' := [(0, .slice ao4 (s2.1 ++ ([IntKind.u8.wrap (Int.tmod s2.2.1 256)] : List Int)).length cp4), (1, .int .u64 x_1), (2, .int .i64 n), (7, .int .i64 s2.2.2)]) hf (by subst hl1; kernel_rfl) ?_
      clear hf; clear a; intro a hf
      refine wpList_nil ?_
      refine reg ?_
      have hT := of_let hS; clear hS; obtain ⟨i_1, hl2, hS⟩ := hT
      refine st tbOk 3 [0, 1, 2, 7] (L' := [(0, .slice ao4 (s2.1 ++ ([IntKind.u8.wrap (Int.tmod s2.2.1 256)] : List Int)).length cp4), (1, .int .u64 x_1), (2, .int .i64 n), (7, .int .i64 i_1)]) hf (by subst hl2; kernel_rfl) ?_
      clear hf; clear a; intro a hf
      refine wpList_nil ?_
      exact hK2 ((s2.1 ++ ([IntKind.u8.wrap (Int.tmod s2.2.1 256)] : List Int)), x_1, i_1) _ _ ⟨ao4, cp4, _, hs.sel [0] rfl rfl, hf.keep (ks := [0, 1, 2, 7]) (by kernel_rfl)⟩ hS
    · replace hS := of_f hb1 hS
      refine wp_exit ?_
      exact hK1 s2.1 _ _ ⟨ao3, cp3, _, hs.sel [0] rfl rfl, hf.keep (ks := [0]) (by kernel_rfl)⟩ hS

set_option maxHeartbeats 4000000 in
theorem ref03_Put_ok {w : World} {F : SH} {p_h : Int × Int × Int × Int}  (hs : Sep w F (blks []) w F []) {r : (List Int) × Int} (hS : ref03_Put p_h = some r) :
    Calls Try.prog 15 [.agg #[.int .i64 p_h.1, .int .u64 p_h.2.1, .int .u64 p_h.2.2.1, .int .i64 p_h.2.2.2]].toArray w (Gives (fun u w' => ∃ (ao11 : Option Addr) (cp11 : Nat) (F' : SH), u = .tuple #[.slice ao11 r.1.length cp11, .int .i64 r.2] ∧ Sep w F (blks []) w' F' [.row 5 (tI .u8) (.slice ao11 r.1.length cp11) r.1])) := by
  generalize (blks []) = R at hs ⊢
  unfold ref03_Put at hS
  refine fn_ok (vs := [.agg #[.int .i64 p_h.1, .int .u64 p_h.2.1, .int .u64 p_h.2.2.1, .int .i64 p_h.2.2.2]]) Try.func15 rfl 54 Try.ntmps15 (Nat.le_of_ble_eq_true rfl) ?_
  intro a hf
  replace hf := Fr.cast (L' := [(0, .agg #[.int .i64 p_h.1, .int .u64 p_h.2.1, .int .u64 p_h.2.2.1, .int .i64 p_h.2.2.2])]) hf (by kernel_rfl)
  refine sq ?_
  refine reg ?_
  refine bx (T := 31) [.int .i64 p_h.1, .int .u64 p_h.2.1, .int .u64 p_h.2.2.1, .int .i64 p_h.2.2.2] (v := .agg #[.int .i64 p_h.1, .int .u64 p_h.2.1, .int .u64 p_h.2.2.1, .int .i64 p_h.2.2.2]) rfl (by kernel_rfl) hf (by kernel_rfl) (by kernel_rfl) (by kernel_rfl) ?_
  clear hf; clear a; intro w1 a hb hx _ hf
  replace hs : Sep w F R w1 F [.box w.heap.size 31 [.int .i64 p_h.1, .int .u64 p_h.2.1, .int .u64 p_h.2.2.1, .int .i64 p_h.2.2.2]] := hs.newBox hb hx
  clear hb hx
  replace hf := Fr.keep (ks := [1]) (L' := [(1, .pointer (some ⟨w.heap.size, 0, none⟩))]) hf (by kernel_rfl)
  refine st tbOk 2 [1] (L' := [(1, .pointer (some ⟨w.heap.size, 0, none⟩))]) hf (by kernel_rfl) ?_
  clear hf; clear a; intro a hf
  refine wpList_nil ?_
  refine sq ?_
  refine sq ?_
  refine ctj (fun (s1 : Bool) (a : Act) (w' : World) => ∃ (F1 : SH), Sep w F R w' F1 [.box w.heap.size 31 [.int .i64 p_h.1, .int .u64 p_h.2.1, .int .u64 p_h.2.2.1, .int .i64 p_h.2.2.2]] ∧ Fr 54 [(1, .pointer (some ⟨w.heap.size, 0, none⟩)), (22, .bool s1)] a) hS ?_ ?_
  · clear hS hf hs; clear a; intro s1 a w2 hM hS
    obtain ⟨F1, hs, hf⟩ := hM
    refine cnd (b := s1) hf (by kernel_rfl) (fun hb4 => ?_) (fun hb4 => ?_)
    · replace hS := of_t hb4 hS
      refine sq ?_
      refine reg ?_
      refine st tbOk 2 [2, 3] (L' := [(2, .slice none 0 0), (3, .int .i64 1)]) hf (by kernel_rfl) ?_
      clear hf; clear a; intro a hf
      refine wpList_nil ?_
      have hr := Option.some.inj hS; subst hr
      refine wp_ret ?_
      replace hs : Sep w F R w2 F1 [.row 5 (tI .u8) (.slice none 0 0) ([] : List Int), .box w.heap.size 31 [.int .i64 p_h.1, .int .u64 p_h.2.1, .int .u64 p_h.2.2.1, .int .i64 p_h.2.2.2]] := hs.addNil 5 (tI .u8)
      exact ret_ok hf (vs := [.slice none 0 0, .int .i64 1]) (by kernel_rfl) ⟨none, 0, _, rfl, hs.sel [0] rfl rfl⟩
    · replace hS := of_f hb4 hS
      refine wp_skip ?_
      refine sq ?_
      refine reg ?_
      refine bsR tbOk u26 i5 rfl (t := (tI .u8)) (vs := [(0, .int .u8 127), (1, .int .u8 69), (2, .int .u8 76), (3, .int .u8 70), (4, .int .u8 2), (5, .int .u8 1), (6, .int .u8 1), (7, .int .u8 0), (8, .int .u8 0), (9, .int .u8 0), (10, .int .u8 0), (11, .int .u8 0), (12, .int .u8 0), (13, .int .u8 0), (14, .int .u8 0), (15, .int .u8 0)]) (cells := #[.int .u8 127, .int .u8 69, .int .u8 76, .int .u8 70, .int .u8 2, .int .u8 1, .int .u8 1, .int .u8 0, .int .u8 0, .int .u8 0, .int .u8 0, .int .u8 0, .int .u8 0, .int .u8 0, .int .u8 0, .int .u8 0]) ([127, 69, 76, 70, 2, 1, 1, 0, 0, 0, 0, 0, 0, 0, 0, 0] : List Int) hs.le hf (by kernel_rfl) (by kernel_rfl) (by kernel_rfl) rfl (by kernel_rfl) (reps_flat _) rfl ?_
      clear hf; clear a; intro w3 a ho hx hf
      replace hs : Sep w F R w3 F1 [.row 5 (tI .u8) (.slice (some ⟨w2.heap.size, 0, none⟩) ([127, 69, 76, 70, 2, 1, 1, 0, 0, 0, 0, 0, 0, 0, 0, 0] : List Int).length ([127, 69, 76, 70, 2, 1, 1, 0, 0, 0, 0, 0, 0, 0, 0, 0] : List Int).length) ([127, 69, 76, 70, 2, 1, 1, 0, 0, 0, 0, 0, 0, 0, 0, 0] : List Int), .box w.heap.size 31 [.int .i64 p_h.1, .int .u64 p_h.2.1, .int .u64 p_h.2.2.1, .int .i64 p_h.2.2.2]] := hs.newRow ho hx
      clear ho hx
      replace hf := Fr.keep (ks := [1, 23]) (L' := [(1, .pointer (some ⟨w.heap.size, 0, none⟩)), (23, .slice (some ⟨w2.heap.size, 0, none⟩) ([127, 69, 76, 70, 2, 1, 1, 0, 0, 0, 0, 0, 0, 0, 0, 0] : List Int).length ([127, 69, 76, 70, 2, 1, 1, 0, 0, 0, 0, 0, 0, 0, 0, 0] : List Int).length)]) hf (by kernel_rfl)
      refine st tbOk 1 [1, 4] (L' := [(1, .pointer (some ⟨w.heap.size, 0, none⟩)), (4, .slice (some ⟨w2.heap.size, 0, none⟩) ([127, 69, 76, 70, 2, 1, 1, 0, 0, 0, 0, 0, 0, 0, 0, 0] : List Int).length ([127, 69, 76, 70, 2, 1, 1, 0, 0, 0, 0, 0, 0, 0, 0, 0] : List Int).length)]) hf (by kernel_rfl) ?_
      clear hf; clear a; intro a hf
      refine wpList_nil ?_
      refine sq ?_
      refine reg ?_
      refine st tbOk 2 [1, 24, 25] (L' := [(1, .pointer (some ⟨w.heap.size, 0, none⟩)), (24, .slice (some ⟨w2.heap.size, 0, none⟩) ([127, 69, 76, 70, 2, 1, 1, 0, 0, 0, 0, 0, 0, 0, 0, 0] : List Int).length ([127, 69, 76, 70, 2, 1, 1, 0, 0, 0, 0, 0, 0, 0, 0, 0] : List Int).length), (25, .pointer (some ⟨w.heap.size, 0, none⟩))]) hf (by kernel_rfl) ?_
      clear hf; clear a; intro a hf
      refine ldC tbOk (T := 3) (hs.cbx 1 rfl) (LeH.refl _) 0 (.int .i64 p_h.1) hf (by kernel_rfl) (by kernel_rfl) (by kernel_rfl) (by kernel_rfl) ?_
      clear hf; clear a; intro a hf
      replace hf := Fr.keep (ks := [1, 24, 26]) (L' := [(1, .pointer (some ⟨w.heap.size, 0, none⟩)), (24, .slice (some ⟨w2.heap.size, 0, none⟩) ([127, 69, 76, 70, 2, 1, 1, 0, 0, 0, 0, 0, 0, 0, 0, 0] : List Int).length ([127, 69, 76, 70, 2, 1, 1, 0, 0, 0, 0, 0, 0, 0, 0, 0] : List Int).length), (26, .int .i64 p_h.1)]) hf (by kernel_rfl)
      refine st tbOk 1 [1, 24, 27] (L' := [(1, .pointer (some ⟨w.heap.size, 0, none⟩)), (24, .slice (some ⟨w2.heap.size, 0, none⟩) ([127, 69, 76, 70, 2, 1, 1, 0, 0, 0, 0, 0, 0, 0, 0, 0] : List Int).length ([127, 69, 76, 70, 2, 1, 1, 0, 0, 0, 0, 0, 0, 0, 0, 0] : List Int).length), (27, .int .u64 (IntKind.u64.wrap p_h.1))]) hf (by kernel_rfl) ?_
      clear hf; clear a; intro a hf
      have hT := of_bd hS; clear hS; obtain ⟨z1, hz1, hS⟩ := hT
      refine clV ent29 (vs := [.slice (some ⟨w2.heap.size, 0, none⟩) ([127, 69, 76, 70, 2, 1, 1, 0, 0, 0, 0, 0, 0, 0, 0, 0] : List Int).length ([127, 69, 76, 70, 2, 1, 1, 0, 0, 0, 0, 0, 0, 0, 0, 0] : List Int).length, .int .u64 (IntKind.u64.wrap p_h.1), .int .i64 2]) (caps := []) hf (by kernel_rfl) (by kernel_rfl) (by kernel_rfl) (by kernel_rfl) (ref03_number_ok (b := ([127, 69, 76, 70, 2, 1, 1, 0, 0, 0, 0, 0, 0, 0, 0, 0] : List Int)) (p_x := IntKind.u64.wrap p_h.1) (n := 2) (hs.enter [0] rfl rfl) hz1) ?_
      clear hf; clear a; intro v w4 a hT hf; obtain ⟨ao1, cp1, F2, rfl, hr⟩ := hT
      replace hs : Sep w F R w4 F2 [.row 5 (tI .u8) (.slice ao1 z1.length cp1) z1, .box w.heap.size 31 [.int .i64 p_h.1, .int .u64 p_h.2.1, .int .u64 p_h.2.2.1, .int .i64 p_h.2.2.2]] := hs.back [0] [1] rfl rfl rfl rfl hr
      clear hr
      replace hf := Fr.keep (ks := [1, 28]) (L' := [(1, .pointer (some ⟨w.heap.size, 0, none⟩)), (28, .slice ao1 z1.length cp1)]) hf (by kernel_rfl)
      refine st tbOk 1 [1, 4] (L' := [(1, .pointer (some ⟨w.heap.size, 0, none⟩)), (4, .slice ao1 z1.length cp1)]) hf (by kernel_rfl) ?_
      clear hf; clear a; intro a hf
      refine wpList_nil ?_
      refine sq ?_
      refine reg ?_
      refine st tbOk 1 [1, 29] (L' := [(1, .pointer (some ⟨w.heap.size, 0, none⟩)), (29, .slice ao1 z1.length cp1)]) hf (by kernel_rfl) ?_
      clear hf; clear a; intro a hf
      have hT := of_bd hS; clear hS; obtain ⟨z2, hz2, hS⟩ := hT
      refine clV ent29 (vs := [.slice ao1 z1.length cp1, .int .u64 19823, .int .i64 2]) (caps := []) hf (by kernel_rfl) (by kernel_rfl) (by kernel_rfl) (by kernel_rfl) (ref03_number_ok (b := z1) (p_x := 19823) (n := 2) (hs.enter [0] rfl rfl) hz2) ?_
      clear hf; clear a; intro v w5 a hT hf; obtain ⟨ao2, cp2, F3, rfl, hr⟩ := hT
      replace hs : Sep w F R w5 F3 [.row 5 (tI .u8) (.slice ao2 z2.length cp2) z2, .box w.heap.size 31 [.int .i64 p_h.1, .int .u64 p_h.2.1, .int .u64 p_h.2.2.1, .int .i64 p_h.2.2.2]] := hs.back [0] [1] rfl rfl rfl rfl hr
      clear hr
      replace hf := Fr.keep (ks := [1, 30]) (L' := [(1, .pointer (some ⟨w.heap.size, 0, none⟩)), (30, .slice ao2 z2.length cp2)]) hf (by kernel_rfl)
      refine st tbOk 1 [1, 4] (L' := [(1, .pointer (some ⟨w.heap.size, 0, none⟩)), (4, .slice ao2 z2.length cp2)]) hf (by kernel_rfl) ?_
      clear hf; clear a; intro a hf
      refine wpList_nil ?_
      refine sq ?_
      refine reg ?_
      refine st tbOk 1 [1, 31] (L' := [(1, .pointer (some ⟨w.heap.size, 0, none⟩)), (31, .slice ao2 z2.length cp2)]) hf (by kernel_rfl) ?_
      clear hf; clear a; intro a hf
      have hT := of_bd hS; clear hS; obtain ⟨z3, hz3, hS⟩ := hT
      refine clV ent29 (vs := [.slice ao2 z2.length cp2, .int .u64 1, .int .i64 4]) (caps := []) hf (by kernel_rfl) (by kernel_rfl) (by kernel_rfl) (by kernel_rfl) (ref03_number_ok (b := z2) (p_x := 1) (n := 4) (hs.enter [0] rfl rfl) hz3) ?_
      clear hf; clear a; intro v w6 a hT hf; obtain ⟨ao3, cp3, F4, rfl, hr⟩ := hT
      replace hs : Sep w F R w6 F4 [.row 5 (tI .u8) (.slice ao3 z3.length cp3) z3, .box w.heap.size 31 [.int .i64 p_h.1, .int .u64 p_h.2.1, .int .u64 p_h.2.2.1, .int .i64 p_h.2.2.2]] := hs.back [0] [1] rfl rfl rfl rfl hr
      clear hr
      replace hf := Fr.keep (ks := [1, 32]) (L' := [(1, .pointer (some ⟨w.heap.size, 0, none⟩)), (32, .slice ao3 z3.length cp3)]) hf (by kernel_rfl)
      refine st tbOk 1 [1, 4] (L' := [(1, .pointer (some ⟨w.heap.size, 0, none⟩)), (4, .slice ao3 z3.length cp3)]) hf (by kernel_rfl) ?_
      clear hf; clear a; intro a hf
      refine wpList_nil ?_
      refine sq ?_
      refine reg ?_
      refine st tbOk 2 [1, 33, 34] (L' := [(1, .pointer (some ⟨w.heap.size, 0, none⟩)), (33, .slice ao3 z3.length cp3), (34, .pointer (some ⟨w.heap.size, 1, none⟩))]) hf (by kernel_rfl) ?_
      clear hf; clear a; intro a hf
      refine ldC tbOk (T := 22) (hs.cbx 1 rfl) (LeH.refl _) 1 (.int .u64 p_h.2.1) hf (by kernel_rfl) (by kernel_rfl) (by kernel_rfl) (by kernel_rfl) ?_
      clear hf; clear a; intro a hf
      replace hf := Fr.keep (ks := [1, 33, 35]) (L' := [(1, .pointer (some ⟨w.heap.size, 0, none⟩)), (33, .slice ao3 z3.length cp3), (35, .int .u64 p_h.2.1)]) hf (by kernel_rfl)
      have hT := of_bd hS; clear hS; obtain ⟨z4, hz4, hS⟩ := hT
      refine clV ent29 (vs := [.slice ao3 z3.length cp3, .int .u64 p_h.2.1, .int .i64 8]) (caps := []) hf (by kernel_rfl) (by kernel_rfl) (by kernel_rfl) (by kernel_rfl) (ref03_number_ok (b := z3) (p_x := p_h.2.1) (n := 8) (hs.enter [0] rfl rfl) hz4) ?_
      clear hf; clear a; intro v w7 a hT hf; obtain ⟨ao4, cp4, F5, rfl, hr⟩ := hT
      replace hs : Sep w F R w7 F5 [.row 5 (tI .u8) (.slice ao4 z4.length cp4) z4, .box w.heap.size 31 [.int .i64 p_h.1, .int .u64 p_h.2.1, .int .u64 p_h.2.2.1, .int .i64 p_h.2.2.2]] := hs.back [0] [1] rfl rfl rfl rfl hr
      clear hr
      replace hf := Fr.keep (ks := [1, 36]) (L' := [(1, .pointer (some ⟨w.heap.size, 0, none⟩)), (36, .slice ao4 z4.length cp4)]) hf (by kernel_rfl)
      refine st tbOk 1 [1, 4] (L' := [(1, .pointer (some ⟨w.heap.size, 0, none⟩)), (4, .slice ao4 z4.length cp4)]) hf (by kernel_rfl) ?_
      clear hf; clear a; intro a hf
      refine wpList_nil ?_
      refine sq ?_
      refine reg ?_
      refine st tbOk 2 [1, 37, 38] (L' := [(1, .pointer (some ⟨w.heap.size, 0, none⟩)), (37, .slice ao4 z4.length cp4), (38, .pointer (some ⟨w.heap.size, 2, none⟩))]) hf (by kernel_rfl) ?_
      clear hf; clear a; intro a hf
      refine ldC tbOk (T := 22) (hs.cbx 1 rfl) (LeH.refl _) 2 (.int .u64 p_h.2.2.1) hf (by kernel_rfl) (by kernel_rfl) (by kernel_rfl) (by kernel_rfl) ?_
      clear hf; clear a; intro a hf
      replace hf := Fr.keep (ks := [1, 37, 39]) (L' := [(1, .pointer (some ⟨w.heap.size, 0, none⟩)), (37, .slice ao4 z4.length cp4), (39, .int .u64 p_h.2.2.1)]) hf (by kernel_rfl)
      have hT := of_bd hS; clear hS; obtain ⟨z5, hz5, hS⟩ := hT
      refine clV ent29 (vs := [.slice ao4 z4.length cp4, .int .u64 p_h.2.2.1, .int .i64 8]) (caps := []) hf (by kernel_rfl) (by kernel_rfl) (by kernel_rfl) (by kernel_rfl) (ref03_number_ok (b := z4) (p_x := p_h.2.2.1) (n := 8) (hs.enter [0] rfl rfl) hz5) ?_
      clear hf; clear a; intro v w8 a hT hf; obtain ⟨ao5, cp5, F6, rfl, hr⟩ := hT
      replace hs : Sep w F R w8 F6 [.row 5 (tI .u8) (.slice ao5 z5.length cp5) z5, .box w.heap.size 31 [.int .i64 p_h.1, .int .u64 p_h.2.1, .int .u64 p_h.2.2.1, .int .i64 p_h.2.2.2]] := hs.back [0] [1] rfl rfl rfl rfl hr
      clear hr
      replace hf := Fr.keep (ks := [1, 40]) (L' := [(1, .pointer (some ⟨w.heap.size, 0, none⟩)), (40, .slice ao5 z5.length cp5)]) hf (by kernel_rfl)
      refine st tbOk 1 [1, 4] (L' := [(1, .pointer (some ⟨w.heap.size, 0, none⟩)), (4, .slice ao5 z5.length cp5)]) hf (by kernel_rfl) ?_
      clear hf; clear a; intro a hf
      refine wpList_nil ?_
      refine sq ?_
      refine reg ?_
      refine st tbOk 1 [1, 41] (L' := [(1, .pointer (some ⟨w.heap.size, 0, none⟩)), (41, .slice ao5 z5.length cp5)]) hf (by kernel_rfl) ?_
      clear hf; clear a; intro a hf
      have hT := of_bd hS; clear hS; obtain ⟨z6, hz6, hS⟩ := hT
      refine clV ent29 (vs := [.slice ao5 z5.length cp5, .int .u64 0, .int .i64 12]) (caps := []) hf (by kernel_rfl) (by kernel_rfl) (by kernel_rfl) (by kernel_rfl) (ref03_number_ok (b := z5) (p_x := 0) (n := 12) (hs.enter [0] rfl rfl) hz6) ?_
      clear hf; clear a; intro v w9 a hT hf; obtain ⟨ao6, cp6, F7, rfl, hr⟩ := hT
      replace hs : Sep w F R w9 F7 [.row 5 (tI .u8) (.slice ao6 z6.length cp6) z6, .box w.heap.size 31 [.int .i64 p_h.1, .int .u64 p_h.2.1, .int .u64 p_h.2.2.1, .int .i64 p_h.2.2.2]] := hs.back [0] [1] rfl rfl rfl rfl hr
      clear hr
      replace hf := Fr.keep (ks := [1, 42]) (L' := [(1, .pointer (some ⟨w.heap.size, 0, none⟩)), (42, .slice ao6 z6.length cp6)]) hf (by kernel_rfl)
      refine st tbOk 1 [1, 4] (L' := [(1, .pointer (some ⟨w.heap.size, 0, none⟩)), (4, .slice ao6 z6.length cp6)]) hf (by kernel_rfl) ?_
      clear hf; clear a; intro a hf
      refine wpList_nil ?_
      refine sq ?_
      refine reg ?_
      refine st tbOk 1 [1, 43] (L' := [(1, .pointer (some ⟨w.heap.size, 0, none⟩)), (43, .slice ao6 z6.length cp6)]) hf (by kernel_rfl) ?_
      clear hf; clear a; intro a hf
      have hT := of_bd hS; clear hS; obtain ⟨z7, hz7, hS⟩ := hT
      refine clV ent29 (vs := [.slice ao6 z6.length cp6, .int .u64 64, .int .i64 2]) (caps := []) hf (by kernel_rfl) (by kernel_rfl) (by kernel_rfl) (by kernel_rfl) (ref03_number_ok (b := z6) (p_x := 64) (n := 2) (hs.enter [0] rfl rfl) hz7) ?_
      clear hf; clear a; intro v w10 a hT hf; obtain ⟨ao7, cp7, F8, rfl, hr⟩ := hT
      replace hs : Sep w F R w10 F8 [.row 5 (tI .u8) (.slice ao7 z7.length cp7) z7, .box w.heap.size 31 [.int .i64 p_h.1, .int .u64 p_h.2.1, .int .u64 p_h.2.2.1, .int .i64 p_h.2.2.2]] := hs.back [0] [1] rfl rfl rfl rfl hr
      clear hr
      replace hf := Fr.keep (ks := [1, 44]) (L' := [(1, .pointer (some ⟨w.heap.size, 0, none⟩)), (44, .slice ao7 z7.length cp7)]) hf (by kernel_rfl)
      refine st tbOk 1 [1, 4] (L' := [(1, .pointer (some ⟨w.heap.size, 0, none⟩)), (4, .slice ao7 z7.length cp7)]) hf (by kernel_rfl) ?_
      clear hf; clear a; intro a hf
      refine wpList_nil ?_
      refine sq ?_
      refine reg ?_
      refine st tbOk 1 [1, 45] (L' := [(1, .pointer (some ⟨w.heap.size, 0, none⟩)), (45, .slice ao7 z7.length cp7)]) hf (by kernel_rfl) ?_
      clear hf; clear a; intro a hf
      have hT := of_bd hS; clear hS; obtain ⟨z8, hz8, hS⟩ := hT
      refine clV ent29 (vs := [.slice ao7 z7.length cp7, .int .u64 56, .int .i64 2]) (caps := []) hf (by kernel_rfl) (by kernel_rfl) (by kernel_rfl) (by kernel_rfl) (ref03_number_ok (b := z7) (p_x := 56) (n := 2) (hs.enter [0] rfl rfl) hz8) ?_
      clear hf; clear a; intro v w11 a hT hf; obtain ⟨ao8, cp8, F9, rfl, hr⟩ := hT
      replace hs : Sep w F R w11 F9 [.row 5 (tI .u8) (.slice ao8 z8.length cp8) z8, .box w.heap.size 31 [.int .i64 p_h.1, .int .u64 p_h.2.1, .int .u64 p_h.2.2.1, .int .i64 p_h.2.2.2]] := hs.back [0] [1] rfl rfl rfl rfl hr
      clear hr
      replace hf := Fr.keep (ks := [1, 46]) (L' := [(1, .pointer (some ⟨w.heap.size, 0, none⟩)), (46, .slice ao8 z8.length cp8)]) hf (by kernel_rfl)
      refine st tbOk 1 [1, 4] (L' := [(1, .pointer (some ⟨w.heap.size, 0, none⟩)), (4, .slice ao8 z8.length cp8)]) hf (by kernel_rfl) ?_
      clear hf; clear a; intro a hf
      refine wpList_nil ?_
      refine sq ?_
      refine reg ?_
      refine st tbOk 2 [47, 48] (L' := [(47, .slice ao8 z8.length cp8), (48, .pointer (some ⟨w.heap.size, 3, none⟩))]) hf (by kernel_rfl) ?_
      clear hf; clear a; intro a hf
      refine ldC tbOk (T := 3) (hs.cbx 1 rfl) (LeH.refl _) 3 (.int .i64 p_h.2.2.2) hf (by kernel_rfl) (by kernel_rfl) (by kernel_rfl) (by kernel_rfl) ?_
      clear hf; clear a; intro a hf
      replace hs : Sep w F R w11 F9 [.row 5 (tI .u8) (.slice ao8 z8.length cp8) z8] := hs.sel [0] rfl rfl
      replace hf := Fr.keep (ks := [47, 49]) (L' := [(47, .slice ao8 z8.length cp8), (49, .int .i64 p_h.2.2.2)]) hf (by kernel_rfl)
      refine st tbOk 1 [47, 50] (L' := [(47, .slice ao8 z8.length cp8), (50, .int .u64 (IntKind.u64.wrap p_h.2.2.2))]) hf (by kernel_rfl) ?_
      clear hf; clear a; intro a hf
      have hT := of_bd hS; clear hS; obtain ⟨z9, hz9, hS⟩ := hT
      refine clV ent29 (vs := [.slice ao8 z8.length cp8, .int .u64 (IntKind.u64.wrap p_h.2.2.2), .int .i64 2]) (caps := []) hf (by kernel_rfl) (by kernel_rfl) (by kernel_rfl) (by kernel_rfl) (ref03_number_ok (b := z8) (p_x := IntKind.u64.wrap p_h.2.2.2) (n := 2) (hs.enter [0] rfl rfl) hz9) ?_
      clear hf; clear a; intro v w12 a hT hf; obtain ⟨ao9, cp9, F10, rfl, hr⟩ := hT
      replace hs : Sep w F R w12 F10 [.row 5 (tI .u8) (.slice ao9 z9.length cp9) z9] := hs.back [0] [] rfl rfl rfl rfl hr
      clear hr
      replace hf := Fr.keep (ks := [51]) (L' := [(51, .slice ao9 z9.length cp9)]) hf (by kernel_rfl)
      refine st tbOk 1 [4] (L' := [(4, .slice ao9 z9.length cp9)]) hf (by kernel_rfl) ?_
      clear hf; clear a; intro a hf
      refine wpList_nil ?_
      refine sq ?_
      refine reg ?_
      refine st tbOk 1 [52] (L' := [(52, .slice ao9 z9.length cp9)]) hf (by kernel_rfl) ?_
      clear hf; clear a; intro a hf
      have hT := of_bd hS; clear hS; obtain ⟨z10, hz10, hS⟩ := hT
      refine clV ent29 (vs := [.slice ao9 z9.length cp9, .int .u64 0, .int .i64 6]) (caps := []) hf (by kernel_rfl) (by kernel_rfl) (by kernel_rfl) (by kernel_rfl) (ref03_number_ok (b := z9) (p_x := 0) (n := 6) (hs.enter [0] rfl rfl) hz10) ?_
      clear hf; clear a; intro v w13 a hT hf; obtain ⟨ao10, cp10, F11, rfl, hr⟩ := hT
      replace hs : Sep w F R w13 F11 [.row 5 (tI .u8) (.slice ao10 z10.length cp10) z10] := hs.back [0] [] rfl rfl rfl rfl hr
      clear hr
      replace hf := Fr.keep (ks := [53]) (L' := [(53, .slice ao10 z10.length cp10)]) hf (by kernel_rfl)
      refine st tbOk 2 [2, 3] (L' := [(2, .slice ao10 z10.length cp10), (3, .int .i64 0)]) hf (by kernel_rfl) ?_
      clear hf; clear a; intro a hf
      refine wpList_nil ?_
      have hr := Option.some.inj hS; subst hr
      refine wp_ret ?_
      exact ret_ok hf (vs := [.slice ao10 z10.length cp10, .int .i64 0]) (by kernel_rfl) ⟨ao10, cp10, _, rfl, hs.sel [0] rfl rfl⟩
  · clear hS; intro KK1 k1 hK1 hS
    refine reg ?_
    refine st tbOk 1 [1, 5] (L' := [(1, .pointer (some ⟨w.heap.size, 0, none⟩)), (5, .pointer (some ⟨w.heap.size, 0, none⟩))]) hf (by kernel_rfl) ?_
    clear hf; clear a; intro a hf
    refine ldC tbOk (T := 3) (hs.cbx 0 rfl) (LeH.refl _) 0 (.int .i64 p_h.1) hf (by kernel_rfl) (by kernel_rfl) (by kernel_rfl) (by kernel_rfl) ?_
    clear hf; clear a; intro a hf
    replace hf := Fr.keep (ks := [1, 6]) (L' := [(1, .pointer (some ⟨w.heap.size, 0, none⟩)), (6, .int .i64 p_h.1)]) hf (by kernel_rfl)
    refine st tbOk 2 [1, 8] (L' := [(1, .pointer (some ⟨w.heap.size, 0, none⟩)), (8, .bool (decide (p_h.1 < 2)))]) hf (by kernel_rfl) ?_
    clear hf; clear a; intro a hf
    rcases Bool.eq_false_or_eq_true (decide (p_h.1 < 2)) with hb1 | hb1
    · replace hS := of_t hb1 hS
      replace hf := Fr.cast (L' := [(1, .pointer (some ⟨w.heap.size, 0, none⟩)), (8, .bool true)]) hf (by rw [hb1])
      refine st tbOk 14 [1, 22] (L' := [(1, .pointer (some ⟨w.heap.size, 0, none⟩)), (22, .bool true)]) hf (by kernel_rfl) ?_
      clear hf; clear a; intro a hf
      refine wpList_nil ?_
      exact hK1 true _ _ ⟨_, hs.sel [0] rfl rfl, hf.keep (ks := [1, 22]) (by kernel_rfl)⟩ hS
    · replace hS := of_f hb1 hS
      replace hf := Fr.cast (L' := [(1, .pointer (some ⟨w.heap.size, 0, none⟩)), (8, .bool false)]) hf (by rw [hb1])
      refine st tbOk 1 [1, 8, 9] (L' := [(1, .pointer (some ⟨w.heap.size, 0, none⟩)), (8, .bool false), (9, .pointer (some ⟨w.heap.size, 0, none⟩))]) hf (by kernel_rfl) ?_
      clear hf; clear a; intro a hf
      refine ldC tbOk (T := 3) (hs.cbx 0 rfl) (LeH.refl _) 0 (.int .i64 p_h.1) hf (by kernel_rfl) (by kernel_rfl) (by kernel_rfl) (by kernel_rfl) ?_
      clear hf; clear a; intro a hf
      replace hf := Fr.keep (ks := [1, 8, 10]) (L' := [(1, .pointer (some ⟨w.heap.size, 0, none⟩)), (8, .bool false), (10, .int .i64 p_h.1)]) hf (by kernel_rfl)
      refine st tbOk 3 [1, 13] (L' := [(1, .pointer (some ⟨w.heap.size, 0, none⟩)), (13, .bool (decide (p_h.1 > 4)))]) hf (by kernel_rfl) ?_
      clear hf; clear a; intro a hf
      rcases Bool.eq_false_or_eq_true (decide (p_h.1 > 4)) with hb2 | hb2
      · replace hS := of_t hb2 hS
        replace hf := Fr.cast (L' := [(1, .pointer (some ⟨w.heap.size, 0, none⟩)), (13, .bool true)]) hf (by rw [hb2])
        refine st tbOk 9 [1, 22] (L' := [(1, .pointer (some ⟨w.heap.size, 0, none⟩)), (22, .bool true)]) hf (by kernel_rfl) ?_
        clear hf; clear a; intro a hf
        refine wpList_nil ?_
        exact hK1 true _ _ ⟨_, hs.sel [0] rfl rfl, hf.keep (ks := [1, 22]) (by kernel_rfl)⟩ hS
      · replace hS := of_f hb2 hS
        replace hf := Fr.cast (L' := [(1, .pointer (some ⟨w.heap.size, 0, none⟩)), (13, .bool false)]) hf (by rw [hb2])
        refine st tbOk 1 [1, 13, 14] (L' := [(1, .pointer (some ⟨w.heap.size, 0, none⟩)), (13, .bool false), (14, .pointer (some ⟨w.heap.size, 3, none⟩))]) hf (by kernel_rfl) ?_
        clear hf; clear a; intro a hf
        refine ldC tbOk (T := 3) (hs.cbx 0 rfl) (LeH.refl _) 3 (.int .i64 p_h.2.2.2) hf (by kernel_rfl) (by kernel_rfl) (by kernel_rfl) (by kernel_rfl) ?_
        clear hf; clear a; intro a hf
        replace hf := Fr.keep (ks := [1, 13, 15]) (L' := [(1, .pointer (some ⟨w.heap.size, 0, none⟩)), (13, .bool false), (15, .int .i64 p_h.2.2.2)]) hf (by kernel_rfl)
        refine st tbOk 3 [1, 18] (L' := [(1, .pointer (some ⟨w.heap.size, 0, none⟩)), (18, .bool (decide (p_h.2.2.2 < 0)))]) hf (by kernel_rfl) ?_
        clear hf; clear a; intro a hf
        rcases Bool.eq_false_or_eq_true (decide (p_h.2.2.2 < 0)) with hb3 | hb3
        · replace hS := of_t hb3 hS
          replace hf := Fr.cast (L' := [(1, .pointer (some ⟨w.heap.size, 0, none⟩)), (18, .bool true)]) hf (by rw [hb3])
          refine st tbOk 4 [1, 22] (L' := [(1, .pointer (some ⟨w.heap.size, 0, none⟩)), (22, .bool true)]) hf (by kernel_rfl) ?_
          clear hf; clear a; intro a hf
          refine wpList_nil ?_
          exact hK1 true _ _ ⟨_, hs.sel [0] rfl rfl, hf.keep (ks := [1, 22]) (by kernel_rfl)⟩ hS
        · replace hS := of_f hb3 hS
          replace hf := Fr.cast (L' := [(1, .pointer (some ⟨w.heap.size, 0, none⟩)), (18, .bool false)]) hf (by rw [hb3])
          refine st tbOk 1 [1, 18, 19] (L' := [(1, .pointer (some ⟨w.heap.size, 0, none⟩)), (18, .bool false), (19, .pointer (some ⟨w.heap.size, 3, none⟩))]) hf (by kernel_rfl) ?_
          clear hf; clear a; intro a hf
          refine ldC tbOk (T := 3) (hs.cbx 0 rfl) (LeH.refl _) 3 (.int .i64 p_h.2.2.2) hf (by kernel_rfl) (by kernel_rfl) (by kernel_rfl) (by kernel_rfl) ?_
          clear hf; clear a; intro a hf
          replace hf := Fr.keep (ks := [1, 18, 20]) (L' := [(1, .pointer (some ⟨w.heap.size, 0, none⟩)), (18, .bool false), (20, .int .i64 p_h.2.2.2)]) hf (by kernel_rfl)
          refine st tbOk 2 [1, 22] (L' := [(1, .pointer (some ⟨w.heap.size, 0, none⟩)), (22, .bool (decide (p_h.2.2.2 > 64)))]) hf (by kernel_rfl) ?_
          clear hf; clear a; intro a hf
          refine wpList_nil ?_
          exact hK1 (decide (p_h.2.2.2 > 64)) _ _ ⟨_, hs.sel [0] rfl rfl, hf.keep (ks := [1, 22]) (by kernel_rfl)⟩ hS

end Dm
