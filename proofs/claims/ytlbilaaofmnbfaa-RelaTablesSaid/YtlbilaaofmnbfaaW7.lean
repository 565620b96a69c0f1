/-
  The walks: a call of each Go function gives what its shallow form gives, where that form gives something; printed by a program of this repo. No condition.
-/
import Derived.Test.YtlbilaaofmnbfaaWT
import Derived.Test.YtlbilaaofmnbfaaW3
namespace Dm
open Go Go.RowKit Go.Proofs

set_option maxHeartbeats 4000000 in
theorem ref07_Table_ok {w : World} {F : SH} {b : List Int} {ao1 : Option Addr} {cp1 : Nat} (hs : Sep w F (blks [.ro (tI .u8) (.slice ao1 b.length cp1) b]) w F [.ro (tI .u8) (.slice ao1 b.length cp1) b]) {r : (List (Int × Int × Int × Int)) × Int} (hS : ref07_Table b = some r) :
    Calls Try.prog 23 [.slice ao1 b.length cp1].toArray w (Gives (fun u w' => ∃ (ao5 : Option Addr) (cp5 : Nat) (F' : SH), u = .tuple #[.slice ao5 r.1.length cp5, .int .i64 r.2] ∧ Sep w F (blks [.ro (tI .u8) (.slice ao1 b.length cp1) b]) w' F' [.row 46 ty45 (.slice ao5 r.1.length cp5) r.1])) := by
  generalize (blks [.ro (tI .u8) (.slice ao1 b.length cp1) b]) = R at hs ⊢
  unfold ref07_Table at hS
  refine fn_ok (vs := [.slice ao1 b.length cp1]) Try.func23 rfl 59 Try.ntmps23 (Nat.le_of_ble_eq_true rfl) ?_
  intro a hf
  replace hf := Fr.cast (L' := [(0, .slice ao1 b.length cp1)]) hf (by kernel_rfl)
  refine sq ?_
  refine reg ?_
  refine st tbOk 2 [0] (L' := [(0, .slice ao1 b.length cp1)]) hf (by kernel_rfl) ?_
  clear hf; clear a; intro a hf
  refine wpList_nil ?_
  refine sq ?_
  refine sq ?_
  refine reg ?_
  refine st tbOk 4 [0, 15] (L' := [(0, .slice ao1 b.length cp1), (15, .bool ((Int.tmod ((b.length : Nat) : Int) 24) != 0))]) hf (by kernel_rfl) ?_
  clear hf; clear a; intro a hf
  refine wpList_nil ?_
  refine cnd (b := (Int.tmod ((b.length : Nat) : Int) 24) != 0) hf (by kernel_rfl) (fun hb1 => ?_) (fun hb1 => ?_)
  · replace hS := of_t hb1 hS
    refine sq ?_
    refine reg ?_
    refine st tbOk 2 [2, 3] (L' := [(2, .slice none 0 0), (3, .int .i64 10)]) hf (by kernel_rfl) ?_
    clear hf; clear a; intro a hf
    refine wpList_nil ?_
    have hr := Option.some.inj hS; subst hr
    refine wp_ret ?_
    replace hs : Sep w F R w F [.row 46 ty45 (.slice none 0 0) ([] : List (Int × Int × Int × Int)), .ro (tI .u8) (.slice ao1 b.length cp1) b] := hs.addNil 46 ty45
    exact ret_ok hf (vs := [.slice none 0 0, .int .i64 10]) (by kernel_rfl) ⟨none, 0, _, rfl, hs.sel [0] rfl rfl⟩
  · replace hS := of_f hb1 hS
    refine wp_skip ?_
    refine sq ?_
    refine reg ?_
    refine st tbOk 1 [0, 4] (L' := [(0, .slice ao1 b.length cp1), (4, .slice none 0 0)]) hf (by kernel_rfl) ?_
    clear hf; clear a; intro a hf
    refine wpList_nil ?_
    refine sq ?_
    refine sq ?_
    refine reg ?_
    refine st tbOk 1 [0, 4, 5] (L' := [(0, .slice ao1 b.length cp1), (4, .slice none 0 0), (5, .int .i64 0)]) hf (by kernel_rfl) ?_
    clear hf; clear a; intro a hf
    refine wpList_nil ?_
    refine ctj (fun (s1 : List (Int × Int × Int × Int)) (a : Act) (w' : World) => ∃ (ao2 : Option Addr) (cp2 : Nat) (F1 : SH), Sep w F R w' F1 [.row 46 ty45 (.slice ao2 s1.length cp2) s1] ∧ Fr 59 [(4, .slice ao2 s1.length cp2)] a) hS ?_ ?_
    · clear hS hf hs; clear a; intro s1 a w7 hM hS
      obtain ⟨ao2, cp2, F1, hs, hf⟩ := hM
      refine sq ?_
      refine reg ?_
      refine st tbOk 3 [2, 3] (L' := [(2, .slice ao2 s1.length cp2), (3, .int .i64 0)]) hf (by kernel_rfl) ?_
      clear hf; clear a; intro a hf
      refine wpList_nil ?_
      have hr := Option.some.inj hS; subst hr
      refine wp_ret ?_
      exact ret_ok hf (vs := [.slice ao2 s1.length cp2, .int .i64 0]) (by kernel_rfl) ⟨ao2, cp2, _, rfl, hs.sel [0] rfl rfl⟩
    · clear hS; intro KK1 k1 hK1 hS
      refine blk ?_
      replace hs : Sep w F R w F [.row 46 ty45 (.slice none 0 0) ([] : List (Int × Int × Int × Int)), .ro (tI .u8) (.slice ao1 b.length cp1) b] := hs.addNil 46 ty45
      refine lp (st := ([], 0)) (fun (s2 : (List (Int × Int × Int × Int)) × Int) (a : Act) (w' : World) => ∃ (ao3 : Option Addr) (cp3 : Nat) (F2 : SH), Sep w F R w' F2 [.row 46 ty45 (.slice ao3 s2.1.length cp3) s2.1, .ro (tI .u8) (.slice ao1 b.length cp1) b] ∧ Fr 59 [(0, .slice ao1 b.length cp1), (4, .slice ao3 s2.1.length cp3), (5, .int .i64 s2.2)] a) ?_ ⟨none, 0, _, hs.sel [0, 1] rfl rfl, hf.keep (ks := [0, 4, 5]) (by kernel_rfl)⟩ hS
      clear hS hf hs; clear a
      intro rec1 KK2 hK2 s2 a w1 hM hS
      obtain ⟨ao3, cp3, F2, hs, hf⟩ := hM
      refine sq ?_
      refine sq ?_
      refine reg ?_
      refine st tbOk 4 [0, 4, 5, 19] (L' := [(0, .slice ao1 b.length cp1), (4, .slice ao3 s2.1.length cp3), (5, .int .i64 s2.2), (19, .bool (decide (s2.2 < ((b.length : Nat) : Int))))]) hf (by kernel_rfl) ?_
      clear hf; clear a; intro a hf
      refine wpList_nil ?_
      refine cnd (b := decide (s2.2 < ((b.length : Nat) : Int))) hf (by kernel_rfl) (fun hb2 => ?_) (fun hb2 => ?_)
      · replace hS := of_t hb2 hS
        refine wp_skip ?_
        refine sq ?_
        refine blk ?_
        refine sq ?_
        refine reg ?_
        refine st tbOk 3 [0, 4, 5, 23, 25] (L' := [(0, .slice ao1 b.length cp1), (4, .slice ao3 s2.1.length cp3), (5, .int .i64 s2.2), (23, .slice ao1 b.length cp1), (25, .int .u64 (IntKind.u64.wrap s2.2))]) hf (by kernel_rfl) ?_
        clear hf; clear a; intro a hf
        have hT := of_bd hS; clear hS; obtain ⟨z1, hz1, hS⟩ := hT
        refine clV ent33 (vs := [.slice ao1 b.length cp1, .int .u64 (IntKind.u64.wrap s2.2), .int .i64 8]) (caps := []) hf (by kernel_rfl) (by kernel_rfl) (by kernel_rfl) (by kernel_rfl) (ref01_Get_ok (b := b) (p_at := IntKind.u64.wrap s2.2) (n := 8) (hs.enter [1] rfl rfl) hz1) ?_
        clear hf; clear a; intro v w2 a hT hf; obtain ⟨F3, rfl, hr⟩ := hT
        replace hs : Sep w F R w2 F3 [.row 46 ty45 (.slice ao3 s2.1.length cp3) s2.1, .ro (tI .u8) (.slice ao1 b.length cp1) b] := hs.back [1] [0, 1] rfl rfl rfl rfl hr
        clear hr
        replace hf := Fr.keep (ks := [0, 4, 5, 26]) (L' := [(0, .slice ao1 b.length cp1), (4, .slice ao3 s2.1.length cp3), (5, .int .i64 s2.2), (26, .tuple #[.int .u64 z1.1, .int .i64 z1.2])]) hf (by kernel_rfl)
        refine st tbOk 5 [0, 4, 5, 6] (L' := [(0, .slice ao1 b.length cp1), (4, .slice ao3 s2.1.length cp3), (5, .int .i64 s2.2), (6, .int .u64 z1.1)]) hf (by kernel_rfl) ?_
        clear hf; clear a; intro a hf
        refine wpList_nil ?_
        refine sq ?_
        refine reg ?_
        refine st tbOk 4 [0, 4, 5, 6, 30, 33] (L' := [(0, .slice ao1 b.length cp1), (4, .slice ao3 s2.1.length cp3), (5, .int .i64 s2.2), (6, .int .u64 z1.1), (30, .slice ao1 b.length cp1), (33, .int .u64 (IntKind.u64.wrap (IntKind.i64.wrap (s2.2 + 8))))]) hf (by kernel_rfl) ?_
        clear hf; clear a; intro a hf
        have hT := of_bd hS; clear hS; obtain ⟨z2, hz2, hS⟩ := hT
        refine clV ent33 (vs := [.slice ao1 b.length cp1, .int .u64 (IntKind.u64.wrap (IntKind.i64.wrap (s2.2 + 8))), .int .i64 8]) (caps := []) hf (by kernel_rfl) (by kernel_rfl) (by kernel_rfl) (by kernel_rfl) (ref01_Get_ok (b := b) (p_at := IntKind.u64.wrap (IntKind.i64.wrap (s2.2 + 8))) (n := 8) (hs.enter [1] rfl rfl) hz2) ?_
        clear hf; clear a; intro v w3 a hT hf; obtain ⟨F4, rfl, hr⟩ := hT
        replace hs : Sep w F R w3 F4 [.row 46 ty45 (.slice ao3 s2.1.length cp3) s2.1, .ro (tI .u8) (.slice ao1 b.length cp1) b] := hs.back [1] [0, 1] rfl rfl rfl rfl hr
        clear hr
        replace hf := Fr.keep (ks := [0, 4, 5, 6, 34]) (L' := [(0, .slice ao1 b.length cp1), (4, .slice ao3 s2.1.length cp3), (5, .int .i64 s2.2), (6, .int .u64 z1.1), (34, .tuple #[.int .u64 z2.1, .int .i64 z2.2])]) hf (by kernel_rfl)
        refine st tbOk 5 [0, 4, 5, 6, 8] (L' := [(0, .slice ao1 b.length cp1), (4, .slice ao3 s2.1.length cp3), (5, .int .i64 s2.2), (6, .int .u64 z1.1), (8, .int .u64 z2.1)]) hf (by kernel_rfl) ?_
        clear hf; clear a; intro a hf
        refine wpList_nil ?_
        refine sq ?_
        refine reg ?_
        refine st tbOk 4 [0, 4, 5, 6, 8, 38, 41] (L' := [(0, .slice ao1 b.length cp1), (4, .slice ao3 s2.1.length cp3), (5, .int .i64 s2.2), (6, .int .u64 z1.1), (8, .int .u64 z2.1), (38, .slice ao1 b.length cp1), (41, .int .u64 (IntKind.u64.wrap (IntKind.i64.wrap (s2.2 + 16))))]) hf (by kernel_rfl) ?_
        clear hf; clear a; intro a hf
        have hT := of_bd hS; clear hS; obtain ⟨z3, hz3, hS⟩ := hT
        refine clV ent33 (vs := [.slice ao1 b.length cp1, .int .u64 (IntKind.u64.wrap (IntKind.i64.wrap (s2.2 + 16))), .int .i64 8]) (caps := []) hf (by kernel_rfl) (by kernel_rfl) (by kernel_rfl) (by kernel_rfl) (ref01_Get_ok (b := b) (p_at := IntKind.u64.wrap (IntKind.i64.wrap (s2.2 + 16))) (n := 8) (hs.enter [1] rfl rfl) hz3) ?_
        clear hf; clear a; intro v w4 a hT hf; obtain ⟨F5, rfl, hr⟩ := hT
        replace hs : Sep w F R w4 F5 [.row 46 ty45 (.slice ao3 s2.1.length cp3) s2.1, .ro (tI .u8) (.slice ao1 b.length cp1) b] := hs.back [1] [0, 1] rfl rfl rfl rfl hr
        clear hr
        replace hf := Fr.keep (ks := [0, 4, 5, 6, 8, 42]) (L' := [(0, .slice ao1 b.length cp1), (4, .slice ao3 s2.1.length cp3), (5, .int .i64 s2.2), (6, .int .u64 z1.1), (8, .int .u64 z2.1), (42, .tuple #[.int .u64 z3.1, .int .i64 z3.2])]) hf (by kernel_rfl)
        refine st tbOk 5 [0, 4, 5, 6, 8, 10] (L' := [(0, .slice ao1 b.length cp1), (4, .slice ao3 s2.1.length cp3), (5, .int .i64 s2.2), (6, .int .u64 z1.1), (8, .int .u64 z2.1), (10, .int .u64 z3.1)]) hf (by kernel_rfl) ?_
        clear hf; clear a; intro a hf
        refine wpList_nil ?_
        refine reg ?_
        refine st tbOk 11 [0, 5, 45, 55] (L' := [(0, .slice ao1 b.length cp1), (5, .int .i64 s2.2), (45, .slice ao3 s2.1.length cp3), (55, .agg #[.int .u64 z1.1, .int .u32 (IntKind.u32.wrap (Int.tmod z2.1 4294967296)), .int .u32 (IntKind.u32.wrap (IntKind.u64.wrap (Int.tdiv z2.1 4294967296))), .int .i64 (IntKind.i64.wrap z3.1)])]) hf (by kernel_rfl) ?_
        clear hf; clear a; intro a hf
        refine bsR tbOk u48 i46 rfl (t := ty45) (vs := [(0, .agg #[.int .u64 z1.1, .int .u32 (IntKind.u32.wrap (Int.tmod z2.1 4294967296)), .int .u32 (IntKind.u32.wrap (IntKind.u64.wrap (Int.tdiv z2.1 4294967296))), .int .i64 (IntKind.i64.wrap z3.1)])]) (cells := #[.int .u64 z1.1, .int .u32 (IntKind.u32.wrap (Int.tmod z2.1 4294967296)), .int .u32 (IntKind.u32.wrap (IntKind.u64.wrap (Int.tdiv z2.1 4294967296))), .int .i64 (IntKind.i64.wrap z3.1)]) ([(z1.1, IntKind.u32.wrap (Int.tmod z2.1 4294967296), IntKind.u32.wrap (IntKind.u64.wrap (Int.tdiv z2.1 4294967296)), IntKind.i64.wrap z3.1)] : List (Int × Int × Int × Int)) hs.le hf (by kernel_rfl) (by kernel_rfl) (by kernel_rfl) rfl (by kernel_rfl) (reps_flat _) rfl ?_
        clear hf; clear a; intro w5 a ho hx hf
        replace hs : Sep w F R w5 F5 [.row 46 ty45 (.slice (some ⟨w4.heap.size, 0, none⟩) ([(z1.1, IntKind.u32.wrap (Int.tmod z2.1 4294967296), IntKind.u32.wrap (IntKind.u64.wrap (Int.tdiv z2.1 4294967296)), IntKind.i64.wrap z3.1)] : List (Int × Int × Int × Int)).length ([(z1.1, IntKind.u32.wrap (Int.tmod z2.1 4294967296), IntKind.u32.wrap (IntKind.u64.wrap (Int.tdiv z2.1 4294967296)), IntKind.i64.wrap z3.1)] : List (Int × Int × Int × Int)).length) ([(z1.1, IntKind.u32.wrap (Int.tmod z2.1 4294967296), IntKind.u32.wrap (IntKind.u64.wrap (Int.tdiv z2.1 4294967296)), IntKind.i64.wrap z3.1)] : List (Int × Int × Int × Int)), .row 46 ty45 (.slice ao3 s2.1.length cp3) s2.1, .ro (tI .u8) (.slice ao1 b.length cp1) b] := hs.newRow ho hx
        clear ho hx
        replace hf := Fr.keep (ks := [0, 5, 45, 56]) (L' := [(0, .slice ao1 b.length cp1), (5, .int .i64 s2.2), (45, .slice ao3 s2.1.length cp3), (56, .slice (some ⟨w4.heap.size, 0, none⟩) ([(z1.1, IntKind.u32.wrap (Int.tmod z2.1 4294967296), IntKind.u32.wrap (IntKind.u64.wrap (Int.tdiv z2.1 4294967296)), IntKind.i64.wrap z3.1)] : List (Int × Int × Int × Int)).length ([(z1.1, IntKind.u32.wrap (Int.tmod z2.1 4294967296), IntKind.u32.wrap (IntKind.u64.wrap (Int.tdiv z2.1 4294967296)), IntKind.i64.wrap z3.1)] : List (Int × Int × Int × Int)).length)]) hf (by kernel_rfl)
        have hT := of_gd hS; clear hS; obtain ⟨hc1, hS⟩ := hT
        refine apR tbOk u48 i46 rfl rfl rfl rfl hs.le (hs.own 1 rfl) (hs.raW 0 rfl) hc1 hf (by kernel_rfl) (by kernel_rfl) (by kernel_rfl) (by kernel_rfl) ?_
        clear hf; clear a; intro ao4 cp4 w6 a ho hg hl hf
        replace hs : Sep w F R w6 F5 [.row 46 ty45 (.slice (some ⟨w4.heap.size, 0, none⟩) ([(z1.1, IntKind.u32.wrap (Int.tmod z2.1 4294967296), IntKind.u32.wrap (IntKind.u64.wrap (Int.tdiv z2.1 4294967296)), IntKind.i64.wrap z3.1)] : List (Int × Int × Int × Int)).length ([(z1.1, IntKind.u32.wrap (Int.tmod z2.1 4294967296), IntKind.u32.wrap (IntKind.u64.wrap (Int.tdiv z2.1 4294967296)), IntKind.i64.wrap z3.1)] : List (Int × Int × Int × Int)).length) ([(z1.1, IntKind.u32.wrap (Int.tmod z2.1 4294967296), IntKind.u32.wrap (IntKind.u64.wrap (Int.tdiv z2.1 4294967296)), IntKind.i64.wrap z3.1)] : List (Int × Int × Int × Int)), .row 46 ty45 (.slice ao4 (s2.1 ++ ([(z1.1, IntKind.u32.wrap (Int.tmod z2.1 4294967296), IntKind.u32.wrap (IntKind.u64.wrap (Int.tdiv z2.1 4294967296)), IntKind.i64.wrap z3.1)] : List (Int × Int × Int × Int))).length cp4) (s2.1 ++ ([(z1.1, IntKind.u32.wrap (Int.tmod z2.1 4294967296), IntKind.u32.wrap (IntKind.u64.wrap (Int.tdiv z2.1 4294967296)), IntKind.i64.wrap z3.1)] : List (Int × Int × Int × Int))), .ro (tI .u8) (.slice ao1 b.length cp1) b] := hs.updRow 1 rfl ho hg hl
        clear ho hg hl
        replace hs : Sep w F R w6 F5 [.row 46 ty45 (.slice ao4 (s2.1 ++ ([(z1.1, IntKind.u32.wrap (Int.tmod z2.1 4294967296), IntKind.u32.wrap (IntKind.u64.wrap (Int.tdiv z2.1 4294967296)), IntKind.i64.wrap z3.1)] : List (Int × Int × Int × Int))).length cp4) (s2.1 ++ ([(z1.1, IntKind.u32.wrap (Int.tmod z2.1 4294967296), IntKind.u32.wrap (IntKind.u64.wrap (Int.tdiv z2.1 4294967296)), IntKind.i64.wrap z3.1)] : List (Int × Int × Int × Int))), .ro (tI .u8) (.slice ao1 b.length cp1) b] := hs.sel [1, 2] rfl rfl
        replace hf := Fr.keep (ks := [0, 5, 57]) (L' := [(0, .slice ao1 b.length cp1), (5, .int .i64 s2.2), (57, .slice ao4 (s2.1 ++ ([(z1.1, IntKind.u32.wrap (Int.tmod z2.1 4294967296), IntKind.u32.wrap (IntKind.u64.wrap (Int.tdiv z2.1 4294967296)), IntKind.i64.wrap z3.1)] : List (Int × Int × Int × Int))).length cp4)]) hf (by kernel_rfl)
        refine st tbOk 1 [0, 4, 5] (L' := [(0, .slice ao1 b.length cp1), (4, .slice ao4 (s2.1 ++ ([(z1.1, IntKind.u32.wrap (Int.tmod z2.1 4294967296), IntKind.u32.wrap (IntKind.u64.wrap (Int.tdiv z2.1 4294967296)), IntKind.i64.wrap z3.1)] : List (Int × Int × Int × Int))).length cp4), (5, .int .i64 s2.2)]) hf (by kernel_rfl) ?_
        clear hf; clear a; intro a hf
        refine wpList_nil ?_
        refine reg ?_
        have hT := of_let hS; clear hS; obtain ⟨i_1, hl1, hS⟩ := hT
        refine st tbOk 3 [0, 4, 5] (L' := [(0, .slice ao1 b.length cp1), (4, .slice ao4 (s2.1 ++ ([(z1.1, IntKind.u32.wrap (Int.tmod z2.1 4294967296), IntKind.u32.wrap (IntKind.u64.wrap (Int.tdiv z2.1 4294967296)), IntKind.i64.wrap z3.1)] : List (Int × Int × Int × Int))).length cp4), (5, .int .i64 i_1)]) hf (by subst hl1; kernel_rfl) ?_
        clear hf; clear a; intro a hf
        refine wpList_nil ?_
        exact hK2 ((s2.1 ++ ([(z1.1, IntKind.u32.wrap (Int.tmod z2.1 4294967296), IntKind.u32.wrap (IntKind.u64.wrap (Int.tdiv z2.1 4294967296)), IntKind.i64.wrap z3.1)] : List (Int × Int × Int × Int))), i_1) _ _ ⟨ao4, cp4, _, hs.sel [0, 1] rfl rfl, hf.keep (ks := [0, 4, 5]) (by kernel_rfl)⟩ hS
      · replace hS := of_f hb2 hS
        refine wp_exit ?_
        exact hK1 s2.1 _ _ ⟨ao3, cp3, _, hs.sel [0] rfl rfl, hf.keep (ks := [4]) (by kernel_rfl)⟩ hS

end Dm
