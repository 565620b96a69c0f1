/-
  The walks: a call of each Go function gives what its shallow form gives, where that form gives something; printed by a program of this repo. No condition.
-/
import Derived.Test.YtlbilaaofmnbfaaWT
import Derived.Test.YtlbilaaofmnbfaaW0
namespace Dm
open Go Go.RowKit Go.Proofs

set_option maxHeartbeats 4000000 in
theorem head_row_ok {w : World} {F : SH} {fields : List (Int × Int)} {ao1 : Option Addr} {cp1 : Nat} (hs : Sep w F (blks [.ro ty61 (.slice ao1 fields.length cp1) fields]) w F [.ro ty61 (.slice ao1 fields.length cp1) fields]) {r : List Int} (hS : head_row fields = some r) :
    Calls Try.prog 28 [.slice ao1 fields.length cp1].toArray w (Gives (fun u w' => ∃ (ao11 : Option Addr) (cp11 : Nat) (F' : SH), u = .slice ao11 r.length cp11 ∧ Sep w F (blks [.ro ty61 (.slice ao1 fields.length cp1) fields]) w' F' [.row 5 (tI .u8) (.slice ao11 r.length cp11) r])) := by
  generalize (blks [.ro ty61 (.slice ao1 fields.length cp1) fields]) = R at hs ⊢
  unfold head_row at hS
  refine fn_ok (vs := [.slice ao1 fields.length cp1]) Try.func28 rfl 30 Try.ntmps28 (Nat.le_of_ble_eq_true rfl) ?_
  intro a hf
  replace hf := Fr.cast (L' := [(0, .slice ao1 fields.length cp1)]) hf (by kernel_rfl)
  refine sq ?_
  refine reg ?_
  refine st tbOk 1 [0] (L' := [(0, .slice ao1 fields.length cp1)]) hf (by kernel_rfl) ?_
  clear hf; clear a; intro a hf
  refine wpList_nil ?_
  refine sq ?_
  refine reg ?_
  refine st tbOk 1 [0, 3] (L' := [(0, .slice ao1 fields.length cp1), (3, .slice none 0 0)]) hf (by kernel_rfl) ?_
  clear hf; clear a; intro a hf
  refine wpList_nil ?_
  refine sq ?_
  refine sq ?_
  refine reg ?_
  refine st tbOk 3 [3, 8, 9, 10] (L' := [(3, .slice none 0 0), (8, .slice ao1 fields.length cp1), (9, .int .i64 ((fields.length : Nat) : Int)), (10, .int .i64 0)]) hf (by kernel_rfl) ?_
  clear hf; clear a; intro a hf
  refine wpList_nil ?_
  refine ctj (fun (s1 : List Int) (a : Act) (w' : World) => ∃ (ao2 : Option Addr) (cp2 : Nat) (F1 : SH), Sep w F R w' F1 [.row 5 (tI .u8) (.slice ao2 s1.length cp2) s1] ∧ Fr 30 [(3, .slice ao2 s1.length cp2)] a) hS ?_ ?_
  · clear hS hf hs; clear a; intro s1 a w8 hM hS
    obtain ⟨ao2, cp2, F1, hs, hf⟩ := hM
    refine sq ?_
    refine reg ?_
    refine st tbOk 2 [2] (L' := [(2, .slice ao2 s1.length cp2)]) hf (by kernel_rfl) ?_
    clear hf; clear a; intro a hf
    refine wpList_nil ?_
    have hr := Option.some.inj hS; subst hr
    refine wp_ret ?_
    exact ret_ok hf (vs := [.slice ao2 s1.length cp2]) (by kernel_rfl) ⟨ao2, cp2, _, rfl, hs.sel [0] rfl rfl⟩
  · clear hS; intro KK1 k1 hK1 hS
    refine blk ?_
    replace hs : Sep w F R w F [.row 5 (tI .u8) (.slice none 0 0) ([] : List Int), .ro ty61 (.slice ao1 fields.length cp1) fields] := hs.addNil 5 (tI .u8)
    refine lp (st := ([], 0)) (fun (s2 : (List Int) × Int) (a : Act) (w' : World) => ∃ (ao3 : Option Addr) (cp3 : Nat) (F2 : SH), Sep w F R w' F2 [.row 5 (tI .u8) (.slice ao3 s2.1.length cp3) s2.1, .ro ty61 (.slice ao1 fields.length cp1) fields] ∧ Fr 30 [(3, .slice ao3 s2.1.length cp3), (8, .slice ao1 fields.length cp1), (9, .int .i64 ((fields.length : Nat) : Int)), (10, .int .i64 s2.2)] a) ?_ ⟨none, 0, _, hs.sel [0, 1] rfl rfl, hf.keep (ks := [3, 8, 9, 10]) (by kernel_rfl)⟩ hS
    clear hS hf hs; clear a
    intro rec1 KK2 hK2 s2 a w1 hM hS
    obtain ⟨ao3, cp3, F2, hs, hf⟩ := hM
    refine sq ?_
    refine reg ?_
    refine st tbOk 1 [3, 8, 9, 10, 11] (L' := [(3, .slice ao3 s2.1.length cp3), (8, .slice ao1 fields.length cp1), (9, .int .i64 ((fields.length : Nat) : Int)), (10, .int .i64 s2.2), (11, .bool (decide (s2.2 < ((fields.length : Nat) : Int))))]) hf (by kernel_rfl) ?_
    clear hf; clear a; intro a hf
    refine wpList_nil ?_
    refine sq ?_
    refine cnd (b := decide (s2.2 < ((fields.length : Nat) : Int))) hf (by kernel_rfl) (fun hb1 => ?_) (fun hb1 => ?_)
    · replace hS := of_t hb1 hS
      refine wp_skip ?_
      refine sq ?_
      refine blk ?_
      refine sq ?_
      refine reg ?_
      have hT := of_gd hS; clear hS; obtain ⟨hc1, hS⟩ := hT
      refine ixR tbOk u71 i62 rfl rfl ((hs.ro 1 rfl).ra (LeH.refl _)) (k := .i64) (n := s2.2) hc1 hf (by kernel_rfl) (by kernel_rfl) (by kernel_rfl) (by kernel_rfl) ?_
      clear hf; clear a; intro pb1 po1 c1 a hp1 hr1 hf
      obtain rfl : c1 = [.int .i64 ((gt fields s2.2).1), .int .u64 ((gt fields s2.2).2)] := hr1
      replace hs : Sep w F R w1 F2 [.cel pb1 po1 [.int .i64 ((gt fields s2.2).1), .int .u64 ((gt fields s2.2).2)], .row 5 (tI .u8) (.slice ao3 s2.1.length cp3) s2.1, .ro ty61 (.slice ao1 fields.length cp1) fields] := hs.addCel hp1
      replace hf := Fr.keep (ks := [3, 8, 9, 10, 12]) (L' := [(3, .slice ao3 s2.1.length cp3), (8, .slice ao1 fields.length cp1), (9, .int .i64 ((fields.length : Nat) : Int)), (10, .int .i64 s2.2), (12, .pointer (some ⟨pb1, po1, none⟩))]) hf (by kernel_rfl)
      refine ldC tbOk (T := 62) (hs.ccel 0 rfl) (LeH.refl _) 0 (.agg #[.int .i64 ((gt fields s2.2).1), .int .u64 ((gt fields s2.2).2)]) hf (by kernel_rfl) (by kernel_rfl) (by kernel_rfl) (by kernel_rfl) ?_
      clear hf; clear a; intro a hf
      replace hs : Sep w F R w1 F2 [.row 5 (tI .u8) (.slice ao3 s2.1.length cp3) s2.1, .ro ty61 (.slice ao1 fields.length cp1) fields] := hs.sel [1, 2] rfl rfl
      replace hf := Fr.keep (ks := [3, 8, 9, 10, 13]) (L' := [(3, .slice ao3 s2.1.length cp3), (8, .slice ao1 fields.length cp1), (9, .int .i64 ((fields.length : Nat) : Int)), (10, .int .i64 s2.2), (13, .agg #[.int .i64 ((gt fields s2.2).1), .int .u64 ((gt fields s2.2).2)])]) hf (by kernel_rfl)
      refine al tbOk i62 [.int .i64 0, .int .u64 0] rfl (by kernel_rfl) hf (by kernel_rfl) (by kernel_rfl) ?_
      clear hf; clear a; intro w2 a hb hx _ hf
      replace hs : Sep w F R w2 F2 [.box w1.heap.size 62 [.int .i64 0, .int .u64 0], .row 5 (tI .u8) (.slice ao3 s2.1.length cp3) s2.1, .ro ty61 (.slice ao1 fields.length cp1) fields] := hs.newBox hb hx
      clear hb hx
      replace hf := Fr.keep (ks := [3, 5, 8, 9, 10, 13]) (L' := [(3, .slice ao3 s2.1.length cp3), (5, .pointer (some ⟨w1.heap.size, 0, none⟩)), (8, .slice ao1 fields.length cp1), (9, .int .i64 ((fields.length : Nat) : Int)), (10, .int .i64 s2.2), (13, .agg #[.int .i64 ((gt fields s2.2).1), .int .u64 ((gt fields s2.2).2)])]) hf (by kernel_rfl)
      refine stB tbOk i62 (hs.bx 0 rfl) 0 [.int .i64 ((gt fields s2.2).1), .int .u64 ((gt fields s2.2).2)] [.int .i64 ((gt fields s2.2).1), .int .u64 ((gt fields s2.2).2)] (v := .agg #[.int .i64 ((gt fields s2.2).1), .int .u64 ((gt fields s2.2).2)]) rfl rfl (by kernel_rfl) (by kernel_rfl) (by kernel_rfl) (by kernel_rfl) hf (by kernel_rfl) (by kernel_rfl) (by kernel_rfl) ?_
      clear hf; clear a; intro w3 a hb hg _ hf
      replace hs : Sep w F R w3 F2 [.box w1.heap.size 62 [.int .i64 ((gt fields s2.2).1), .int .u64 ((gt fields s2.2).2)], .row 5 (tI .u8) (.slice ao3 s2.1.length cp3) s2.1, .ro ty61 (.slice ao1 fields.length cp1) fields] := hs.updBox 0 rfl hb hg
      clear hb hg
      replace hf := Fr.keep (ks := [3, 5, 8, 9, 10]) (L' := [(3, .slice ao3 s2.1.length cp3), (5, .pointer (some ⟨w1.heap.size, 0, none⟩)), (8, .slice ao1 fields.length cp1), (9, .int .i64 ((fields.length : Nat) : Int)), (10, .int .i64 s2.2)]) hf (by kernel_rfl)
      refine wpList_nil ?_
      refine sq ?_
      have hT := of_gd hS; clear hS; obtain ⟨hc2, hS⟩ := hT
      have hT := of_bd hS; clear hS; obtain ⟨z1, hz1, hS⟩ := hT
      have hs0 := hs
      refine regF 13 [fun u uw => u = .pointer (some ⟨w1.heap.size, 0, none⟩),
    fun u uw => u = .int .i64 ((gt fields s2.2).1),
    fun u uw => ∃ (ao4 : Option Addr) (cp4 : Nat) (F' : SH), u = .slice ao4 (List.replicate (Int.toNat ((gt fields s2.2).1)) (0 : Int)).length cp4 ∧ Sep w3 F2 noR uw F' [.row 5 (tI .u8) (.slice ao4 (List.replicate (Int.toNat ((gt fields s2.2).1)) (0 : Int)).length cp4) (List.replicate (Int.toNat ((gt fields s2.2).1)) (0 : Int))],
    fun u uw => u = .pointer (some ⟨w1.heap.size, 0, none⟩),
    fun u uw => u = .int .i64 ((gt fields s2.2).1),
    fun u uw => u = .pointer (some ⟨w1.heap.size, 1, none⟩),
    fun u uw => u = .int .u64 ((gt fields s2.2).2),
    fun u uw => ∃ (ao6 : Option Addr) (cp6 : Nat) (F' : SH), u = .tuple #[.slice ao6 z1.1.length cp6, .int .i64 z1.2] ∧ Sep w3 F2 noR uw F' [.row 5 (tI .u8) (.slice ao6 z1.1.length cp6) z1.1],
    fun u uw => ∃ (ao7 : Option Addr) (cp7 : Nat) (F' : SH), u = .tuple #[.slice ao7 z1.1.length cp7, .int .i64 z1.2] ∧ Sep w3 F2 noR uw F' [.ro (tI .u8) (.slice ao7 z1.1.length cp7) z1.1],
    fun u uw => ∃ (ao8 : Option Addr) (cp8 : Nat) (F' : SH), u = .slice ao8 z1.1.length cp8 ∧ Sep w3 F2 noR uw F' [.ro (tI .u8) (.slice ao8 z1.1.length cp8) z1.1],
    fun u uw => u = .int .i64 z1.2,
    fun u uw => ∃ (ao9 : Option Addr) (cp9 : Nat) (F' : SH), u = .slice ao9 z1.1.length cp9 ∧ Sep w3 F2 noR uw F' [.ro (tI .u8) (.slice ao9 z1.1.length cp9) z1.1],
    fun u uw => u = .int .i64 z1.2] mixed (Fr.keep (ks := [3, 5, 8, 9, 10]) (L' := [(3, .slice ao3 s2.1.length cp3), (5, .pointer (some ⟨w1.heap.size, 0, none⟩)), (8, .slice ao1 fields.length cp1), (9, .int .i64 ((fields.length : Nat) : Int)), (10, .int .i64 s2.2)]) hf (by kernel_rfl)) (by kernel_rfl) rfl ?_ ?_ ?_
      · exact ⟨fun _ _ _ h _ => h, fun _ _ _ h _ => h, fun _ _ _ ⟨ao4, cp4, F', e, h⟩ hx => ⟨ao4, cp4, F', e, h.ext hx⟩, fun _ _ _ h _ => h, fun _ _ _ h _ => h, fun _ _ _ h _ => h, fun _ _ _ h _ => h, fun _ _ _ ⟨ao6, cp6, F', e, h⟩ hx => ⟨ao6, cp6, F', e, h.ext hx⟩, fun _ _ _ ⟨ao7, cp7, F', e, h⟩ hx => ⟨ao7, cp7, F', e, h.ext hx⟩, fun _ _ _ ⟨ao8, cp8, F', e, h⟩ hx => ⟨ao8, cp8, F', e, h.ext hx⟩, fun _ _ _ h _ => h, fun _ _ _ ⟨ao9, cp9, F', e, h⟩ hx => ⟨ao9, cp9, F', e, h.ext hx⟩, fun _ _ _ h _ => h, trivial⟩
      · clear hS hf hs; clear a
        refine ⟨?_, ?_, ?_, ?_, ?_, ?_, ?_, ?_, ?_, ?_, ?_, ?_, ?_, trivial⟩
        · intro a wf hX hf hd
          clear hd
          have hs : Sep wf (star F2 w3 wf) noR wf (star F2 w3 wf) [.ro ty61 (.slice ao1 fields.length cp1) fields] := hs0.fstart hX [2] rfl rfl
          refine st tbOk 1 [15] (L' := [(15, .pointer (some ⟨w1.heap.size, 0, none⟩))]) hf (by kernel_rfl) ?_
          clear hf; clear a; intro a hf
          exact fq_ok (d := 15) rfl hf (hs.ex fun _ h => h) hf.1
        · intro a wf hX hf hd
          have e_15 : a.tmps.getD 15 undef = .pointer (some ⟨w1.heap.size, 0, none⟩) := hd 0 15 (by kernel_rfl) (by kernel_rfl)
          replace hf : Fr 30 [(15, .pointer (some ⟨w1.heap.size, 0, none⟩)), (3, .slice ao3 s2.1.length cp3), (5, .pointer (some ⟨w1.heap.size, 0, none⟩)), (8, .slice ao1 fields.length cp1), (9, .int .i64 ((fields.length : Nat) : Int)), (10, .int .i64 s2.2)] a := ⟨e_15, hf⟩; clear e_15
          clear hd
          have hs : Sep wf (star F2 w3 wf) noR wf (star F2 w3 wf) [.ro ty61 (.slice ao1 fields.length cp1) fields] := hs0.fstart hX [2] rfl rfl
          refine ldC tbOk (T := 3) ((hs0.cbx 0 rfl).mono hX.le) (LeH.refl _) 0 (.int .i64 ((gt fields s2.2).1)) hf (by kernel_rfl) (by kernel_rfl) (by kernel_rfl) (by kernel_rfl) ?_
          clear hf; clear a; intro a hf
          exact fq_ok (d := 16) rfl hf (hs.ex fun _ h => h) hf.1
        · intro a wf hX hf hd
          have e_16 : a.tmps.getD 16 undef = .int .i64 ((gt fields s2.2).1) := hd 1 16 (by kernel_rfl) (by kernel_rfl)
          replace hf : Fr 30 [(16, .int .i64 ((gt fields s2.2).1)), (3, .slice ao3 s2.1.length cp3), (5, .pointer (some ⟨w1.heap.size, 0, none⟩)), (8, .slice ao1 fields.length cp1), (9, .int .i64 ((fields.length : Nat) : Int)), (10, .int .i64 s2.2)] a := ⟨e_16, hf⟩; clear e_16
          clear hd
          have hs : Sep wf (star F2 w3 wf) noR wf (star F2 w3 wf) [.ro ty61 (.slice ao1 fields.length cp1) fields] := hs0.fstart hX [2] rfl rfl
          refine mkR tbOk u26 i5 rfl rfl (t := (tI .u8)) rfl rfl (0 : Int) hs.le rfl (k := .i64) (k' := .i64) (n := (gt fields s2.2).1) hc2 hf (by kernel_rfl) (by kernel_rfl) (by kernel_rfl) (by kernel_rfl) ?_
          clear hf; clear a; intro w4 a ho hx hf
          replace hs : Sep wf (star F2 w3 wf) noR w4 (star F2 w3 wf) [.row 5 (tI .u8) (.slice (some ⟨wf.heap.size, 0, none⟩) (List.replicate (Int.toNat ((gt fields s2.2).1)) (0 : Int)).length (Int.toNat ((gt fields s2.2).1))) (List.replicate (Int.toNat ((gt fields s2.2).1)) (0 : Int)), .ro ty61 (.slice ao1 fields.length cp1) fields] := hs.newRow ho hx
          clear ho hx
          exact fq_ok (d := 17) rfl hf (hs.ex fun _ h => h) ⟨(some ⟨wf.heap.size, 0, none⟩), (Int.toNat ((gt fields s2.2).1)), _, hf.1, (hs.sel [0] rfl rfl).rebase hX⟩
        · intro a wf hX hf hd
          clear hd
          have hs : Sep wf (star F2 w3 wf) noR wf (star F2 w3 wf) [.ro ty61 (.slice ao1 fields.length cp1) fields] := hs0.fstart hX [2] rfl rfl
          refine st tbOk 1 [18] (L' := [(18, .pointer (some ⟨w1.heap.size, 0, none⟩))]) hf (by kernel_rfl) ?_
          clear hf; clear a; intro a hf
          exact fq_ok (d := 18) rfl hf (hs.ex fun _ h => h) hf.1
        · intro a wf hX hf hd
          have e_18 : a.tmps.getD 18 undef = .pointer (some ⟨w1.heap.size, 0, none⟩) := hd 3 18 (by kernel_rfl) (by kernel_rfl)
          replace hf : Fr 30 [(18, .pointer (some ⟨w1.heap.size, 0, none⟩)), (3, .slice ao3 s2.1.length cp3), (5, .pointer (some ⟨w1.heap.size, 0, none⟩)), (8, .slice ao1 fields.length cp1), (9, .int .i64 ((fields.length : Nat) : Int)), (10, .int .i64 s2.2)] a := ⟨e_18, hf⟩; clear e_18
          clear hd
          have hs : Sep wf (star F2 w3 wf) noR wf (star F2 w3 wf) [.ro ty61 (.slice ao1 fields.length cp1) fields] := hs0.fstart hX [2] rfl rfl
          refine ldC tbOk (T := 3) ((hs0.cbx 0 rfl).mono hX.le) (LeH.refl _) 0 (.int .i64 ((gt fields s2.2).1)) hf (by kernel_rfl) (by kernel_rfl) (by kernel_rfl) (by kernel_rfl) ?_
          clear hf; clear a; intro a hf
          exact fq_ok (d := 19) rfl hf (hs.ex fun _ h => h) hf.1
        · intro a wf hX hf hd
          clear hd
          have hs : Sep wf (star F2 w3 wf) noR wf (star F2 w3 wf) [.ro ty61 (.slice ao1 fields.length cp1) fields] := hs0.fstart hX [2] rfl rfl
          refine st tbOk 1 [20] (L' := [(20, .pointer (some ⟨w1.heap.size, 1, none⟩))]) hf (by kernel_rfl) ?_
          clear hf; clear a; intro a hf
          exact fq_ok (d := 20) rfl hf (hs.ex fun _ h => h) hf.1
        · intro a wf hX hf hd
          have e_20 : a.tmps.getD 20 undef = .pointer (some ⟨w1.heap.size, 1, none⟩) := hd 5 20 (by kernel_rfl) (by kernel_rfl)
          replace hf : Fr 30 [(20, .pointer (some ⟨w1.heap.size, 1, none⟩)), (3, .slice ao3 s2.1.length cp3), (5, .pointer (some ⟨w1.heap.size, 0, none⟩)), (8, .slice ao1 fields.length cp1), (9, .int .i64 ((fields.length : Nat) : Int)), (10, .int .i64 s2.2)] a := ⟨e_20, hf⟩; clear e_20
          clear hd
          have hs : Sep wf (star F2 w3 wf) noR wf (star F2 w3 wf) [.ro ty61 (.slice ao1 fields.length cp1) fields] := hs0.fstart hX [2] rfl rfl
          refine ldC tbOk (T := 22) ((hs0.cbx 0 rfl).mono hX.le) (LeH.refl _) 1 (.int .u64 ((gt fields s2.2).2)) hf (by kernel_rfl) (by kernel_rfl) (by kernel_rfl) (by kernel_rfl) ?_
          clear hf; clear a; intro a hf
          exact fq_ok (d := 21) rfl hf (hs.ex fun _ h => h) hf.1
        · intro a wf hX hf hd
          obtain ⟨ao4, cp4, F_17, e_17, h_17⟩ : ∃ (ao4 : Option Addr) (cp4 : Nat) (F' : SH), a.tmps.getD 17 undef = .slice ao4 (List.replicate (Int.toNat ((gt fields s2.2).1)) (0 : Int)).length cp4 ∧ Sep w3 F2 noR wf F' [.row 5 (tI .u8) (.slice ao4 (List.replicate (Int.toNat ((gt fields s2.2).1)) (0 : Int)).length cp4) (List.replicate (Int.toNat ((gt fields s2.2).1)) (0 : Int))] := hd 2 17 (by kernel_rfl) (by kernel_rfl)
          have e_19 : a.tmps.getD 19 undef = .int .i64 ((gt fields s2.2).1) := hd 4 19 (by kernel_rfl) (by kernel_rfl)
          have e_21 : a.tmps.getD 21 undef = .int .u64 ((gt fields s2.2).2) := hd 6 21 (by kernel_rfl) (by kernel_rfl)
          replace hf : Fr 30 [(17, .slice ao4 (List.replicate (Int.toNat ((gt fields s2.2).1)) (0 : Int)).length cp4), (19, .int .i64 ((gt fields s2.2).1)), (21, .int .u64 ((gt fields s2.2).2)), (3, .slice ao3 s2.1.length cp3), (5, .pointer (some ⟨w1.heap.size, 0, none⟩)), (8, .slice ao1 fields.length cp1), (9, .int .i64 ((fields.length : Nat) : Int)), (10, .int .i64 s2.2)] a := ⟨e_17, e_19, e_21, hf⟩; clear e_17 e_19 e_21
          clear hd
          have hs : Sep wf (star F2 w3 wf) noR wf (star F2 w3 wf) [.ro ty61 (.slice ao1 fields.length cp1) fields] := hs0.fstart hX [2] rfl rfl
          replace hs : Sep wf (star F2 w3 wf) noR wf (star F2 w3 wf) [.ro (tI .u8) (.slice ao4 (List.replicate (Int.toNat ((gt fields s2.2).1)) (0 : Int)).length cp4) (List.replicate (Int.toNat ((gt fields s2.2).1)) (0 : Int)), .ro ty61 (.slice ao1 fields.length cp1) fields] := hs.addStar h_17 0 rfl rfl
          clear h_17
          refine clV ent34 (vs := [.slice ao4 (List.replicate (Int.toNat ((gt fields s2.2).1)) (0 : Int)).length cp4, .int .u64 0, .int .i64 ((gt fields s2.2).1), .int .u64 ((gt fields s2.2).2)]) (caps := []) hf (by kernel_rfl) (by kernel_rfl) (by kernel_rfl) (by kernel_rfl) (octets_Set_ok (b := (List.replicate (Int.toNat ((gt fields s2.2).1)) (0 : Int))) (p_at := 0) (n := (gt fields s2.2).1) (p_x := (gt fields s2.2).2) (hs.enter [0] rfl rfl) hz1) ?_
          clear hf; clear a; intro v w5 a hT hf; obtain ⟨ao5, cp5, F3, rfl, hr⟩ := hT
          replace hs : Sep wf (star F2 w3 wf) noR w5 F3 [.row 5 (tI .u8) (.slice ao5 z1.1.length cp5) z1.1, .ro (tI .u8) (.slice ao4 (List.replicate (Int.toNat ((gt fields s2.2).1)) (0 : Int)).length cp4) (List.replicate (Int.toNat ((gt fields s2.2).1)) (0 : Int)), .ro ty61 (.slice ao1 fields.length cp1) fields] := hs.back [0] [0, 1] rfl rfl rfl rfl hr
          clear hr
          exact fq_ok (d := 22) rfl hf (hs.ex fun _ h => h) ⟨ao5, cp5, _, hf.1, (hs.sel [0] rfl rfl).rebase hX⟩
        · intro a wf hX hf hd
          obtain ⟨ao6, cp6, F_22, e_22, h_22⟩ : ∃ (ao6 : Option Addr) (cp6 : Nat) (F' : SH), a.tmps.getD 22 undef = .tuple #[.slice ao6 z1.1.length cp6, .int .i64 z1.2] ∧ Sep w3 F2 noR wf F' [.row 5 (tI .u8) (.slice ao6 z1.1.length cp6) z1.1] := hd 7 22 (by kernel_rfl) (by kernel_rfl)
          replace hf : Fr 30 [(22, .tuple #[.slice ao6 z1.1.length cp6, .int .i64 z1.2]), (3, .slice ao3 s2.1.length cp3), (5, .pointer (some ⟨w1.heap.size, 0, none⟩)), (8, .slice ao1 fields.length cp1), (9, .int .i64 ((fields.length : Nat) : Int)), (10, .int .i64 s2.2)] a := ⟨e_22, hf⟩; clear e_22
          clear hd
          have hs : Sep wf (star F2 w3 wf) noR wf (star F2 w3 wf) [.ro ty61 (.slice ao1 fields.length cp1) fields] := hs0.fstart hX [2] rfl rfl
          replace hs : Sep wf (star F2 w3 wf) noR wf (star F2 w3 wf) [.ro (tI .u8) (.slice ao6 z1.1.length cp6) z1.1, .ro ty61 (.slice ao1 fields.length cp1) fields] := hs.addStar h_22 0 rfl rfl
          clear h_22
          refine st tbOk 1 [14] (L' := [(14, .tuple #[.slice ao6 z1.1.length cp6, .int .i64 z1.2])]) hf (by kernel_rfl) ?_
          clear hf; clear a; intro a hf
          exact fq_ok (d := 14) rfl hf (hs.ex fun _ h => h) ⟨ao6, cp6, _, hf.1, (hs.sel [0] rfl rfl).rebase hX⟩
        · intro a wf hX hf hd
          obtain ⟨ao7, cp7, F_14, e_14, h_14⟩ : ∃ (ao7 : Option Addr) (cp7 : Nat) (F' : SH), a.tmps.getD 14 undef = .tuple #[.slice ao7 z1.1.length cp7, .int .i64 z1.2] ∧ Sep w3 F2 noR wf F' [.ro (tI .u8) (.slice ao7 z1.1.length cp7) z1.1] := hd 8 14 (by kernel_rfl) (by kernel_rfl)
          replace hf : Fr 30 [(14, .tuple #[.slice ao7 z1.1.length cp7, .int .i64 z1.2]), (3, .slice ao3 s2.1.length cp3), (5, .pointer (some ⟨w1.heap.size, 0, none⟩)), (8, .slice ao1 fields.length cp1), (9, .int .i64 ((fields.length : Nat) : Int)), (10, .int .i64 s2.2)] a := ⟨e_14, hf⟩; clear e_14
          clear hd
          have hs : Sep wf (star F2 w3 wf) noR wf (star F2 w3 wf) [.ro ty61 (.slice ao1 fields.length cp1) fields] := hs0.fstart hX [2] rfl rfl
          replace hs : Sep wf (star F2 w3 wf) noR wf (star F2 w3 wf) [.ro (tI .u8) (.slice ao7 z1.1.length cp7) z1.1, .ro ty61 (.slice ao1 fields.length cp1) fields] := hs.addStar h_14 0 rfl rfl
          clear h_14
          refine st tbOk 1 [23] (L' := [(23, .slice ao7 z1.1.length cp7)]) hf (by kernel_rfl) ?_
          clear hf; clear a; intro a hf
          exact fq_ok (d := 23) rfl hf (hs.ex fun _ h => h) ⟨ao7, cp7, _, hf.1, (hs.sel [0] rfl rfl).rebase hX⟩
        · intro a wf hX hf hd
          obtain ⟨ao7, cp7, F_14, e_14, h_14⟩ : ∃ (ao7 : Option Addr) (cp7 : Nat) (F' : SH), a.tmps.getD 14 undef = .tuple #[.slice ao7 z1.1.length cp7, .int .i64 z1.2] ∧ Sep w3 F2 noR wf F' [.ro (tI .u8) (.slice ao7 z1.1.length cp7) z1.1] := hd 8 14 (by kernel_rfl) (by kernel_rfl)
          replace hf : Fr 30 [(14, .tuple #[.slice ao7 z1.1.length cp7, .int .i64 z1.2]), (3, .slice ao3 s2.1.length cp3), (5, .pointer (some ⟨w1.heap.size, 0, none⟩)), (8, .slice ao1 fields.length cp1), (9, .int .i64 ((fields.length : Nat) : Int)), (10, .int .i64 s2.2)] a := ⟨e_14, hf⟩; clear e_14
          clear hd
          have hs : Sep wf (star F2 w3 wf) noR wf (star F2 w3 wf) [.ro ty61 (.slice ao1 fields.length cp1) fields] := hs0.fstart hX [2] rfl rfl
          replace hs : Sep wf (star F2 w3 wf) noR wf (star F2 w3 wf) [.ro (tI .u8) (.slice ao7 z1.1.length cp7) z1.1, .ro ty61 (.slice ao1 fields.length cp1) fields] := hs.addStar h_14 0 rfl rfl
          clear h_14
          refine st tbOk 1 [24] (L' := [(24, .int .i64 z1.2)]) hf (by kernel_rfl) ?_
          clear hf; clear a; intro a hf
          exact fq_ok (d := 24) rfl hf (hs.ex fun _ h => h) hf.1
        · intro a wf hX hf hd
          obtain ⟨ao8, cp8, F_23, e_23, h_23⟩ : ∃ (ao8 : Option Addr) (cp8 : Nat) (F' : SH), a.tmps.getD 23 undef = .slice ao8 z1.1.length cp8 ∧ Sep w3 F2 noR wf F' [.ro (tI .u8) (.slice ao8 z1.1.length cp8) z1.1] := hd 9 23 (by kernel_rfl) (by kernel_rfl)
          replace hf : Fr 30 [(23, .slice ao8 z1.1.length cp8), (3, .slice ao3 s2.1.length cp3), (5, .pointer (some ⟨w1.heap.size, 0, none⟩)), (8, .slice ao1 fields.length cp1), (9, .int .i64 ((fields.length : Nat) : Int)), (10, .int .i64 s2.2)] a := ⟨e_23, hf⟩; clear e_23
          clear hd
          have hs : Sep wf (star F2 w3 wf) noR wf (star F2 w3 wf) [.ro ty61 (.slice ao1 fields.length cp1) fields] := hs0.fstart hX [2] rfl rfl
          replace hs : Sep wf (star F2 w3 wf) noR wf (star F2 w3 wf) [.ro (tI .u8) (.slice ao8 z1.1.length cp8) z1.1, .ro ty61 (.slice ao1 fields.length cp1) fields] := hs.addStar h_23 0 rfl rfl
          clear h_23
          refine st tbOk 1 [6] (L' := [(6, .slice ao8 z1.1.length cp8)]) hf (by kernel_rfl) ?_
          clear hf; clear a; intro a hf
          exact fq_ok (d := 6) rfl hf (hs.ex fun _ h => h) ⟨ao8, cp8, _, hf.1, (hs.sel [0] rfl rfl).rebase hX⟩
        · intro a wf hX hf hd
          have e_24 : a.tmps.getD 24 undef = .int .i64 z1.2 := hd 10 24 (by kernel_rfl) (by kernel_rfl)
          replace hf : Fr 30 [(24, .int .i64 z1.2), (3, .slice ao3 s2.1.length cp3), (5, .pointer (some ⟨w1.heap.size, 0, none⟩)), (8, .slice ao1 fields.length cp1), (9, .int .i64 ((fields.length : Nat) : Int)), (10, .int .i64 s2.2)] a := ⟨e_24, hf⟩; clear e_24
          clear hd
          have hs : Sep wf (star F2 w3 wf) noR wf (star F2 w3 wf) [.ro ty61 (.slice ao1 fields.length cp1) fields] := hs0.fstart hX [2] rfl rfl
          refine st tbOk 1 [7] (L' := [(7, .int .i64 z1.2)]) hf (by kernel_rfl) ?_
          clear hf; clear a; intro a hf
          exact fq_ok (d := 7) rfl hf (hs.ex fun _ h => h) hf.1
      · clear hf hs; clear a; intro a w6 hx hf hd
        have hs : Sep w F R w6 (star F2 w3 w6) [.box w1.heap.size 62 [.int .i64 ((gt fields s2.2).1), .int .u64 ((gt fields s2.2).2)], .row 5 (tI .u8) (.slice ao3 s2.1.length cp3) s2.1, .ro ty61 (.slice ao1 fields.length cp1) fields] := hs0.starX hx
        obtain ⟨ao9, cp9, F_6, e_6, h_6⟩ : ∃ (ao9 : Option Addr) (cp9 : Nat) (F' : SH), a.tmps.getD 6 undef = .slice ao9 z1.1.length cp9 ∧ Sep w3 F2 noR w6 F' [.ro (tI .u8) (.slice ao9 z1.1.length cp9) z1.1] := hd 11 6 (by kernel_rfl) (by kernel_rfl)
        clear hd hx
        replace hs : Sep w F R w6 (star F2 w3 w6) [.ro (tI .u8) (.slice ao9 z1.1.length cp9) z1.1, .box w1.heap.size 62 [.int .i64 ((gt fields s2.2).1), .int .u64 ((gt fields s2.2).2)], .row 5 (tI .u8) (.slice ao3 s2.1.length cp3) s2.1, .ro ty61 (.slice ao1 fields.length cp1) fields] := hs.addStar h_6 0 rfl rfl
        clear h_6
        clear hs0
        replace hf : Fr 30 [(6, .slice ao9 z1.1.length cp9), (3, .slice ao3 s2.1.length cp3), (5, .pointer (some ⟨w1.heap.size, 0, none⟩)), (8, .slice ao1 fields.length cp1), (9, .int .i64 ((fields.length : Nat) : Int)), (10, .int .i64 s2.2)] a := ⟨e_6, hf⟩
        clear e_6
        replace hs : Sep w F R w6 (star F2 w3 w6) [.ro (tI .u8) (.slice ao9 z1.1.length cp9) z1.1, .row 5 (tI .u8) (.slice ao3 s2.1.length cp3) s2.1, .ro ty61 (.slice ao1 fields.length cp1) fields] := hs.sel [0, 2, 3] rfl rfl
        replace hf := Fr.keep (ks := [3, 6, 8, 9, 10]) (L' := [(3, .slice ao3 s2.1.length cp3), (6, .slice ao9 z1.1.length cp9), (8, .slice ao1 fields.length cp1), (9, .int .i64 ((fields.length : Nat) : Int)), (10, .int .i64 s2.2)]) hf (by kernel_rfl)
        refine wpList_nil ?_
        refine reg ?_
        refine st tbOk 2 [8, 9, 10, 25, 26] (L' := [(8, .slice ao1 fields.length cp1), (9, .int .i64 ((fields.length : Nat) : Int)), (10, .int .i64 s2.2), (25, .slice ao3 s2.1.length cp3), (26, .slice ao9 z1.1.length cp9)]) hf (by kernel_rfl) ?_
        clear hf; clear a; intro a hf
        have hT := of_gd hS; clear hS; obtain ⟨hc3, hS⟩ := hT
        refine apR tbOk u26 i5 rfl rfl rfl rfl hs.le (hs.own 1 rfl) (hs.raR 0 rfl) hc3 hf (by kernel_rfl) (by kernel_rfl) (by kernel_rfl) (by kernel_rfl) ?_
        clear hf; clear a; intro ao10 cp10 w7 a ho hg hl hf
        replace hs : Sep w F R w7 (star F2 w3 w6) [.ro (tI .u8) (.slice ao9 z1.1.length cp9) z1.1, .row 5 (tI .u8) (.slice ao10 (s2.1 ++ z1.1).length cp10) (s2.1 ++ z1.1), .ro ty61 (.slice ao1 fields.length cp1) fields] := hs.updRow 1 rfl ho hg hl
        clear ho hg hl
        replace hs : Sep w F R w7 (star F2 w3 w6) [.row 5 (tI .u8) (.slice ao10 (s2.1 ++ z1.1).length cp10) (s2.1 ++ z1.1), .ro ty61 (.slice ao1 fields.length cp1) fields] := hs.sel [1, 2] rfl rfl
        replace hf := Fr.keep (ks := [8, 9, 10, 27]) (L' := [(8, .slice ao1 fields.length cp1), (9, .int .i64 ((fields.length : Nat) : Int)), (10, .int .i64 s2.2), (27, .slice ao10 (s2.1 ++ z1.1).length cp10)]) hf (by kernel_rfl)
        refine st tbOk 1 [3, 8, 9, 10] (L' := [(3, .slice ao10 (s2.1 ++ z1.1).length cp10), (8, .slice ao1 fields.length cp1), (9, .int .i64 ((fields.length : Nat) : Int)), (10, .int .i64 s2.2)]) hf (by kernel_rfl) ?_
        clear hf; clear a; intro a hf
        refine wpList_nil ?_
        refine reg ?_
        refine st tbOk 2 [3, 8, 9, 10] (L' := [(3, .slice ao10 (s2.1 ++ z1.1).length cp10), (8, .slice ao1 fields.length cp1), (9, .int .i64 ((fields.length : Nat) : Int)), (10, .int .i64 (IntKind.i64.wrap (s2.2 + 1)))]) hf (by kernel_rfl) ?_
        clear hf; clear a; intro a hf
        refine wpList_nil ?_
        exact hK2 ((s2.1 ++ z1.1), IntKind.i64.wrap (s2.2 + 1)) _ _ ⟨ao10, cp10, _, hs.sel [0, 1] rfl rfl, hf.keep (ks := [3, 8, 9, 10]) (by kernel_rfl)⟩ hS
    · replace hS := of_f hb1 hS
      refine wp_exit ?_
      exact hK1 s2.1 _ _ ⟨ao3, cp3, _, hs.sel [0] rfl rfl, hf.keep (ks := [3]) (by kernel_rfl)⟩ hS

set_option maxHeartbeats 4000000 in
theorem head_Put_ok {w : World} {F : SH} {p_h : Int × Int × Int × Int}  (hs : Sep w F (blks []) w F []) {r : (List Int) × Int} (hS : head_Put p_h = some r) :
    Calls Try.prog 14 [.agg #[.int .i64 p_h.1, .int .u64 p_h.2.1, .int .u64 p_h.2.2.1, .int .i64 p_h.2.2.2]].toArray w (Gives (fun u w' => ∃ (ao4 : Option Addr) (cp4 : Nat) (F' : SH), u = .tuple #[.slice ao4 r.1.length cp4, .int .i64 r.2] ∧ Sep w F (blks []) w' F' [.row 5 (tI .u8) (.slice ao4 r.1.length cp4) r.1])) := by
  generalize (blks []) = R at hs ⊢
  unfold head_Put at hS
  refine fn_ok (vs := [.agg #[.int .i64 p_h.1, .int .u64 p_h.2.1, .int .u64 p_h.2.2.1, .int .i64 p_h.2.2.2]]) Try.func14 rfl 52 Try.ntmps14 (Nat.le_of_ble_eq_true rfl) ?_
  intro a hf
  replace hf := Fr.cast (L' := [(0, .agg #[.int .i64 p_h.1, .int .u64 p_h.2.1, .int .u64 p_h.2.2.1, .int .i64 p_h.2.2.2])]) hf (by kernel_rfl)
  refine sq ?_
  refine reg ?_
  refine bx (T := 25) [.int .i64 p_h.1, .int .u64 p_h.2.1, .int .u64 p_h.2.2.1, .int .i64 p_h.2.2.2] (v := .agg #[.int .i64 p_h.1, .int .u64 p_h.2.1, .int .u64 p_h.2.2.1, .int .i64 p_h.2.2.2]) rfl (by kernel_rfl) hf (by kernel_rfl) (by kernel_rfl) (by kernel_rfl) ?_
  clear hf; clear a; intro w1 a hb hx _ hf
  replace hs : Sep w F R w1 F [.box w.heap.size 25 [.int .i64 p_h.1, .int .u64 p_h.2.1, .int .u64 p_h.2.2.1, .int .i64 p_h.2.2.2]] := hs.newBox hb hx
  clear hb hx
  replace hf := Fr.keep (ks := [1]) (L' := [(1, .pointer (some ⟨w.heap.size, 0, none⟩))]) hf (by kernel_rfl)
  refine st tbOk 2 [1] (L' := [(1, .pointer (some ⟨w.heap.size, 0, none⟩))]) hf (by kernel_rfl) ?_
  clear hf; clear a; intro a hf
  refine wpList_nil ?_
  refine sq ?_
  refine sq ?_
  refine ctj (fun (s1 : Bool) (a : Act) (w' : World) => ∃ (F1 : SH), Sep w F R w' F1 [.box w.heap.size 25 [.int .i64 p_h.1, .int .u64 p_h.2.1, .int .u64 p_h.2.2.1, .int .i64 p_h.2.2.2]] ∧ Fr 52 [(1, .pointer (some ⟨w.heap.size, 0, none⟩)), (22, .bool s1)] a) hS ?_ ?_
  · clear hS hf hs; clear a; intro s1 a w2 hM hS
    obtain ⟨F1, hs, hf⟩ := hM
    refine cnd (b := s1) hf (by kernel_rfl) (fun hb4 => ?_) (fun hb4 => ?_)
    · replace hS := of_t hb4 hS
      refine sq ?_
      refine reg ?_
      refine st tbOk 2 [2, 3] (L' := [(2, .slice none 0 0), (3, .int .i64 1)]) hf (by kernel_rfl) ?_
      clear hf; clear a; intro a hf
      refine wpList_nil ?_
      have hr := Option.some.inj hS; subst hr
      refine wp_ret ?_
      replace hs : Sep w F R w2 F1 [.row 5 (tI .u8) (.slice none 0 0) ([] : List Int), .box w.heap.size 25 [.int .i64 p_h.1, .int .u64 p_h.2.1, .int .u64 p_h.2.2.1, .int .i64 p_h.2.2.2]] := hs.addNil 5 (tI .u8)
      exact ret_ok hf (vs := [.slice none 0 0, .int .i64 1]) (by kernel_rfl) ⟨none, 0, _, rfl, hs.sel [0] rfl rfl⟩
    · replace hS := of_f hb4 hS
      refine wp_skip ?_
      refine sq ?_
      refine reg ?_
      refine bsR tbOk u26 i5 rfl (t := (tI .u8)) (vs := [(0, .int .u8 127), (1, .int .u8 69), (2, .int .u8 76), (3, .int .u8 70), (4, .int .u8 2), (5, .int .u8 1), (6, .int .u8 1)]) (cells := #[.int .u8 127, .int .u8 69, .int .u8 76, .int .u8 70, .int .u8 2, .int .u8 1, .int .u8 1]) ([127, 69, 76, 70, 2, 1, 1] : List Int) hs.le hf (by kernel_rfl) (by kernel_rfl) (by kernel_rfl) rfl (by kernel_rfl) (reps_flat _) rfl ?_
      clear hf; clear a; intro w3 a ho hx hf
      replace hs : Sep w F R w3 F1 [.row 5 (tI .u8) (.slice (some ⟨w2.heap.size, 0, none⟩) ([127, 69, 76, 70, 2, 1, 1] : List Int).length ([127, 69, 76, 70, 2, 1, 1] : List Int).length) ([127, 69, 76, 70, 2, 1, 1] : List Int), .box w.heap.size 25 [.int .i64 p_h.1, .int .u64 p_h.2.1, .int .u64 p_h.2.2.1, .int .i64 p_h.2.2.2]] := hs.newRow ho hx
      clear ho hx
      replace hf := Fr.keep (ks := [1, 23]) (L' := [(1, .pointer (some ⟨w.heap.size, 0, none⟩)), (23, .slice (some ⟨w2.heap.size, 0, none⟩) ([127, 69, 76, 70, 2, 1, 1] : List Int).length ([127, 69, 76, 70, 2, 1, 1] : List Int).length)]) hf (by kernel_rfl)
      have hT := of_gd hS; clear hS; obtain ⟨hc1, hS⟩ := hT
      refine apZ tbOk u26 u3 i5 rfl rfl rfl (t := (tI .u8)) rfl hs.le (hs.own 0 rfl) (n := 9) (0 : Int) rfl (by kernel_rfl) (kq := .i64) hc1 hf (by kernel_rfl) (by kernel_rfl) (by kernel_rfl) (by kernel_rfl) ?_
      clear hf; clear a; intro ao1 cp1 w4 a ho hg hl hf
      replace hs : Sep w F R w4 F1 [.row 5 (tI .u8) (.slice ao1 (([127, 69, 76, 70, 2, 1, 1] : List Int) ++ List.replicate (Int.toNat 9) (0 : Int)).length cp1) (([127, 69, 76, 70, 2, 1, 1] : List Int) ++ List.replicate (Int.toNat 9) (0 : Int)), .box w.heap.size 25 [.int .i64 p_h.1, .int .u64 p_h.2.1, .int .u64 p_h.2.2.1, .int .i64 p_h.2.2.2]] := hs.updRow 0 rfl ho hg hl
      clear ho hg hl
      replace hf := Fr.keep (ks := [1, 24]) (L' := [(1, .pointer (some ⟨w.heap.size, 0, none⟩)), (24, .slice ao1 (([127, 69, 76, 70, 2, 1, 1] : List Int) ++ List.replicate (Int.toNat 9) (0 : Int)).length cp1)]) hf (by kernel_rfl)
      refine st tbOk 1 [1, 4] (L' := [(1, .pointer (some ⟨w.heap.size, 0, none⟩)), (4, .slice ao1 (([127, 69, 76, 70, 2, 1, 1] : List Int) ++ List.replicate (Int.toNat 9) (0 : Int)).length cp1)]) hf (by kernel_rfl) ?_
      clear hf; clear a; intro a hf
      refine wpList_nil ?_
      refine sq ?_
      refine reg ?_
      refine st tbOk 2 [1, 25, 26] (L' := [(1, .pointer (some ⟨w.heap.size, 0, none⟩)), (25, .slice ao1 (([127, 69, 76, 70, 2, 1, 1] : List Int) ++ List.replicate (Int.toNat 9) (0 : Int)).length cp1), (26, .pointer (some ⟨w.heap.size, 0, none⟩))]) hf (by kernel_rfl) ?_
      clear hf; clear a; intro a hf
      refine ldC tbOk (T := 3) (hs.cbx 1 rfl) (LeH.refl _) 0 (.int .i64 p_h.1) hf (by kernel_rfl) (by kernel_rfl) (by kernel_rfl) (by kernel_rfl) ?_
      clear hf; clear a; intro a hf
      replace hf := Fr.keep (ks := [1, 25, 27]) (L' := [(1, .pointer (some ⟨w.heap.size, 0, none⟩)), (25, .slice ao1 (([127, 69, 76, 70, 2, 1, 1] : List Int) ++ List.replicate (Int.toNat 9) (0 : Int)).length cp1), (27, .int .i64 p_h.1)]) hf (by kernel_rfl)
      refine st tbOk 5 [1, 25, 29, 30, 31, 32] (L' := [(1, .pointer (some ⟨w.heap.size, 0, none⟩)), (25, .slice ao1 (([127, 69, 76, 70, 2, 1, 1] : List Int) ++ List.replicate (Int.toNat 9) (0 : Int)).length cp1), (29, .agg #[.int .i64 2, .int .u64 (IntKind.u64.wrap p_h.1)]), (30, .agg #[.int .i64 2, .int .u64 19823]), (31, .agg #[.int .i64 4, .int .u64 1]), (32, .pointer (some ⟨w.heap.size, 1, none⟩))]) hf (by kernel_rfl) ?_
      clear hf; clear a; intro a hf
      refine ldC tbOk (T := 22) (hs.cbx 1 rfl) (LeH.refl _) 1 (.int .u64 p_h.2.1) hf (by kernel_rfl) (by kernel_rfl) (by kernel_rfl) (by kernel_rfl) ?_
      clear hf; clear a; intro a hf
      replace hf := Fr.keep (ks := [1, 25, 29, 30, 31, 33]) (L' := [(1, .pointer (some ⟨w.heap.size, 0, none⟩)), (25, .slice ao1 (([127, 69, 76, 70, 2, 1, 1] : List Int) ++ List.replicate (Int.toNat 9) (0 : Int)).length cp1), (29, .agg #[.int .i64 2, .int .u64 (IntKind.u64.wrap p_h.1)]), (30, .agg #[.int .i64 2, .int .u64 19823]), (31, .agg #[.int .i64 4, .int .u64 1]), (33, .int .u64 p_h.2.1)]) hf (by kernel_rfl)
      refine st tbOk 2 [1, 25, 29, 30, 31, 34, 35] (L' := [(1, .pointer (some ⟨w.heap.size, 0, none⟩)), (25, .slice ao1 (([127, 69, 76, 70, 2, 1, 1] : List Int) ++ List.replicate (Int.toNat 9) (0 : Int)).length cp1), (29, .agg #[.int .i64 2, .int .u64 (IntKind.u64.wrap p_h.1)]), (30, .agg #[.int .i64 2, .int .u64 19823]), (31, .agg #[.int .i64 4, .int .u64 1]), (34, .agg #[.int .i64 8, .int .u64 p_h.2.1]), (35, .pointer (some ⟨w.heap.size, 2, none⟩))]) hf (by kernel_rfl) ?_
      clear hf; clear a; intro a hf
      refine ldC tbOk (T := 22) (hs.cbx 1 rfl) (LeH.refl _) 2 (.int .u64 p_h.2.2.1) hf (by kernel_rfl) (by kernel_rfl) (by kernel_rfl) (by kernel_rfl) ?_
      clear hf; clear a; intro a hf
      replace hf := Fr.keep (ks := [1, 25, 29, 30, 31, 34, 36]) (L' := [(1, .pointer (some ⟨w.heap.size, 0, none⟩)), (25, .slice ao1 (([127, 69, 76, 70, 2, 1, 1] : List Int) ++ List.replicate (Int.toNat 9) (0 : Int)).length cp1), (29, .agg #[.int .i64 2, .int .u64 (IntKind.u64.wrap p_h.1)]), (30, .agg #[.int .i64 2, .int .u64 19823]), (31, .agg #[.int .i64 4, .int .u64 1]), (34, .agg #[.int .i64 8, .int .u64 p_h.2.1]), (36, .int .u64 p_h.2.2.1)]) hf (by kernel_rfl)
      refine st tbOk 6 [25, 29, 30, 31, 34, 37, 38, 39, 40, 41, 42] (L' := [(25, .slice ao1 (([127, 69, 76, 70, 2, 1, 1] : List Int) ++ List.replicate (Int.toNat 9) (0 : Int)).length cp1), (29, .agg #[.int .i64 2, .int .u64 (IntKind.u64.wrap p_h.1)]), (30, .agg #[.int .i64 2, .int .u64 19823]), (31, .agg #[.int .i64 4, .int .u64 1]), (34, .agg #[.int .i64 8, .int .u64 p_h.2.1]), (37, .agg #[.int .i64 8, .int .u64 p_h.2.2.1]), (38, .agg #[.int .i64 8, .int .u64 0]), (39, .agg #[.int .i64 4, .int .u64 0]), (40, .agg #[.int .i64 2, .int .u64 64]), (41, .agg #[.int .i64 2, .int .u64 56]), (42, .pointer (some ⟨w.heap.size, 3, none⟩))]) hf (by kernel_rfl) ?_
      clear hf; clear a; intro a hf
      refine ldC tbOk (T := 3) (hs.cbx 1 rfl) (LeH.refl _) 3 (.int .i64 p_h.2.2.2) hf (by kernel_rfl) (by kernel_rfl) (by kernel_rfl) (by kernel_rfl) ?_
      clear hf; clear a; intro a hf
      replace hs : Sep w F R w4 F1 [.row 5 (tI .u8) (.slice ao1 (([127, 69, 76, 70, 2, 1, 1] : List Int) ++ List.replicate (Int.toNat 9) (0 : Int)).length cp1) (([127, 69, 76, 70, 2, 1, 1] : List Int) ++ List.replicate (Int.toNat 9) (0 : Int))] := hs.sel [0] rfl rfl
      replace hf := Fr.keep (ks := [25, 29, 30, 31, 34, 37, 38, 39, 40, 41, 43]) (L' := [(25, .slice ao1 (([127, 69, 76, 70, 2, 1, 1] : List Int) ++ List.replicate (Int.toNat 9) (0 : Int)).length cp1), (29, .agg #[.int .i64 2, .int .u64 (IntKind.u64.wrap p_h.1)]), (30, .agg #[.int .i64 2, .int .u64 19823]), (31, .agg #[.int .i64 4, .int .u64 1]), (34, .agg #[.int .i64 8, .int .u64 p_h.2.1]), (37, .agg #[.int .i64 8, .int .u64 p_h.2.2.1]), (38, .agg #[.int .i64 8, .int .u64 0]), (39, .agg #[.int .i64 4, .int .u64 0]), (40, .agg #[.int .i64 2, .int .u64 64]), (41, .agg #[.int .i64 2, .int .u64 56]), (43, .int .i64 p_h.2.2.2)]) hf (by kernel_rfl)
      refine st tbOk 5 [25, 29, 30, 31, 34, 37, 38, 39, 40, 41, 45, 46, 47, 48] (L' := [(25, .slice ao1 (([127, 69, 76, 70, 2, 1, 1] : List Int) ++ List.replicate (Int.toNat 9) (0 : Int)).length cp1), (29, .agg #[.int .i64 2, .int .u64 (IntKind.u64.wrap p_h.1)]), (30, .agg #[.int .i64 2, .int .u64 19823]), (31, .agg #[.int .i64 4, .int .u64 1]), (34, .agg #[.int .i64 8, .int .u64 p_h.2.1]), (37, .agg #[.int .i64 8, .int .u64 p_h.2.2.1]), (38, .agg #[.int .i64 8, .int .u64 0]), (39, .agg #[.int .i64 4, .int .u64 0]), (40, .agg #[.int .i64 2, .int .u64 64]), (41, .agg #[.int .i64 2, .int .u64 56]), (45, .agg #[.int .i64 2, .int .u64 (IntKind.u64.wrap p_h.2.2.2)]), (46, .agg #[.int .i64 2, .int .u64 0]), (47, .agg #[.int .i64 2, .int .u64 0]), (48, .agg #[.int .i64 2, .int .u64 0])]) hf (by kernel_rfl) ?_
      clear hf; clear a; intro a hf
      refine bsR tbOk u71 i62 rfl (t := ty61) (vs := [(0, .agg #[.int .i64 2, .int .u64 (IntKind.u64.wrap p_h.1)]), (1, .agg #[.int .i64 2, .int .u64 19823]), (2, .agg #[.int .i64 4, .int .u64 1]), (3, .agg #[.int .i64 8, .int .u64 p_h.2.1]), (4, .agg #[.int .i64 8, .int .u64 p_h.2.2.1]), (5, .agg #[.int .i64 8, .int .u64 0]), (6, .agg #[.int .i64 4, .int .u64 0]), (7, .agg #[.int .i64 2, .int .u64 64]), (8, .agg #[.int .i64 2, .int .u64 56]), (9, .agg #[.int .i64 2, .int .u64 (IntKind.u64.wrap p_h.2.2.2)]), (10, .agg #[.int .i64 2, .int .u64 0]), (11, .agg #[.int .i64 2, .int .u64 0]), (12, .agg #[.int .i64 2, .int .u64 0])]) (cells := #[.int .i64 2, .int .u64 (IntKind.u64.wrap p_h.1), .int .i64 2, .int .u64 19823, .int .i64 4, .int .u64 1, .int .i64 8, .int .u64 p_h.2.1, .int .i64 8, .int .u64 p_h.2.2.1, .int .i64 8, .int .u64 0, .int .i64 4, .int .u64 0, .int .i64 2, .int .u64 64, .int .i64 2, .int .u64 56, .int .i64 2, .int .u64 (IntKind.u64.wrap p_h.2.2.2), .int .i64 2, .int .u64 0, .int .i64 2, .int .u64 0, .int .i64 2, .int .u64 0]) ([(2, IntKind.u64.wrap p_h.1), (2, 19823), (4, 1), (8, p_h.2.1), (8, p_h.2.2.1), (8, 0), (4, 0), (2, 64), (2, 56), (2, IntKind.u64.wrap p_h.2.2.2), (2, 0), (2, 0), (2, 0)] : List (Int × Int)) hs.le hf (by kernel_rfl) (by kernel_rfl) (by kernel_rfl) rfl (by kernel_rfl) (reps_flat _) rfl ?_
      clear hf; clear a; intro w5 a ho hx hf
      replace hs : Sep w F R w5 F1 [.row 62 ty61 (.slice (some ⟨w4.heap.size, 0, none⟩) ([(2, IntKind.u64.wrap p_h.1), (2, 19823), (4, 1), (8, p_h.2.1), (8, p_h.2.2.1), (8, 0), (4, 0), (2, 64), (2, 56), (2, IntKind.u64.wrap p_h.2.2.2), (2, 0), (2, 0), (2, 0)] : List (Int × Int)).length ([(2, IntKind.u64.wrap p_h.1), (2, 19823), (4, 1), (8, p_h.2.1), (8, p_h.2.2.1), (8, 0), (4, 0), (2, 64), (2, 56), (2, IntKind.u64.wrap p_h.2.2.2), (2, 0), (2, 0), (2, 0)] : List (Int × Int)).length) ([(2, IntKind.u64.wrap p_h.1), (2, 19823), (4, 1), (8, p_h.2.1), (8, p_h.2.2.1), (8, 0), (4, 0), (2, 64), (2, 56), (2, IntKind.u64.wrap p_h.2.2.2), (2, 0), (2, 0), (2, 0)] : List (Int × Int)), .row 5 (tI .u8) (.slice ao1 (([127, 69, 76, 70, 2, 1, 1] : List Int) ++ List.replicate (Int.toNat 9) (0 : Int)).length cp1) (([127, 69, 76, 70, 2, 1, 1] : List Int) ++ List.replicate (Int.toNat 9) (0 : Int))] := hs.newRow ho hx
      clear ho hx
      replace hf := Fr.keep (ks := [25, 49]) (L' := [(25, .slice ao1 (([127, 69, 76, 70, 2, 1, 1] : List Int) ++ List.replicate (Int.toNat 9) (0 : Int)).length cp1), (49, .slice (some ⟨w4.heap.size, 0, none⟩) ([(2, IntKind.u64.wrap p_h.1), (2, 19823), (4, 1), (8, p_h.2.1), (8, p_h.2.2.1), (8, 0), (4, 0), (2, 64), (2, 56), (2, IntKind.u64.wrap p_h.2.2.2), (2, 0), (2, 0), (2, 0)] : List (Int × Int)).length ([(2, IntKind.u64.wrap p_h.1), (2, 19823), (4, 1), (8, p_h.2.1), (8, p_h.2.2.1), (8, 0), (4, 0), (2, 64), (2, 56), (2, IntKind.u64.wrap p_h.2.2.2), (2, 0), (2, 0), (2, 0)] : List (Int × Int)).length)]) hf (by kernel_rfl)
      have hT := of_bd hS; clear hS; obtain ⟨z1, hz1, hS⟩ := hT
      refine clV ent28 (vs := [.slice (some ⟨w4.heap.size, 0, none⟩) ([(2, IntKind.u64.wrap p_h.1), (2, 19823), (4, 1), (8, p_h.2.1), (8, p_h.2.2.1), (8, 0), (4, 0), (2, 64), (2, 56), (2, IntKind.u64.wrap p_h.2.2.2), (2, 0), (2, 0), (2, 0)] : List (Int × Int)).length ([(2, IntKind.u64.wrap p_h.1), (2, 19823), (4, 1), (8, p_h.2.1), (8, p_h.2.2.1), (8, 0), (4, 0), (2, 64), (2, 56), (2, IntKind.u64.wrap p_h.2.2.2), (2, 0), (2, 0), (2, 0)] : List (Int × Int)).length]) (caps := []) hf (by kernel_rfl) (by kernel_rfl) (by kernel_rfl) (by kernel_rfl) (head_row_ok (fields := ([(2, IntKind.u64.wrap p_h.1), (2, 19823), (4, 1), (8, p_h.2.1), (8, p_h.2.2.1), (8, 0), (4, 0), (2, 64), (2, 56), (2, IntKind.u64.wrap p_h.2.2.2), (2, 0), (2, 0), (2, 0)] : List (Int × Int))) (hs.lend [0] [] rfl rfl rfl rfl rfl) hz1) ?_
      clear hf; clear a; intro v w6 a hT hf; obtain ⟨ao2, cp2, F2, rfl, hr⟩ := hT
      replace hs : Sep w F R w6 F1 [.row 5 (tI .u8) (.slice ao2 z1.length cp2) z1, .row 62 ty61 (.slice (some ⟨w4.heap.size, 0, none⟩) ([(2, IntKind.u64.wrap p_h.1), (2, 19823), (4, 1), (8, p_h.2.1), (8, p_h.2.2.1), (8, 0), (4, 0), (2, 64), (2, 56), (2, IntKind.u64.wrap p_h.2.2.2), (2, 0), (2, 0), (2, 0)] : List (Int × Int)).length ([(2, IntKind.u64.wrap p_h.1), (2, 19823), (4, 1), (8, p_h.2.1), (8, p_h.2.2.1), (8, 0), (4, 0), (2, 64), (2, 56), (2, IntKind.u64.wrap p_h.2.2.2), (2, 0), (2, 0), (2, 0)] : List (Int × Int)).length) ([(2, IntKind.u64.wrap p_h.1), (2, 19823), (4, 1), (8, p_h.2.1), (8, p_h.2.2.1), (8, 0), (4, 0), (2, 64), (2, 56), (2, IntKind.u64.wrap p_h.2.2.2), (2, 0), (2, 0), (2, 0)] : List (Int × Int)), .row 5 (tI .u8) (.slice ao1 (([127, 69, 76, 70, 2, 1, 1] : List Int) ++ List.replicate (Int.toNat 9) (0 : Int)).length cp1) (([127, 69, 76, 70, 2, 1, 1] : List Int) ++ List.replicate (Int.toNat 9) (0 : Int))] := hs.backL [0] [] [0, 1] rfl rfl rfl rfl rfl rfl hr ⟨(flat_I .u8), trivial⟩
      clear hr
      replace hs : Sep w F R w6 F1 [.row 5 (tI .u8) (.slice ao2 z1.length cp2) z1, .row 5 (tI .u8) (.slice ao1 (([127, 69, 76, 70, 2, 1, 1] : List Int) ++ List.replicate (Int.toNat 9) (0 : Int)).length cp1) (([127, 69, 76, 70, 2, 1, 1] : List Int) ++ List.replicate (Int.toNat 9) (0 : Int))] := hs.sel [0, 2] rfl rfl
      replace hf := Fr.keep (ks := [25, 50]) (L' := [(25, .slice ao1 (([127, 69, 76, 70, 2, 1, 1] : List Int) ++ List.replicate (Int.toNat 9) (0 : Int)).length cp1), (50, .slice ao2 z1.length cp2)]) hf (by kernel_rfl)
      have hT := of_gd hS; clear hS; obtain ⟨hc2, hS⟩ := hT
      refine apR tbOk u26 i5 rfl rfl rfl rfl hs.le (hs.own 1 rfl) (hs.raW 0 rfl) hc2 hf (by kernel_rfl) (by kernel_rfl) (by kernel_rfl) (by kernel_rfl) ?_
      clear hf; clear a; intro ao3 cp3 w7 a ho hg hl hf
      replace hs : Sep w F R w7 F1 [.row 5 (tI .u8) (.slice ao2 z1.length cp2) z1, .row 5 (tI .u8) (.slice ao3 ((([127, 69, 76, 70, 2, 1, 1] : List Int) ++ List.replicate (Int.toNat 9) (0 : Int)) ++ z1).length cp3) ((([127, 69, 76, 70, 2, 1, 1] : List Int) ++ List.replicate (Int.toNat 9) (0 : Int)) ++ z1)] := hs.updRow 1 rfl ho hg hl
      clear ho hg hl
      replace hs : Sep w F R w7 F1 [.row 5 (tI .u8) (.slice ao3 ((([127, 69, 76, 70, 2, 1, 1] : List Int) ++ List.replicate (Int.toNat 9) (0 : Int)) ++ z1).length cp3) ((([127, 69, 76, 70, 2, 1, 1] : List Int) ++ List.replicate (Int.toNat 9) (0 : Int)) ++ z1)] := hs.sel [1] rfl rfl
      replace hf := Fr.keep (ks := [51]) (L' := [(51, .slice ao3 ((([127, 69, 76, 70, 2, 1, 1] : List Int) ++ List.replicate (Int.toNat 9) (0 : Int)) ++ z1).length cp3)]) hf (by kernel_rfl)
      refine st tbOk 2 [2, 3] (L' := [(2, .slice ao3 ((([127, 69, 76, 70, 2, 1, 1] : List Int) ++ List.replicate (Int.toNat 9) (0 : Int)) ++ z1).length cp3), (3, .int .i64 0)]) hf (by kernel_rfl) ?_
      clear hf; clear a; intro a hf
      refine wpList_nil ?_
      have hr := Option.some.inj hS; subst hr
      refine wp_ret ?_
      exact ret_ok hf (vs := [.slice ao3 ((([127, 69, 76, 70, 2, 1, 1] : List Int) ++ List.replicate (Int.toNat 9) (0 : Int)) ++ z1).length cp3, .int .i64 0]) (by kernel_rfl) ⟨ao3, cp3, _, rfl, hs.sel [0] rfl rfl⟩
  · clear hS; intro KK1 k1 hK1 hS
    refine reg ?_
    refine st tbOk 1 [1, 5] (L' := [(1, .pointer (some ⟨w.heap.size, 0, none⟩)), (5, .pointer (some ⟨w.heap.size, 0, none⟩))]) hf (by kernel_rfl) ?_
    clear hf; clear a; intro a hf
    refine ldC tbOk (T := 3) (hs.cbx 0 rfl) (LeH.refl _) 0 (.int .i64 p_h.1) hf (by kernel_rfl) (by kernel_rfl) (by kernel_rfl) (by kernel_rfl) ?_
    clear hf; clear a; intro a hf
    replace hf := Fr.keep (ks := [1, 6]) (L' := [(1, .pointer (some ⟨w.heap.size, 0, none⟩)), (6, .int .i64 p_h.1)]) hf (by kernel_rfl)
    refine st tbOk 2 [1, 8] (L' := [(1, .pointer (some ⟨w.heap.size, 0, none⟩)), (8, .bool (decide (p_h.1 < 2)))]) hf (by kernel_rfl) ?_
    clear hf; clear a; intro a hf
    rcases Bool.eq_false_or_eq_true (decide (p_h.1 < 2)) with hb1 | hb1
    · replace hS := of_t hb1 hS
      replace hf := Fr.cast (L' := [(1, .pointer (some ⟨w.heap.size, 0, none⟩)), (8, .bool true)]) hf (by rw [hb1])
      refine st tbOk 14 [1, 22] (L' := [(1, .pointer (some ⟨w.heap.size, 0, none⟩)), (22, .bool true)]) hf (by kernel_rfl) ?_
      clear hf; clear a; intro a hf
      refine wpList_nil ?_
      exact hK1 true _ _ ⟨_, hs.sel [0] rfl rfl, hf.keep (ks := [1, 22]) (by kernel_rfl)⟩ hS
    · replace hS := of_f hb1 hS
      replace hf := Fr.cast (L' := [(1, .pointer (some ⟨w.heap.size, 0, none⟩)), (8, .bool false)]) hf (by rw [hb1])
      refine st tbOk 1 [1, 8, 9] (L' := [(1, .pointer (some ⟨w.heap.size, 0, none⟩)), (8, .bool false), (9, .pointer (some ⟨w.heap.size, 0, none⟩))]) hf (by kernel_rfl) ?_
      clear hf; clear a; intro a hf
      refine ldC tbOk (T := 3) (hs.cbx 0 rfl) (LeH.refl _) 0 (.int .i64 p_h.1) hf (by kernel_rfl) (by kernel_rfl) (by kernel_rfl) (by kernel_rfl) ?_
      clear hf; clear a; intro a hf
      replace hf := Fr.keep (ks := [1, 8, 10]) (L' := [(1, .pointer (some ⟨w.heap.size, 0, none⟩)), (8, .bool false), (10, .int .i64 p_h.1)]) hf (by kernel_rfl)
      refine st tbOk 3 [1, 13] (L' := [(1, .pointer (some ⟨w.heap.size, 0, none⟩)), (13, .bool (decide (p_h.1 > 4)))]) hf (by kernel_rfl) ?_
      clear hf; clear a; intro a hf
      rcases Bool.eq_false_or_eq_true (decide (p_h.1 > 4)) with hb2 | hb2
      · replace hS := of_t hb2 hS
        replace hf := Fr.cast (L' := [(1, .pointer (some ⟨w.heap.size, 0, none⟩)), (13, .bool true)]) hf (by rw [hb2])
        refine st tbOk 9 [1, 22] (L' := [(1, .pointer (some ⟨w.heap.size, 0, none⟩)), (22, .bool true)]) hf (by kernel_rfl) ?_
        clear hf; clear a; intro a hf
        refine wpList_nil ?_
        exact hK1 true _ _ ⟨_, hs.sel [0] rfl rfl, hf.keep (ks := [1, 22]) (by kernel_rfl)⟩ hS
      · replace hS := of_f hb2 hS
        replace hf := Fr.cast (L' := [(1, .pointer (some ⟨w.heap.size, 0, none⟩)), (13, .bool false)]) hf (by rw [hb2])
        refine st tbOk 1 [1, 13, 14] (L' := [(1, .pointer (some ⟨w.heap.size, 0, none⟩)), (13, .bool false), (14, .pointer (some ⟨w.heap.size, 3, none⟩))]) hf (by kernel_rfl) ?_
        clear hf; clear a; intro a hf
        refine ldC tbOk (T := 3) (hs.cbx 0 rfl) (LeH.refl _) 3 (.int .i64 p_h.2.2.2) hf (by kernel_rfl) (by kernel_rfl) (by kernel_rfl) (by kernel_rfl) ?_
        clear hf; clear a; intro a hf
        replace hf := Fr.keep (ks := [1, 13, 15]) (L' := [(1, .pointer (some ⟨w.heap.size, 0, none⟩)), (13, .bool false), (15, .int .i64 p_h.2.2.2)]) hf (by kernel_rfl)
        refine st tbOk 3 [1, 18] (L' := [(1, .pointer (some ⟨w.heap.size, 0, none⟩)), (18, .bool (decide (p_h.2.2.2 < 0)))]) hf (by kernel_rfl) ?_
        clear hf; clear a; intro a hf
        rcases Bool.eq_false_or_eq_true (decide (p_h.2.2.2 < 0)) with hb3 | hb3
        · replace hS := of_t hb3 hS
          replace hf := Fr.cast (L' := [(1, .pointer (some ⟨w.heap.size, 0, none⟩)), (18, .bool true)]) hf (by rw [hb3])
          refine st tbOk 4 [1, 22] (L' := [(1, .pointer (some ⟨w.heap.size, 0, none⟩)), (22, .bool true)]) hf (by kernel_rfl) ?_
          clear hf; clear a; intro a hf
          refine wpList_nil ?_
          exact hK1 true _ _ ⟨_, hs.sel [0] rfl rfl, hf.keep (ks := [1, 22]) (by kernel_rfl)⟩ hS
        · replace hS := of_f hb3 hS
          replace hf := Fr.cast (L' := [(1, .pointer (some ⟨w.heap.size, 0, none⟩)), (18, .bool false)]) hf (by rw [hb3])
          refine st tbOk 1 [1, 18, 19] (L' := [(1, .pointer (some ⟨w.heap.size, 0, none⟩)), (18, .bool false), (19, .pointer (some ⟨w.heap.size, 3, none⟩))]) hf (by kernel_rfl) ?_
          clear hf; clear a; intro a hf
          refine ldC tbOk (T := 3) (hs.cbx 0 rfl) (LeH.refl _) 3 (.int .i64 p_h.2.2.2) hf (by kernel_rfl) (by kernel_rfl) (by kernel_rfl) (by kernel_rfl) ?_
          clear hf; clear a; intro a hf
          replace hf := Fr.keep (ks := [1, 18, 20]) (L' := [(1, .pointer (some ⟨w.heap.size, 0, none⟩)), (18, .bool false), (20, .int .i64 p_h.2.2.2)]) hf (by kernel_rfl)
          refine st tbOk 2 [1, 22] (L' := [(1, .pointer (some ⟨w.heap.size, 0, none⟩)), (22, .bool (decide (p_h.2.2.2 > 64)))]) hf (by kernel_rfl) ?_
          clear hf; clear a; intro a hf
          refine wpList_nil ?_
          exact hK1 (decide (p_h.2.2.2 > 64)) _ _ ⟨_, hs.sel [0] rfl rfl, hf.keep (ks := [1, 22]) (by kernel_rfl)⟩ hS

set_option maxHeartbeats 4000000 in
theorem head_Get_1_ok {w : World} {F : SH} {place : Int} {n : Int} {q_2 : List Int} {ao1 : Option Addr} {cp1 : Nat} {b1 : Nat} (hs : Sep w F (blks [.cel b1 0 [.slice ao1 q_2.length cp1], .ro (tI .u8) (.slice ao1 q_2.length cp1) q_2]) w F [.cel b1 0 [.slice ao1 q_2.length cp1], .ro (tI .u8) (.slice ao1 q_2.length cp1) q_2]) {r : Int} (hS : head_Get_1 place n q_2 = some r) :
    Calls Try.prog 30 [.int .u64 place, .int .i64 n, .pointer (some ⟨b1, 0, none⟩)].toArray w (Gives (fun u w' => ∃ (F' : SH), u = .int .u64 r ∧ Sep w F (blks [.cel b1 0 [.slice ao1 q_2.length cp1], .ro (tI .u8) (.slice ao1 q_2.length cp1) q_2]) w' F' [])) := by
  generalize (blks [.cel b1 0 [.slice ao1 q_2.length cp1], .ro (tI .u8) (.slice ao1 q_2.length cp1) q_2]) = R at hs ⊢
  unfold head_Get_1 at hS
  refine fn_ok (vs := [.int .u64 place, .int .i64 n, .pointer (some ⟨b1, 0, none⟩)]) Try.func30 rfl 16 Try.ntmps30 (Nat.le_of_ble_eq_true rfl) ?_
  intro a hf
  replace hf := Fr.cast (L' := [(0, .int .u64 place), (1, .int .i64 n), (2, .pointer (some ⟨b1, 0, none⟩))]) hf (by kernel_rfl)
  refine sq ?_
  refine reg ?_
  refine st tbOk 1 [0, 1, 2] (L' := [(0, .int .u64 place), (1, .int .i64 n), (2, .pointer (some ⟨b1, 0, none⟩))]) hf (by kernel_rfl) ?_
  clear hf; clear a; intro a hf
  refine wpList_nil ?_
  refine sq ?_
  refine reg ?_
  refine ldC tbOk (T := 26) (hs.ccel 0 rfl) (LeH.refl _) 0 (.slice ao1 q_2.length cp1) hf (by kernel_rfl) (by kernel_rfl) (by kernel_rfl) (by kernel_rfl) ?_
  clear hf; clear a; intro a hf
  replace hs : Sep w F R w F [.ro (tI .u8) (.slice ao1 q_2.length cp1) q_2] := hs.sel [1] rfl rfl
  replace hf := Fr.keep (ks := [0, 1, 9]) (L' := [(0, .int .u64 place), (1, .int .i64 n), (9, .slice ao1 q_2.length cp1)]) hf (by kernel_rfl)
  refine st tbOk 2 [9, 10, 11] (L' := [(9, .slice ao1 q_2.length cp1), (10, .int .u64 place), (11, .int .i64 n)]) hf (by kernel_rfl) ?_
  clear hf; clear a; intro a hf
  have hT := of_bd hS; clear hS; obtain ⟨z1, hz1, hS⟩ := hT
  refine clV ent31 (vs := [.slice ao1 q_2.length cp1, .int .u64 place, .int .i64 n]) (caps := []) hf (by kernel_rfl) (by kernel_rfl) (by kernel_rfl) (by kernel_rfl) (octets_Get_ok (b := q_2) (p_at := place) (n := n) (hs.enter [0] rfl rfl) hz1) ?_
  clear hf; clear a; intro v w1 a hT hf; obtain ⟨F1, rfl, hr⟩ := hT
  replace hs : Sep w F R w1 F1 [.ro (tI .u8) (.slice ao1 q_2.length cp1) q_2] := hs.back [0] [0] rfl rfl rfl rfl hr
  clear hr
  replace hs : Sep w F R w1 F1 [] := hs.sel [] rfl rfl
  replace hf := Fr.keep (ks := [12]) (L' := [(12, .tuple #[.int .u64 z1.1, .int .i64 z1.2])]) hf (by kernel_rfl)
  refine st tbOk 5 [6] (L' := [(6, .int .u64 z1.1)]) hf (by kernel_rfl) ?_
  clear hf; clear a; intro a hf
  refine wpList_nil ?_
  refine sq ?_
  refine reg ?_
  refine st tbOk 2 [5] (L' := [(5, .int .u64 z1.1)]) hf (by kernel_rfl) ?_
  clear hf; clear a; intro a hf
  refine wpList_nil ?_
  have hr := Option.some.inj hS; subst hr
  refine wp_ret ?_
  exact ret_ok hf (vs := [.int .u64 z1.1]) (by kernel_rfl) ⟨_, rfl, hs.sel [] rfl rfl⟩

set_option maxHeartbeats 4000000 in
theorem slices_Equal_byte_byte_ok {w : World} {F : SH} {p_s1 : List Int} {p_s2 : List Int} {ao1 : Option Addr} {cp1 : Nat} {ao2 : Option Addr} {cp2 : Nat} (hs : Sep w F (blks [.ro (tI .u8) (.slice ao1 p_s1.length cp1) p_s1, .ro (tI .u8) (.slice ao2 p_s2.length cp2) p_s2]) w F [.ro (tI .u8) (.slice ao1 p_s1.length cp1) p_s1, .ro (tI .u8) (.slice ao2 p_s2.length cp2) p_s2]) {r : Bool} (hS : slices_Equal_byte_byte p_s1 p_s2 = some r) :
    Calls Try.prog 32 [.slice ao1 p_s1.length cp1, .slice ao2 p_s2.length cp2].toArray w (Gives (fun u w' => ∃ (F' : SH), u = .bool r ∧ Sep w F (blks [.ro (tI .u8) (.slice ao1 p_s1.length cp1) p_s1, .ro (tI .u8) (.slice ao2 p_s2.length cp2) p_s2]) w' F' [])) := by
  generalize (blks [.ro (tI .u8) (.slice ao1 p_s1.length cp1) p_s1, .ro (tI .u8) (.slice ao2 p_s2.length cp2) p_s2]) = R at hs ⊢
  unfold slices_Equal_byte_byte at hS
  refine fn_ok (vs := [.slice ao1 p_s1.length cp1, .slice ao2 p_s2.length cp2]) Try.func32 rfl 26 Try.ntmps32 (Nat.le_of_ble_eq_true rfl) ?_
  intro a hf
  replace hf := Fr.cast (L' := [(0, .slice ao1 p_s1.length cp1), (1, .slice ao2 p_s2.length cp2)]) hf (by kernel_rfl)
  refine sq ?_
  refine reg ?_
  refine st tbOk 1 [0, 1] (L' := [(0, .slice ao1 p_s1.length cp1), (1, .slice ao2 p_s2.length cp2)]) hf (by kernel_rfl) ?_
  clear hf; clear a; intro a hf
  refine wpList_nil ?_
  refine sq ?_
  refine sq ?_
  refine reg ?_
  refine st tbOk 5 [0, 1, 10] (L' := [(0, .slice ao1 p_s1.length cp1), (1, .slice ao2 p_s2.length cp2), (10, .bool (((p_s1.length : Nat) : Int) != ((p_s2.length : Nat) : Int)))]) hf (by kernel_rfl) ?_
  clear hf; clear a; intro a hf
  refine wpList_nil ?_
  refine cnd (b := ((p_s1.length : Nat) : Int) != ((p_s2.length : Nat) : Int)) hf (by kernel_rfl) (fun hb1 => ?_) (fun hb1 => ?_)
  · replace hS := of_t hb1 hS
    refine sq ?_
    refine reg ?_
    refine st tbOk 1 [4] (L' := [(4, .bool false)]) hf (by kernel_rfl) ?_
    clear hf; clear a; intro a hf
    refine wpList_nil ?_
    have hr := Option.some.inj hS; subst hr
    refine wp_ret ?_
    exact ret_ok hf (vs := [.bool false]) (by kernel_rfl) ⟨_, rfl, hs.sel [] rfl rfl⟩
  · replace hS := of_f hb1 hS
    refine wp_skip ?_
    refine sq ?_
    refine sq ?_
    refine reg ?_
    refine st tbOk 3 [0, 1, 12, 13] (L' := [(0, .slice ao1 p_s1.length cp1), (1, .slice ao2 p_s2.length cp2), (12, .int .i64 ((p_s1.length : Nat) : Int)), (13, .int .i64 0)]) hf (by kernel_rfl) ?_
    clear hf; clear a; intro a hf
    refine wpList_nil ?_
    refine ctj (fun (s1 : Unit) (a : Act) (w' : World) => ∃ (F1 : SH), Sep w F R w' F1 [] ∧ Fr 26 [] a) hS ?_ ?_
    · clear hS hf hs; clear a; intro s1 a w3 hM hS
      obtain ⟨F1, hs, hf⟩ := hM
      refine sq ?_
      refine reg ?_
      refine st tbOk 1 [4] (L' := [(4, .bool true)]) hf (by kernel_rfl) ?_
      clear hf; clear a; intro a hf
      refine wpList_nil ?_
      have hr := Option.some.inj hS; subst hr
      refine wp_ret ?_
      exact ret_ok hf (vs := [.bool true]) (by kernel_rfl) ⟨_, rfl, hs.sel [] rfl rfl⟩
    · clear hS; intro KK1 k1 hK1 hS
      refine blk ?_
      refine lp (st := 0) (fun (s2 : Int) (a : Act) (w' : World) => ∃ (F2 : SH), Sep w F R w' F2 [.ro (tI .u8) (.slice ao1 p_s1.length cp1) p_s1, .ro (tI .u8) (.slice ao2 p_s2.length cp2) p_s2] ∧ Fr 26 [(0, .slice ao1 p_s1.length cp1), (1, .slice ao2 p_s2.length cp2), (12, .int .i64 ((p_s1.length : Nat) : Int)), (13, .int .i64 s2)] a) ?_ ⟨_, hs.sel [0, 1] rfl rfl, hf.keep (ks := [0, 1, 12, 13]) (by kernel_rfl)⟩ hS
      clear hS hf hs; clear a
      intro rec1 KK2 hK2 s2 a w1 hM hS
      obtain ⟨F2, hs, hf⟩ := hM
      refine sq ?_
      refine reg ?_
      refine st tbOk 1 [0, 1, 12, 13, 14] (L' := [(0, .slice ao1 p_s1.length cp1), (1, .slice ao2 p_s2.length cp2), (12, .int .i64 ((p_s1.length : Nat) : Int)), (13, .int .i64 s2), (14, .bool (decide (s2 < ((p_s1.length : Nat) : Int))))]) hf (by kernel_rfl) ?_
      clear hf; clear a; intro a hf
      refine wpList_nil ?_
      refine sq ?_
      refine cnd (b := decide (s2 < ((p_s1.length : Nat) : Int))) hf (by kernel_rfl) (fun hb2 => ?_) (fun hb2 => ?_)
      · replace hS := of_t hb2 hS
        refine wp_skip ?_
        refine sq ?_
        refine blk ?_
        refine sq ?_
        refine reg ?_
        refine st tbOk 2 [0, 1, 5, 12, 13] (L' := [(0, .slice ao1 p_s1.length cp1), (1, .slice ao2 p_s2.length cp2), (5, .int .i64 s2), (12, .int .i64 ((p_s1.length : Nat) : Int)), (13, .int .i64 s2)]) hf (by kernel_rfl) ?_
        clear hf; clear a; intro a hf
        refine wpList_nil ?_
        refine sq ?_
        refine regQ mixed (by kernel_rfl) ?_
        refine stQ tbOk 2 [0, 1, 5, 12, 13, 16, 17] (L' := [(0, .slice ao1 p_s1.length cp1), (1, .slice ao2 p_s2.length cp2), (5, .int .i64 s2), (12, .int .i64 ((p_s1.length : Nat) : Int)), (13, .int .i64 s2), (16, .slice ao1 p_s1.length cp1), (17, .int .i64 s2)]) hf (by kernel_rfl) ?_
        clear hf; clear a; intro a hf
        have hT := of_gd hS; clear hS; obtain ⟨hc1, hS⟩ := hT
        refine ixRQ tbOk u26 i5 rfl rfl ((hs.ro 0 rfl).ra (LeH.refl _)) (k := .i64) (n := s2) hc1 hf (by kernel_rfl) (by kernel_rfl) (by kernel_rfl) (by kernel_rfl) ?_
        clear hf; clear a; intro pb1 po1 c1 a hp1 hr1 hf
        obtain rfl : c1 = [.int .u8 (gt p_s1 s2)] := hr1
        replace hs : Sep w F R w1 F2 [.cel pb1 po1 [.int .u8 (gt p_s1 s2)], .ro (tI .u8) (.slice ao1 p_s1.length cp1) p_s1, .ro (tI .u8) (.slice ao2 p_s2.length cp2) p_s2] := hs.addCel hp1
        replace hf := Fr.keep (ks := [0, 1, 5, 12, 13, 18]) (L' := [(0, .slice ao1 p_s1.length cp1), (1, .slice ao2 p_s2.length cp2), (5, .int .i64 s2), (12, .int .i64 ((p_s1.length : Nat) : Int)), (13, .int .i64 s2), (18, .pointer (some ⟨pb1, po1, none⟩))]) hf (by kernel_rfl)
        refine ldCQ tbOk (T := 5) (hs.ccel 0 rfl) (LeH.refl _) 0 (.int .u8 (gt p_s1 s2)) hf (by kernel_rfl) (by kernel_rfl) (by kernel_rfl) (by kernel_rfl) ?_
        clear hf; clear a; intro a hf
        replace hs : Sep w F R w1 F2 [.ro (tI .u8) (.slice ao1 p_s1.length cp1) p_s1, .ro (tI .u8) (.slice ao2 p_s2.length cp2) p_s2] := hs.sel [1, 2] rfl rfl
        replace hf := Fr.keep (ks := [0, 1, 5, 12, 13, 19]) (L' := [(0, .slice ao1 p_s1.length cp1), (1, .slice ao2 p_s2.length cp2), (5, .int .i64 s2), (12, .int .i64 ((p_s1.length : Nat) : Int)), (13, .int .i64 s2), (19, .int .u8 (gt p_s1 s2))]) hf (by kernel_rfl)
        refine stQ tbOk 2 [0, 1, 12, 13, 19, 20, 21] (L' := [(0, .slice ao1 p_s1.length cp1), (1, .slice ao2 p_s2.length cp2), (12, .int .i64 ((p_s1.length : Nat) : Int)), (13, .int .i64 s2), (19, .int .u8 (gt p_s1 s2)), (20, .slice ao2 p_s2.length cp2), (21, .int .i64 s2)]) hf (by kernel_rfl) ?_
        clear hf; clear a; intro a hf
        have hT := of_gd hS; clear hS; obtain ⟨hc2, hS⟩ := hT
        refine ixRQ tbOk u26 i5 rfl rfl ((hs.ro 1 rfl).ra (LeH.refl _)) (k := .i64) (n := s2) hc2 hf (by kernel_rfl) (by kernel_rfl) (by kernel_rfl) (by kernel_rfl) ?_
        clear hf; clear a; intro pb2 po2 c2 a hp2 hr2 hf
        obtain rfl : c2 = [.int .u8 (gt p_s2 s2)] := hr2
        replace hs : Sep w F R w1 F2 [.cel pb2 po2 [.int .u8 (gt p_s2 s2)], .ro (tI .u8) (.slice ao1 p_s1.length cp1) p_s1, .ro (tI .u8) (.slice ao2 p_s2.length cp2) p_s2] := hs.addCel hp2
        replace hf := Fr.keep (ks := [0, 1, 12, 13, 19, 22]) (L' := [(0, .slice ao1 p_s1.length cp1), (1, .slice ao2 p_s2.length cp2), (12, .int .i64 ((p_s1.length : Nat) : Int)), (13, .int .i64 s2), (19, .int .u8 (gt p_s1 s2)), (22, .pointer (some ⟨pb2, po2, none⟩))]) hf (by kernel_rfl)
        refine ldCQ tbOk (T := 5) (hs.ccel 0 rfl) (LeH.refl _) 0 (.int .u8 (gt p_s2 s2)) hf (by kernel_rfl) (by kernel_rfl) (by kernel_rfl) (by kernel_rfl) ?_
        clear hf; clear a; intro a hf
        replace hs : Sep w F R w1 F2 [.ro (tI .u8) (.slice ao1 p_s1.length cp1) p_s1, .ro (tI .u8) (.slice ao2 p_s2.length cp2) p_s2] := hs.sel [1, 2] rfl rfl
        replace hf := Fr.keep (ks := [0, 1, 12, 13, 19, 23]) (L' := [(0, .slice ao1 p_s1.length cp1), (1, .slice ao2 p_s2.length cp2), (12, .int .i64 ((p_s1.length : Nat) : Int)), (13, .int .i64 s2), (19, .int .u8 (gt p_s1 s2)), (23, .int .u8 (gt p_s2 s2))]) hf (by kernel_rfl)
        refine stQ tbOk 1 [0, 1, 12, 13, 24] (L' := [(0, .slice ao1 p_s1.length cp1), (1, .slice ao2 p_s2.length cp2), (12, .int .i64 ((p_s1.length : Nat) : Int)), (13, .int .i64 s2), (24, .bool ((gt p_s1 s2) != (gt p_s2 s2)))]) hf (by kernel_rfl) ?_
        clear hf; clear a; intro a hf
        refine wpQuiet_nil ?_
        intro w2 hx
        replace hs : Sep w F R w2 F2 [.ro (tI .u8) (.slice ao1 p_s1.length cp1) p_s1, .ro (tI .u8) (.slice ao2 p_s2.length cp2) p_s2] := hs.ext hx
        clear hx
        refine cnd (b := (gt p_s1 s2) != (gt p_s2 s2)) hf (by kernel_rfl) (fun hb3 => ?_) (fun hb3 => ?_)
        · replace hS := of_t hb3 hS
          refine sq ?_
          refine reg ?_
          refine st tbOk 1 [4] (L' := [(4, .bool false)]) hf (by kernel_rfl) ?_
          clear hf; clear a; intro a hf
          refine wpList_nil ?_
          have hr := Option.some.inj hS; subst hr
          refine wp_ret ?_
          exact ret_ok hf (vs := [.bool false]) (by kernel_rfl) ⟨_, rfl, hs.sel [] rfl rfl⟩
        · replace hS := of_f hb3 hS
          refine wp_skip ?_
          refine reg ?_
          refine st tbOk 2 [0, 1, 12, 13] (L' := [(0, .slice ao1 p_s1.length cp1), (1, .slice ao2 p_s2.length cp2), (12, .int .i64 ((p_s1.length : Nat) : Int)), (13, .int .i64 (IntKind.i64.wrap (s2 + 1)))]) hf (by kernel_rfl) ?_
          clear hf; clear a; intro a hf
          refine wpList_nil ?_
          exact hK2 (IntKind.i64.wrap (s2 + 1)) _ _ ⟨_, hs.sel [0, 1] rfl rfl, hf.keep (ks := [0, 1, 12, 13]) (by kernel_rfl)⟩ hS
      · replace hS := of_f hb2 hS
        refine wp_exit ?_
        exact hK1 () _ _ ⟨_, hs.sel [] rfl rfl, hf.keep (ks := []) (by kernel_rfl)⟩ hS

set_option maxHeartbeats 4000000 in
theorem head_Get_ok {w : World} {F : SH} {b : List Int} {ao1 : Option Addr} {cp1 : Nat} (hs : Sep w F (blks [.ro (tI .u8) (.slice ao1 b.length cp1) b]) w F [.ro (tI .u8) (.slice ao1 b.length cp1) b]) {r : (Int × Int × Int × Int) × Int} (hS : head_Get b = some r) :
    Calls Try.prog 17 [.slice ao1 b.length cp1].toArray w (Gives (fun u w' => ∃ (F' : SH), u = .tuple #[.agg #[.int .i64 r.1.1, .int .u64 r.1.2.1, .int .u64 r.1.2.2.1, .int .i64 r.1.2.2.2], .int .i64 r.2] ∧ Sep w F (blks [.ro (tI .u8) (.slice ao1 b.length cp1) b]) w' F' [])) := by
  generalize (blks [.ro (tI .u8) (.slice ao1 b.length cp1) b]) = R at hs ⊢
  unfold head_Get at hS
  refine fn_ok (vs := [.slice ao1 b.length cp1]) Try.func17 rfl 40 Try.ntmps17 (Nat.le_of_ble_eq_true rfl) ?_
  intro a hf
  replace hf := Fr.cast (L' := [(0, .slice ao1 b.length cp1)]) hf (by kernel_rfl)
  refine sq ?_
  refine reg ?_
  refine bx (T := 26) [.slice ao1 b.length cp1] (v := .slice ao1 b.length cp1) rfl (by kernel_rfl) hf (by kernel_rfl) (by kernel_rfl) (by kernel_rfl) ?_
  clear hf; clear a; intro w1 a hb hx _ hf
  replace hs : Sep w F R w1 F [.box w.heap.size 26 [.slice ao1 b.length cp1], .ro (tI .u8) (.slice ao1 b.length cp1) b] := hs.newBox hb hx
  clear hb hx
  replace hf := Fr.keep (ks := [1]) (L' := [(1, .pointer (some ⟨w.heap.size, 0, none⟩))]) hf (by kernel_rfl)
  refine al tbOk i25 [.int .i64 0, .int .u64 0, .int .u64 0, .int .i64 0] rfl (by kernel_rfl) hf (by kernel_rfl) (by kernel_rfl) ?_
  clear hf; clear a; intro w2 a hb hx _ hf
  replace hs : Sep w F R w2 F [.box w1.heap.size 25 [.int .i64 0, .int .u64 0, .int .u64 0, .int .i64 0], .box w.heap.size 26 [.slice ao1 b.length cp1], .ro (tI .u8) (.slice ao1 b.length cp1) b] := hs.newBox hb hx
  clear hb hx
  replace hf := Fr.keep (ks := [1, 2]) (L' := [(1, .pointer (some ⟨w.heap.size, 0, none⟩)), (2, .pointer (some ⟨w1.heap.size, 0, none⟩))]) hf (by kernel_rfl)
  refine st tbOk 1 [1, 2] (L' := [(1, .pointer (some ⟨w.heap.size, 0, none⟩)), (2, .pointer (some ⟨w1.heap.size, 0, none⟩))]) hf (by kernel_rfl) ?_
  clear hf; clear a; intro a hf
  refine wpList_nil ?_
  refine sq ?_
  refine sq ?_
  refine reg ?_
  refine ldC tbOk (T := 26) (hs.cbx 1 rfl) (LeH.refl _) 0 (.slice ao1 b.length cp1) hf (by kernel_rfl) (by kernel_rfl) (by kernel_rfl) (by kernel_rfl) ?_
  clear hf; clear a; intro a hf
  replace hf := Fr.keep (ks := [1, 2, 8]) (L' := [(1, .pointer (some ⟨w.heap.size, 0, none⟩)), (2, .pointer (some ⟨w1.heap.size, 0, none⟩)), (8, .slice ao1 b.length cp1)]) hf (by kernel_rfl)
  refine st tbOk 2 [1, 2, 10] (L' := [(1, .pointer (some ⟨w.heap.size, 0, none⟩)), (2, .pointer (some ⟨w1.heap.size, 0, none⟩)), (10, .bool (decide (((b.length : Nat) : Int) < 64)))]) hf (by kernel_rfl) ?_
  clear hf; clear a; intro a hf
  refine wpList_nil ?_
  refine cnd (b := decide (((b.length : Nat) : Int) < 64)) hf (by kernel_rfl) (fun hb1 => ?_) (fun hb1 => ?_)
  · replace hS := of_t hb1 hS
    refine sq ?_
    refine reg ?_
    refine st tbOk 1 [2, 11] (L' := [(2, .pointer (some ⟨w1.heap.size, 0, none⟩)), (11, .agg #[.int .i64 0, .int .u64 0, .int .u64 0, .int .i64 0])]) hf (by kernel_rfl) ?_
    clear hf; clear a; intro a hf
    refine stB tbOk i25 (hs.bx 0 rfl) 0 [.int .i64 0, .int .u64 0, .int .u64 0, .int .i64 0] [.int .i64 0, .int .u64 0, .int .u64 0, .int .i64 0] (v := .agg #[.int .i64 0, .int .u64 0, .int .u64 0, .int .i64 0]) rfl rfl (by kernel_rfl) (by kernel_rfl) (by kernel_rfl) (by kernel_rfl) hf (by kernel_rfl) (by kernel_rfl) (by kernel_rfl) ?_
    clear hf; clear a; intro w3 a hb hg _ hf
    replace hs : Sep w F R w3 F [.box w1.heap.size 25 [.int .i64 0, .int .u64 0, .int .u64 0, .int .i64 0], .box w.heap.size 26 [.slice ao1 b.length cp1], .ro (tI .u8) (.slice ao1 b.length cp1) b] := hs.updBox 0 rfl hb hg
    clear hb hg
    replace hs : Sep w F R w3 F [.box w1.heap.size 25 [.int .i64 0, .int .u64 0, .int .u64 0, .int .i64 0]] := hs.sel [0] rfl rfl
    replace hf := Fr.keep (ks := [2]) (L' := [(2, .pointer (some ⟨w1.heap.size, 0, none⟩))]) hf (by kernel_rfl)
    refine st tbOk 1 [2, 3] (L' := [(2, .pointer (some ⟨w1.heap.size, 0, none⟩)), (3, .int .i64 10)]) hf (by kernel_rfl) ?_
    clear hf; clear a; intro a hf
    refine wpList_nil ?_
    have hr := Option.some.inj hS; subst hr
    refine wp_ret ?_
    exact ret_okC hf (vs := [.agg #[.int .i64 0, .int .u64 0, .int .u64 0, .int .i64 0], .int .i64 10]) (.cons (.cell tbOk (hs.cbx 0 rfl) (off := 0) (by kernel_rfl) (by kernel_rfl)) (.cons (.tmp (by kernel_rfl)) .nil)) ⟨_, rfl, hs.sel [] rfl rfl⟩
  · replace hS := of_f hb1 hS
    refine wp_skip ?_
    refine sq ?_
    refine reg ?_
    refine st tbOk 2 [1, 2, 4] (L' := [(1, .pointer (some ⟨w.heap.size, 0, none⟩)), (2, .pointer (some ⟨w1.heap.size, 0, none⟩)), (4, .func (.func 30) #[] #[.pointer (some ⟨w.heap.size, 0, none⟩)])]) hf (by kernel_rfl) ?_
    clear hf; clear a; intro a hf
    refine wpList_nil ?_
    refine sq ?_
    refine reg ?_
    refine st tbOk 1 [1, 2, 4, 13] (L' := [(1, .pointer (some ⟨w.heap.size, 0, none⟩)), (2, .pointer (some ⟨w1.heap.size, 0, none⟩)), (4, .func (.func 30) #[] #[.pointer (some ⟨w.heap.size, 0, none⟩)]), (13, .func (.func 30) #[] #[.pointer (some ⟨w.heap.size, 0, none⟩)])]) hf (by kernel_rfl) ?_
    clear hf; clear a; intro a hf
    have hT := of_bd hS; clear hS; obtain ⟨z1, hz1, hS⟩ := hT
    refine clV ent30 (vs := [.int .u64 16, .int .i64 2]) (caps := [.pointer (some ⟨w.heap.size, 0, none⟩)]) hf (by kernel_rfl) (by kernel_rfl) (by kernel_rfl) (by kernel_rfl) (head_Get_1_ok (place := 16) (n := 2) (q_2 := b) (hs.lend [1, 2] [] rfl rfl rfl rfl rfl) hz1) ?_
    clear hf; clear a; intro v w4 a hT hf; obtain ⟨F1, rfl, hr⟩ := hT
    replace hs : Sep w F R w4 F [.box w1.heap.size 25 [.int .i64 0, .int .u64 0, .int .u64 0, .int .i64 0], .box w.heap.size 26 [.slice ao1 b.length cp1], .ro (tI .u8) (.slice ao1 b.length cp1) b] := hs.backL [1, 2] [] [0, 1, 2] rfl rfl rfl rfl rfl rfl hr trivial
    clear hr
    replace hf := Fr.keep (ks := [1, 2, 4, 14]) (L' := [(1, .pointer (some ⟨w.heap.size, 0, none⟩)), (2, .pointer (some ⟨w1.heap.size, 0, none⟩)), (4, .func (.func 30) #[] #[.pointer (some ⟨w.heap.size, 0, none⟩)]), (14, .int .u64 z1)]) hf (by kernel_rfl)
    refine st tbOk 2 [1, 2, 4, 15, 16] (L' := [(1, .pointer (some ⟨w.heap.size, 0, none⟩)), (2, .pointer (some ⟨w1.heap.size, 0, none⟩)), (4, .func (.func 30) #[] #[.pointer (some ⟨w.heap.size, 0, none⟩)]), (15, .int .i64 (IntKind.i64.wrap z1)), (16, .func (.func 30) #[] #[.pointer (some ⟨w.heap.size, 0, none⟩)])]) hf (by kernel_rfl) ?_
    clear hf; clear a; intro a hf
    have hT := of_bd hS; clear hS; obtain ⟨z2, hz2, hS⟩ := hT
    refine clV ent30 (vs := [.int .u64 24, .int .i64 8]) (caps := [.pointer (some ⟨w.heap.size, 0, none⟩)]) hf (by kernel_rfl) (by kernel_rfl) (by kernel_rfl) (by kernel_rfl) (head_Get_1_ok (place := 24) (n := 8) (q_2 := b) (hs.lend [1, 2] [] rfl rfl rfl rfl rfl) hz2) ?_
    clear hf; clear a; intro v w5 a hT hf; obtain ⟨F2, rfl, hr⟩ := hT
    replace hs : Sep w F R w5 F [.box w1.heap.size 25 [.int .i64 0, .int .u64 0, .int .u64 0, .int .i64 0], .box w.heap.size 26 [.slice ao1 b.length cp1], .ro (tI .u8) (.slice ao1 b.length cp1) b] := hs.backL [1, 2] [] [0, 1, 2] rfl rfl rfl rfl rfl rfl hr trivial
    clear hr
    replace hf := Fr.keep (ks := [1, 2, 4, 15, 17]) (L' := [(1, .pointer (some ⟨w.heap.size, 0, none⟩)), (2, .pointer (some ⟨w1.heap.size, 0, none⟩)), (4, .func (.func 30) #[] #[.pointer (some ⟨w.heap.size, 0, none⟩)]), (15, .int .i64 (IntKind.i64.wrap z1)), (17, .int .u64 z2)]) hf (by kernel_rfl)
    refine st tbOk 1 [1, 2, 4, 15, 17, 18] (L' := [(1, .pointer (some ⟨w.heap.size, 0, none⟩)), (2, .pointer (some ⟨w1.heap.size, 0, none⟩)), (4, .func (.func 30) #[] #[.pointer (some ⟨w.heap.size, 0, none⟩)]), (15, .int .i64 (IntKind.i64.wrap z1)), (17, .int .u64 z2), (18, .func (.func 30) #[] #[.pointer (some ⟨w.heap.size, 0, none⟩)])]) hf (by kernel_rfl) ?_
    clear hf; clear a; intro a hf
    have hT := of_bd hS; clear hS; obtain ⟨z3, hz3, hS⟩ := hT
    refine clV ent30 (vs := [.int .u64 32, .int .i64 8]) (caps := [.pointer (some ⟨w.heap.size, 0, none⟩)]) hf (by kernel_rfl) (by kernel_rfl) (by kernel_rfl) (by kernel_rfl) (head_Get_1_ok (place := 32) (n := 8) (q_2 := b) (hs.lend [1, 2] [] rfl rfl rfl rfl rfl) hz3) ?_
    clear hf; clear a; intro v w6 a hT hf; obtain ⟨F3, rfl, hr⟩ := hT
    replace hs : Sep w F R w6 F [.box w1.heap.size 25 [.int .i64 0, .int .u64 0, .int .u64 0, .int .i64 0], .box w.heap.size 26 [.slice ao1 b.length cp1], .ro (tI .u8) (.slice ao1 b.length cp1) b] := hs.backL [1, 2] [] [0, 1, 2] rfl rfl rfl rfl rfl rfl hr trivial
    clear hr
    replace hf := Fr.keep (ks := [1, 2, 4, 15, 17, 19]) (L' := [(1, .pointer (some ⟨w.heap.size, 0, none⟩)), (2, .pointer (some ⟨w1.heap.size, 0, none⟩)), (4, .func (.func 30) #[] #[.pointer (some ⟨w.heap.size, 0, none⟩)]), (15, .int .i64 (IntKind.i64.wrap z1)), (17, .int .u64 z2), (19, .int .u64 z3)]) hf (by kernel_rfl)
    refine st tbOk 1 [1, 2, 15, 17, 19, 20] (L' := [(1, .pointer (some ⟨w.heap.size, 0, none⟩)), (2, .pointer (some ⟨w1.heap.size, 0, none⟩)), (15, .int .i64 (IntKind.i64.wrap z1)), (17, .int .u64 z2), (19, .int .u64 z3), (20, .func (.func 30) #[] #[.pointer (some ⟨w.heap.size, 0, none⟩)])]) hf (by kernel_rfl) ?_
    clear hf; clear a; intro a hf
    have hT := of_bd hS; clear hS; obtain ⟨z4, hz4, hS⟩ := hT
    refine clV ent30 (vs := [.int .u64 56, .int .i64 2]) (caps := [.pointer (some ⟨w.heap.size, 0, none⟩)]) hf (by kernel_rfl) (by kernel_rfl) (by kernel_rfl) (by kernel_rfl) (head_Get_1_ok (place := 56) (n := 2) (q_2 := b) (hs.lend [1, 2] [] rfl rfl rfl rfl rfl) hz4) ?_
    clear hf; clear a; intro v w7 a hT hf; obtain ⟨F4, rfl, hr⟩ := hT
    replace hs : Sep w F R w7 F [.box w1.heap.size 25 [.int .i64 0, .int .u64 0, .int .u64 0, .int .i64 0], .box w.heap.size 26 [.slice ao1 b.length cp1], .ro (tI .u8) (.slice ao1 b.length cp1) b] := hs.backL [1, 2] [] [0, 1, 2] rfl rfl rfl rfl rfl rfl hr trivial
    clear hr
    replace hf := Fr.keep (ks := [1, 2, 15, 17, 19, 21]) (L' := [(1, .pointer (some ⟨w.heap.size, 0, none⟩)), (2, .pointer (some ⟨w1.heap.size, 0, none⟩)), (15, .int .i64 (IntKind.i64.wrap z1)), (17, .int .u64 z2), (19, .int .u64 z3), (21, .int .u64 z4)]) hf (by kernel_rfl)
    refine st tbOk 2 [1, 2, 23] (L' := [(1, .pointer (some ⟨w.heap.size, 0, none⟩)), (2, .pointer (some ⟨w1.heap.size, 0, none⟩)), (23, .agg #[.int .i64 (IntKind.i64.wrap z1), .int .u64 z2, .int .u64 z3, .int .i64 (IntKind.i64.wrap z4)])]) hf (by kernel_rfl) ?_
    clear hf; clear a; intro a hf
    refine al tbOk i25 [.int .i64 0, .int .u64 0, .int .u64 0, .int .i64 0] rfl (by kernel_rfl) hf (by kernel_rfl) (by kernel_rfl) ?_
    clear hf; clear a; intro w8 a hb hx _ hf
    replace hs : Sep w F R w8 F [.box w7.heap.size 25 [.int .i64 0, .int .u64 0, .int .u64 0, .int .i64 0], .box w1.heap.size 25 [.int .i64 0, .int .u64 0, .int .u64 0, .int .i64 0], .box w.heap.size 26 [.slice ao1 b.length cp1], .ro (tI .u8) (.slice ao1 b.length cp1) b] := hs.newBox hb hx
    clear hb hx
    replace hf := Fr.keep (ks := [1, 2, 5, 23]) (L' := [(1, .pointer (some ⟨w.heap.size, 0, none⟩)), (2, .pointer (some ⟨w1.heap.size, 0, none⟩)), (5, .pointer (some ⟨w7.heap.size, 0, none⟩)), (23, .agg #[.int .i64 (IntKind.i64.wrap z1), .int .u64 z2, .int .u64 z3, .int .i64 (IntKind.i64.wrap z4)])]) hf (by kernel_rfl)
    refine stB tbOk i25 (hs.bx 0 rfl) 0 [.int .i64 (IntKind.i64.wrap z1), .int .u64 z2, .int .u64 z3, .int .i64 (IntKind.i64.wrap z4)] [.int .i64 (IntKind.i64.wrap z1), .int .u64 z2, .int .u64 z3, .int .i64 (IntKind.i64.wrap z4)] (v := .agg #[.int .i64 (IntKind.i64.wrap z1), .int .u64 z2, .int .u64 z3, .int .i64 (IntKind.i64.wrap z4)]) rfl rfl (by kernel_rfl) (by kernel_rfl) (by kernel_rfl) (by kernel_rfl) hf (by kernel_rfl) (by kernel_rfl) (by kernel_rfl) ?_
    clear hf; clear a; intro w9 a hb hg _ hf
    replace hs : Sep w F R w9 F [.box w7.heap.size 25 [.int .i64 (IntKind.i64.wrap z1), .int .u64 z2, .int .u64 z3, .int .i64 (IntKind.i64.wrap z4)], .box w1.heap.size 25 [.int .i64 0, .int .u64 0, .int .u64 0, .int .i64 0], .box w.heap.size 26 [.slice ao1 b.length cp1], .ro (tI .u8) (.slice ao1 b.length cp1) b] := hs.updBox 0 rfl hb hg
    clear hb hg
    replace hf := Fr.keep (ks := [1, 2, 5]) (L' := [(1, .pointer (some ⟨w.heap.size, 0, none⟩)), (2, .pointer (some ⟨w1.heap.size, 0, none⟩)), (5, .pointer (some ⟨w7.heap.size, 0, none⟩))]) hf (by kernel_rfl)
    refine wpList_nil ?_
    refine sq ?_
    refine sq ?_
    refine reg ?_
    refine ldC tbOk (T := 25) (hs.cbx 0 rfl) (LeH.refl _) 0 (.agg #[.int .i64 (IntKind.i64.wrap z1), .int .u64 z2, .int .u64 z3, .int .i64 (IntKind.i64.wrap z4)]) hf (by kernel_rfl) (by kernel_rfl) (by kernel_rfl) (by kernel_rfl) ?_
    clear hf; clear a; intro a hf
    replace hf := Fr.keep (ks := [1, 2, 5, 25]) (L' := [(1, .pointer (some ⟨w.heap.size, 0, none⟩)), (2, .pointer (some ⟨w1.heap.size, 0, none⟩)), (5, .pointer (some ⟨w7.heap.size, 0, none⟩)), (25, .agg #[.int .i64 (IntKind.i64.wrap z1), .int .u64 z2, .int .u64 z3, .int .i64 (IntKind.i64.wrap z4)])]) hf (by kernel_rfl)
    have hT := of_bd hS; clear hS; obtain ⟨z5, hz5, hS⟩ := hT
    refine clV ent14 (vs := [.agg #[.int .i64 (IntKind.i64.wrap z1), .int .u64 z2, .int .u64 z3, .int .i64 (IntKind.i64.wrap z4)]]) (caps := []) hf (by kernel_rfl) (by kernel_rfl) (by kernel_rfl) (by kernel_rfl) (head_Put_ok (p_h := (IntKind.i64.wrap z1, z2, z3, IntKind.i64.wrap z4)) (hs.enter [] rfl rfl) hz5) ?_
    clear hf; clear a; intro v w10 a hT hf; obtain ⟨ao2, cp2, F5, rfl, hr⟩ := hT
    replace hs : Sep w F R w10 F5 [.row 5 (tI .u8) (.slice ao2 z5.1.length cp2) z5.1, .box w7.heap.size 25 [.int .i64 (IntKind.i64.wrap z1), .int .u64 z2, .int .u64 z3, .int .i64 (IntKind.i64.wrap z4)], .box w1.heap.size 25 [.int .i64 0, .int .u64 0, .int .u64 0, .int .i64 0], .box w.heap.size 26 [.slice ao1 b.length cp1], .ro (tI .u8) (.slice ao1 b.length cp1) b] := hs.back [] [0, 1, 2, 3] rfl rfl rfl rfl hr
    clear hr
    replace hf := Fr.keep (ks := [1, 2, 5, 26]) (L' := [(1, .pointer (some ⟨w.heap.size, 0, none⟩)), (2, .pointer (some ⟨w1.heap.size, 0, none⟩)), (5, .pointer (some ⟨w7.heap.size, 0, none⟩)), (26, .tuple #[.slice ao2 z5.1.length cp2, .int .i64 z5.2])]) hf (by kernel_rfl)
    refine st tbOk 5 [1, 2, 5, 6, 7] (L' := [(1, .pointer (some ⟨w.heap.size, 0, none⟩)), (2, .pointer (some ⟨w1.heap.size, 0, none⟩)), (5, .pointer (some ⟨w7.heap.size, 0, none⟩)), (6, .slice ao2 z5.1.length cp2), (7, .int .i64 z5.2)]) hf (by kernel_rfl) ?_
    clear hf; clear a; intro a hf
    refine wpList_nil ?_
    refine sq ?_
    refine ctj (fun (s1 : Bool) (a : Act) (w' : World) => ∃ (F6 : SH), Sep w F R w' F6 [.box w7.heap.size 25 [.int .i64 (IntKind.i64.wrap z1), .int .u64 z2, .int .u64 z3, .int .i64 (IntKind.i64.wrap z4)], .box w1.heap.size 25 [.int .i64 0, .int .u64 0, .int .u64 0, .int .i64 0]] ∧ Fr 40 [(2, .pointer (some ⟨w1.heap.size, 0, none⟩)), (5, .pointer (some ⟨w7.heap.size, 0, none⟩)), (37, .bool s1)] a) hS ?_ ?_
    · clear hS hf hs; clear a; intro s1 a w12 hM hS
      obtain ⟨F6, hs, hf⟩ := hM
      refine cnd (b := s1) hf (by kernel_rfl) (fun hb3 => ?_) (fun hb3 => ?_)
      · replace hS := of_t hb3 hS
        refine sq ?_
        refine reg ?_
        refine st tbOk 1 [2, 38] (L' := [(2, .pointer (some ⟨w1.heap.size, 0, none⟩)), (38, .agg #[.int .i64 0, .int .u64 0, .int .u64 0, .int .i64 0])]) hf (by kernel_rfl) ?_
        clear hf; clear a; intro a hf
        refine stB tbOk i25 (hs.bx 1 rfl) 0 [.int .i64 0, .int .u64 0, .int .u64 0, .int .i64 0] [.int .i64 0, .int .u64 0, .int .u64 0, .int .i64 0] (v := .agg #[.int .i64 0, .int .u64 0, .int .u64 0, .int .i64 0]) rfl rfl (by kernel_rfl) (by kernel_rfl) (by kernel_rfl) (by kernel_rfl) hf (by kernel_rfl) (by kernel_rfl) (by kernel_rfl) ?_
        clear hf; clear a; intro w13 a hb hg _ hf
        replace hs : Sep w F R w13 F6 [.box w7.heap.size 25 [.int .i64 (IntKind.i64.wrap z1), .int .u64 z2, .int .u64 z3, .int .i64 (IntKind.i64.wrap z4)], .box w1.heap.size 25 [.int .i64 0, .int .u64 0, .int .u64 0, .int .i64 0]] := hs.updBox 1 rfl hb hg
        clear hb hg
        replace hs : Sep w F R w13 F6 [.box w1.heap.size 25 [.int .i64 0, .int .u64 0, .int .u64 0, .int .i64 0]] := hs.sel [1] rfl rfl
        replace hf := Fr.keep (ks := [2]) (L' := [(2, .pointer (some ⟨w1.heap.size, 0, none⟩))]) hf (by kernel_rfl)
        refine st tbOk 1 [2, 3] (L' := [(2, .pointer (some ⟨w1.heap.size, 0, none⟩)), (3, .int .i64 11)]) hf (by kernel_rfl) ?_
        clear hf; clear a; intro a hf
        refine wpList_nil ?_
        have hr := Option.some.inj hS; subst hr
        refine wp_ret ?_
        exact ret_okC hf (vs := [.agg #[.int .i64 0, .int .u64 0, .int .u64 0, .int .i64 0], .int .i64 11]) (.cons (.cell tbOk (hs.cbx 0 rfl) (off := 0) (by kernel_rfl) (by kernel_rfl)) (.cons (.tmp (by kernel_rfl)) .nil)) ⟨_, rfl, hs.sel [] rfl rfl⟩
      · replace hS := of_f hb3 hS
        refine wp_skip ?_
        refine sq ?_
        refine reg ?_
        refine ldC tbOk (T := 25) (hs.cbx 0 rfl) (LeH.refl _) 0 (.agg #[.int .i64 (IntKind.i64.wrap z1), .int .u64 z2, .int .u64 z3, .int .i64 (IntKind.i64.wrap z4)]) hf (by kernel_rfl) (by kernel_rfl) (by kernel_rfl) (by kernel_rfl) ?_
        clear hf; clear a; intro a hf
        replace hs : Sep w F R w12 F6 [.box w1.heap.size 25 [.int .i64 0, .int .u64 0, .int .u64 0, .int .i64 0]] := hs.sel [1] rfl rfl
        replace hf := Fr.keep (ks := [2, 39]) (L' := [(2, .pointer (some ⟨w1.heap.size, 0, none⟩)), (39, .agg #[.int .i64 (IntKind.i64.wrap z1), .int .u64 z2, .int .u64 z3, .int .i64 (IntKind.i64.wrap z4)])]) hf (by kernel_rfl)
        refine stB tbOk i25 (hs.bx 0 rfl) 0 [.int .i64 (IntKind.i64.wrap z1), .int .u64 z2, .int .u64 z3, .int .i64 (IntKind.i64.wrap z4)] [.int .i64 (IntKind.i64.wrap z1), .int .u64 z2, .int .u64 z3, .int .i64 (IntKind.i64.wrap z4)] (v := .agg #[.int .i64 (IntKind.i64.wrap z1), .int .u64 z2, .int .u64 z3, .int .i64 (IntKind.i64.wrap z4)]) rfl rfl (by kernel_rfl) (by kernel_rfl) (by kernel_rfl) (by kernel_rfl) hf (by kernel_rfl) (by kernel_rfl) (by kernel_rfl) ?_
        clear hf; clear a; intro w14 a hb hg _ hf
        replace hs : Sep w F R w14 F6 [.box w1.heap.size 25 [.int .i64 (IntKind.i64.wrap z1), .int .u64 z2, .int .u64 z3, .int .i64 (IntKind.i64.wrap z4)]] := hs.updBox 0 rfl hb hg
        clear hb hg
        replace hf := Fr.keep (ks := [2]) (L' := [(2, .pointer (some ⟨w1.heap.size, 0, none⟩))]) hf (by kernel_rfl)
        refine st tbOk 1 [2, 3] (L' := [(2, .pointer (some ⟨w1.heap.size, 0, none⟩)), (3, .int .i64 0)]) hf (by kernel_rfl) ?_
        clear hf; clear a; intro a hf
        refine wpList_nil ?_
        have hr := Option.some.inj hS; subst hr
        refine wp_ret ?_
        exact ret_okC hf (vs := [.agg #[.int .i64 (IntKind.i64.wrap z1), .int .u64 z2, .int .u64 z3, .int .i64 (IntKind.i64.wrap z4)], .int .i64 0]) (.cons (.cell tbOk (hs.cbx 0 rfl) (off := 0) (by kernel_rfl) (by kernel_rfl)) (.cons (.tmp (by kernel_rfl)) .nil)) ⟨_, rfl, hs.sel [] rfl rfl⟩
    · clear hS; intro KK1 k1 hK1 hS
      refine reg ?_
      refine st tbOk 3 [1, 2, 5, 6, 31] (L' := [(1, .pointer (some ⟨w.heap.size, 0, none⟩)), (2, .pointer (some ⟨w1.heap.size, 0, none⟩)), (5, .pointer (some ⟨w7.heap.size, 0, none⟩)), (6, .slice ao2 z5.1.length cp2), (31, .bool (z5.2 != 0))]) hf (by kernel_rfl) ?_
      clear hf; clear a; intro a hf
      rcases Bool.eq_false_or_eq_true (z5.2 != 0) with hb2 | hb2
      · replace hS := of_t hb2 hS
        replace hf := Fr.cast (L' := [(1, .pointer (some ⟨w.heap.size, 0, none⟩)), (2, .pointer (some ⟨w1.heap.size, 0, none⟩)), (5, .pointer (some ⟨w7.heap.size, 0, none⟩)), (6, .slice ao2 z5.1.length cp2), (31, .bool true)]) hf (by rw [hb2])
        refine st tbOk 6 [2, 5, 37] (L' := [(2, .pointer (some ⟨w1.heap.size, 0, none⟩)), (5, .pointer (some ⟨w7.heap.size, 0, none⟩)), (37, .bool true)]) hf (by kernel_rfl) ?_
        clear hf; clear a; intro a hf
        refine wpList_nil ?_
        exact hK1 true _ _ ⟨_, hs.sel [1, 2] rfl rfl, hf.keep (ks := [2, 5, 37]) (by kernel_rfl)⟩ hS
      · replace hS := of_f hb2 hS
        replace hf := Fr.cast (L' := [(1, .pointer (some ⟨w.heap.size, 0, none⟩)), (2, .pointer (some ⟨w1.heap.size, 0, none⟩)), (5, .pointer (some ⟨w7.heap.size, 0, none⟩)), (6, .slice ao2 z5.1.length cp2), (31, .bool false)]) hf (by rw [hb2])
        refine st tbOk 1 [1, 2, 5, 31, 32] (L' := [(1, .pointer (some ⟨w.heap.size, 0, none⟩)), (2, .pointer (some ⟨w1.heap.size, 0, none⟩)), (5, .pointer (some ⟨w7.heap.size, 0, none⟩)), (31, .bool false), (32, .slice ao2 z5.1.length cp2)]) hf (by kernel_rfl) ?_
        clear hf; clear a; intro a hf
        refine ldC tbOk (T := 26) (hs.cbx 3 rfl) (LeH.refl _) 0 (.slice ao1 b.length cp1) hf (by kernel_rfl) (by kernel_rfl) (by kernel_rfl) (by kernel_rfl) ?_
        clear hf; clear a; intro a hf
        replace hs : Sep w F R w10 F5 [.row 5 (tI .u8) (.slice ao2 z5.1.length cp2) z5.1, .box w7.heap.size 25 [.int .i64 (IntKind.i64.wrap z1), .int .u64 z2, .int .u64 z3, .int .i64 (IntKind.i64.wrap z4)], .box w1.heap.size 25 [.int .i64 0, .int .u64 0, .int .u64 0, .int .i64 0], .ro (tI .u8) (.slice ao1 b.length cp1) b] := hs.sel [0, 1, 2, 4] rfl rfl
        replace hf := Fr.keep (ks := [2, 5, 31, 32, 33]) (L' := [(2, .pointer (some ⟨w1.heap.size, 0, none⟩)), (5, .pointer (some ⟨w7.heap.size, 0, none⟩)), (31, .bool false), (32, .slice ao2 z5.1.length cp2), (33, .slice ao1 b.length cp1)]) hf (by kernel_rfl)
        have hT := of_gd hS; clear hS; obtain ⟨hc1, hS⟩ := hT
        refine sl tbOk u26 i5 rfl (hs.ro 3 rfl) (lo := 0) (hi := 64) (m := 0) hc1 (.inl ⟨rfl, rfl⟩) (.inr ⟨_, .i64, rfl, by kernel_rfl⟩) (.inl rfl) hf (by kernel_rfl) (by kernel_rfl) (by kernel_rfl) ?_
        clear hf; clear a; intro ao3 cp3 a hr1 hf
        replace hs : Sep w F R w10 F5 [.ro (tI .u8) (.slice ao3 (cutL b 0 64).length cp3) (cutL b 0 64), .row 5 (tI .u8) (.slice ao2 z5.1.length cp2) z5.1, .box w7.heap.size 25 [.int .i64 (IntKind.i64.wrap z1), .int .u64 z2, .int .u64 z3, .int .i64 (IntKind.i64.wrap z4)], .box w1.heap.size 25 [.int .i64 0, .int .u64 0, .int .u64 0, .int .i64 0], .ro (tI .u8) (.slice ao1 b.length cp1) b] := hs.addRo hr1
        replace hs : Sep w F R w10 F5 [.ro (tI .u8) (.slice ao3 (cutL b 0 64).length cp3) (cutL b 0 64), .row 5 (tI .u8) (.slice ao2 z5.1.length cp2) z5.1, .box w7.heap.size 25 [.int .i64 (IntKind.i64.wrap z1), .int .u64 z2, .int .u64 z3, .int .i64 (IntKind.i64.wrap z4)], .box w1.heap.size 25 [.int .i64 0, .int .u64 0, .int .u64 0, .int .i64 0]] := hs.sel [0, 1, 2, 3] rfl rfl
        replace hf := Fr.keep (ks := [2, 5, 31, 32, 34]) (L' := [(2, .pointer (some ⟨w1.heap.size, 0, none⟩)), (5, .pointer (some ⟨w7.heap.size, 0, none⟩)), (31, .bool false), (32, .slice ao2 z5.1.length cp2), (34, .slice ao3 (cutL b 0 64).length cp3)]) hf (by kernel_rfl)
        have hT := of_bd hS; clear hS; obtain ⟨z6, hz6, hS⟩ := hT
        refine clV ent32 (vs := [.slice ao2 z5.1.length cp2, .slice ao3 (cutL b 0 64).length cp3]) (caps := []) hf (by kernel_rfl) (by kernel_rfl) (by kernel_rfl) (by kernel_rfl) (slices_Equal_byte_byte_ok (p_s1 := z5.1) (p_s2 := (cutL b 0 64)) (hs.lend [1, 0] [] rfl rfl rfl rfl rfl) hz6) ?_
        clear hf; clear a; intro v w11 a hT hf; obtain ⟨F7, rfl, hr⟩ := hT
        replace hs : Sep w F R w11 F5 [.ro (tI .u8) (.slice ao3 (cutL b 0 64).length cp3) (cutL b 0 64), .row 5 (tI .u8) (.slice ao2 z5.1.length cp2) z5.1, .box w7.heap.size 25 [.int .i64 (IntKind.i64.wrap z1), .int .u64 z2, .int .u64 z3, .int .i64 (IntKind.i64.wrap z4)], .box w1.heap.size 25 [.int .i64 0, .int .u64 0, .int .u64 0, .int .i64 0]] := hs.backL [1, 0] [] [0, 1, 2, 3] rfl rfl rfl rfl rfl rfl hr trivial
        clear hr
        replace hs : Sep w F R w11 F5 [.box w7.heap.size 25 [.int .i64 (IntKind.i64.wrap z1), .int .u64 z2, .int .u64 z3, .int .i64 (IntKind.i64.wrap z4)], .box w1.heap.size 25 [.int .i64 0, .int .u64 0, .int .u64 0, .int .i64 0]] := hs.sel [2, 3] rfl rfl
        replace hf := Fr.keep (ks := [2, 5, 31, 35]) (L' := [(2, .pointer (some ⟨w1.heap.size, 0, none⟩)), (5, .pointer (some ⟨w7.heap.size, 0, none⟩)), (31, .bool false), (35, .bool z6)]) hf (by kernel_rfl)
        refine st tbOk 2 [2, 5, 37] (L' := [(2, .pointer (some ⟨w1.heap.size, 0, none⟩)), (5, .pointer (some ⟨w7.heap.size, 0, none⟩)), (37, .bool (!z6))]) hf (by kernel_rfl) ?_
        clear hf; clear a; intro a hf
        refine wpList_nil ?_
        exact hK1 (!z6) _ _ ⟨_, hs.sel [0, 1] rfl rfl, hf.keep (ks := [2, 5, 37]) (by kernel_rfl)⟩ hS

set_option maxHeartbeats 4000000 in
theorem law03_awake_ok {w : World} {F : SH}   (hs : Sep w F (blks []) w F []) {r : Bool} (hS : law03_awake = some r) :
    Calls Try.prog 13 [].toArray w (Gives (fun u w' => ∃ (F' : SH), u = .bool r ∧ Sep w F (blks []) w' F' [])) := by
  generalize (blks []) = R at hs ⊢
  unfold law03_awake at hS
  refine fn_ok (vs := []) Try.func13 rfl 58 Try.ntmps13 (Nat.le_of_ble_eq_true rfl) ?_
  intro a hf
  replace hf := Fr.cast (L' := []) hf (by kernel_rfl)
  refine sq ?_
  refine reg ?_
  refine st tbOk 1 [] (L' := []) hf (by kernel_rfl) ?_
  clear hf; clear a; intro a hf
  refine wpList_nil ?_
  refine sq ?_
  refine reg ?_
  refine st tbOk 1 [8] (L' := [(8, .agg #[.int .i64 3, .int .u64 0, .int .u64 64, .int .i64 1])]) hf (by kernel_rfl) ?_
  clear hf; clear a; intro a hf
  have hT := of_bd hS; clear hS; obtain ⟨z1, hz1, hS⟩ := hT
  refine clV ent14 (vs := [.agg #[.int .i64 3, .int .u64 0, .int .u64 64, .int .i64 1]]) (caps := []) hf (by kernel_rfl) (by kernel_rfl) (by kernel_rfl) (by kernel_rfl) (head_Put_ok (p_h := (3, 0, 64, 1)) (hs.enter [] rfl rfl) hz1) ?_
  clear hf; clear a; intro v w1 a hT hf; obtain ⟨ao1, cp1, F1, rfl, hr⟩ := hT
  replace hs : Sep w F R w1 F1 [.row 5 (tI .u8) (.slice ao1 z1.1.length cp1) z1.1] := hs.back [] [] rfl rfl rfl rfl hr
  clear hr
  replace hf := Fr.keep (ks := [9]) (L' := [(9, .tuple #[.slice ao1 z1.1.length cp1, .int .i64 z1.2])]) hf (by kernel_rfl)
  refine st tbOk 5 [1, 2] (L' := [(1, .slice ao1 z1.1.length cp1), (2, .int .i64 z1.2)]) hf (by kernel_rfl) ?_
  clear hf; clear a; intro a hf
  refine wpList_nil ?_
  refine sq ?_
  refine sq ?_
  refine ctj (fun (s1 : Bool) (a : Act) (w' : World) => ∃ (F2 : SH), Sep w F R w' F2 [.row 5 (tI .u8) (.slice ao1 z1.1.length cp1) z1.1] ∧ Fr 58 [(1, .slice ao1 z1.1.length cp1), (30, .bool s1)] a) hS ?_ ?_
  · clear hS hf hs; clear a; intro s1 a w2 hM hS
    obtain ⟨F2, hs, hf⟩ := hM
    refine cnd (b := s1) hf (by kernel_rfl) (fun hb4 => ?_) (fun hb4 => ?_)
    · replace hS := of_t hb4 hS
      refine sq ?_
      refine reg ?_
      refine st tbOk 1 [0] (L' := [(0, .bool false)]) hf (by kernel_rfl) ?_
      clear hf; clear a; intro a hf
      refine wpList_nil ?_
      have hr := Option.some.inj hS; subst hr
      refine wp_ret ?_
      exact ret_ok hf (vs := [.bool false]) (by kernel_rfl) ⟨_, rfl, hs.sel [] rfl rfl⟩
    · replace hS := of_f hb4 hS
      refine wp_skip ?_
      refine sq ?_
      refine reg ?_
      refine st tbOk 1 [1, 32] (L' := [(1, .slice ao1 z1.1.length cp1), (32, .slice ao1 z1.1.length cp1)]) hf (by kernel_rfl) ?_
      clear hf; clear a; intro a hf
      have hT := of_bd hS; clear hS; obtain ⟨z2, hz2, hS⟩ := hT
      refine clV ent17 (vs := [.slice ao1 z1.1.length cp1]) (caps := []) hf (by kernel_rfl) (by kernel_rfl) (by kernel_rfl) (by kernel_rfl) (head_Get_ok (b := z1.1) (hs.lend [0] [] rfl rfl rfl rfl rfl) hz2) ?_
      clear hf; clear a; intro v w3 a hT hf; obtain ⟨F3, rfl, hr⟩ := hT
      replace hs : Sep w F R w3 F2 [.row 5 (tI .u8) (.slice ao1 z1.1.length cp1) z1.1] := hs.backL [0] [] [0] rfl rfl rfl rfl rfl rfl hr trivial
      clear hr
      replace hf := Fr.keep (ks := [1, 33]) (L' := [(1, .slice ao1 z1.1.length cp1), (33, .tuple #[.agg #[.int .i64 z2.1.1, .int .u64 z2.1.2.1, .int .u64 z2.1.2.2.1, .int .i64 z2.1.2.2.2], .int .i64 z2.2])]) hf (by kernel_rfl)
      refine st tbOk 3 [1, 34, 35] (L' := [(1, .slice ao1 z1.1.length cp1), (34, .agg #[.int .i64 z2.1.1, .int .u64 z2.1.2.1, .int .u64 z2.1.2.2.1, .int .i64 z2.1.2.2.2]), (35, .int .i64 z2.2)]) hf (by kernel_rfl) ?_
      clear hf; clear a; intro a hf
      refine al tbOk i25 [.int .i64 0, .int .u64 0, .int .u64 0, .int .i64 0] rfl (by kernel_rfl) hf (by kernel_rfl) (by kernel_rfl) ?_
      clear hf; clear a; intro w4 a hb hx _ hf
      replace hs : Sep w F R w4 F2 [.box w3.heap.size 25 [.int .i64 0, .int .u64 0, .int .u64 0, .int .i64 0], .row 5 (tI .u8) (.slice ao1 z1.1.length cp1) z1.1] := hs.newBox hb hx
      clear hb hx
      replace hf := Fr.keep (ks := [1, 3, 34, 35]) (L' := [(1, .slice ao1 z1.1.length cp1), (3, .pointer (some ⟨w3.heap.size, 0, none⟩)), (34, .agg #[.int .i64 z2.1.1, .int .u64 z2.1.2.1, .int .u64 z2.1.2.2.1, .int .i64 z2.1.2.2.2]), (35, .int .i64 z2.2)]) hf (by kernel_rfl)
      refine stB tbOk i25 (hs.bx 0 rfl) 0 [.int .i64 z2.1.1, .int .u64 z2.1.2.1, .int .u64 z2.1.2.2.1, .int .i64 z2.1.2.2.2] [.int .i64 z2.1.1, .int .u64 z2.1.2.1, .int .u64 z2.1.2.2.1, .int .i64 z2.1.2.2.2] (v := .agg #[.int .i64 z2.1.1, .int .u64 z2.1.2.1, .int .u64 z2.1.2.2.1, .int .i64 z2.1.2.2.2]) rfl rfl (by kernel_rfl) (by kernel_rfl) (by kernel_rfl) (by kernel_rfl) hf (by kernel_rfl) (by kernel_rfl) (by kernel_rfl) ?_
      clear hf; clear a; intro w5 a hb hg _ hf
      replace hs : Sep w F R w5 F2 [.box w3.heap.size 25 [.int .i64 z2.1.1, .int .u64 z2.1.2.1, .int .u64 z2.1.2.2.1, .int .i64 z2.1.2.2.2], .row 5 (tI .u8) (.slice ao1 z1.1.length cp1) z1.1] := hs.updBox 0 rfl hb hg
      clear hb hg
      replace hf := Fr.keep (ks := [1, 3, 35]) (L' := [(1, .slice ao1 z1.1.length cp1), (3, .pointer (some ⟨w3.heap.size, 0, none⟩)), (35, .int .i64 z2.2)]) hf (by kernel_rfl)
      refine st tbOk 1 [1, 3, 4] (L' := [(1, .slice ao1 z1.1.length cp1), (3, .pointer (some ⟨w3.heap.size, 0, none⟩)), (4, .int .i64 z2.2)]) hf (by kernel_rfl) ?_
      clear hf; clear a; intro a hf
      refine wpList_nil ?_
      refine sq ?_
      refine reg ?_
      refine st tbOk 1 [3, 4, 37] (L' := [(3, .pointer (some ⟨w3.heap.size, 0, none⟩)), (4, .int .i64 z2.2), (37, .slice ao1 z1.1.length cp1)]) hf (by kernel_rfl) ?_
      clear hf; clear a; intro a hf
      have hT := of_gd hS; clear hS; obtain ⟨hc3, hS⟩ := hT
      obtain ⟨F4, _, hs⟩ := hs.frz 1 rfl
      replace hs : Sep w F R w5 F4 [.box w3.heap.size 25 [.int .i64 z2.1.1, .int .u64 z2.1.2.1, .int .u64 z2.1.2.2.1, .int .i64 z2.1.2.2.2], .ro (tI .u8) (.slice ao1 z1.1.length cp1) z1.1] := hs
      refine sl tbOk u26 i5 rfl (hs.ro 1 rfl) (lo := 0) (hi := 63) (m := 0) hc3 (.inl ⟨rfl, rfl⟩) (.inr ⟨_, .i64, rfl, by kernel_rfl⟩) (.inl rfl) hf (by kernel_rfl) (by kernel_rfl) (by kernel_rfl) ?_
      clear hf; clear a; intro ao2 cp2 a hr3 hf
      replace hs : Sep w F R w5 F4 [.ro (tI .u8) (.slice ao2 (cutL z1.1 0 63).length cp2) (cutL z1.1 0 63), .box w3.heap.size 25 [.int .i64 z2.1.1, .int .u64 z2.1.2.1, .int .u64 z2.1.2.2.1, .int .i64 z2.1.2.2.2], .ro (tI .u8) (.slice ao1 z1.1.length cp1) z1.1] := hs.addRo hr3
      replace hs : Sep w F R w5 F4 [.ro (tI .u8) (.slice ao2 (cutL z1.1 0 63).length cp2) (cutL z1.1 0 63), .box w3.heap.size 25 [.int .i64 z2.1.1, .int .u64 z2.1.2.1, .int .u64 z2.1.2.2.1, .int .i64 z2.1.2.2.2]] := hs.sel [0, 1] rfl rfl
      replace hf := Fr.keep (ks := [3, 4, 38]) (L' := [(3, .pointer (some ⟨w3.heap.size, 0, none⟩)), (4, .int .i64 z2.2), (38, .slice ao2 (cutL z1.1 0 63).length cp2)]) hf (by kernel_rfl)
      have hT := of_bd hS; clear hS; obtain ⟨z3, hz3, hS⟩ := hT
      refine clV ent17 (vs := [.slice ao2 (cutL z1.1 0 63).length cp2]) (caps := []) hf (by kernel_rfl) (by kernel_rfl) (by kernel_rfl) (by kernel_rfl) (head_Get_ok (b := (cutL z1.1 0 63)) (hs.enter [0] rfl rfl) hz3) ?_
      clear hf; clear a; intro v w6 a hT hf; obtain ⟨F5, rfl, hr⟩ := hT
      replace hs : Sep w F R w6 F5 [.ro (tI .u8) (.slice ao2 (cutL z1.1 0 63).length cp2) (cutL z1.1 0 63), .box w3.heap.size 25 [.int .i64 z2.1.1, .int .u64 z2.1.2.1, .int .u64 z2.1.2.2.1, .int .i64 z2.1.2.2.2]] := hs.back [0] [0, 1] rfl rfl rfl rfl hr
      clear hr
      replace hs : Sep w F R w6 F5 [.box w3.heap.size 25 [.int .i64 z2.1.1, .int .u64 z2.1.2.1, .int .u64 z2.1.2.2.1, .int .i64 z2.1.2.2.2]] := hs.sel [1] rfl rfl
      replace hf := Fr.keep (ks := [3, 4, 39]) (L' := [(3, .pointer (some ⟨w3.heap.size, 0, none⟩)), (4, .int .i64 z2.2), (39, .tuple #[.agg #[.int .i64 z3.1.1, .int .u64 z3.1.2.1, .int .u64 z3.1.2.2.1, .int .i64 z3.1.2.2.2], .int .i64 z3.2])]) hf (by kernel_rfl)
      refine st tbOk 3 [3, 4, 40, 41] (L' := [(3, .pointer (some ⟨w3.heap.size, 0, none⟩)), (4, .int .i64 z2.2), (40, .agg #[.int .i64 z3.1.1, .int .u64 z3.1.2.1, .int .u64 z3.1.2.2.1, .int .i64 z3.1.2.2.2]), (41, .int .i64 z3.2)]) hf (by kernel_rfl) ?_
      clear hf; clear a; intro a hf
      refine al tbOk i25 [.int .i64 0, .int .u64 0, .int .u64 0, .int .i64 0] rfl (by kernel_rfl) hf (by kernel_rfl) (by kernel_rfl) ?_
      clear hf; clear a; intro w7 a hb hx _ hf
      replace hs : Sep w F R w7 F5 [.box w6.heap.size 25 [.int .i64 0, .int .u64 0, .int .u64 0, .int .i64 0], .box w3.heap.size 25 [.int .i64 z2.1.1, .int .u64 z2.1.2.1, .int .u64 z2.1.2.2.1, .int .i64 z2.1.2.2.2]] := hs.newBox hb hx
      clear hb hx
      replace hf := Fr.keep (ks := [3, 4, 5, 40, 41]) (L' := [(3, .pointer (some ⟨w3.heap.size, 0, none⟩)), (4, .int .i64 z2.2), (5, .pointer (some ⟨w6.heap.size, 0, none⟩)), (40, .agg #[.int .i64 z3.1.1, .int .u64 z3.1.2.1, .int .u64 z3.1.2.2.1, .int .i64 z3.1.2.2.2]), (41, .int .i64 z3.2)]) hf (by kernel_rfl)
      refine stB tbOk i25 (hs.bx 0 rfl) 0 [.int .i64 z3.1.1, .int .u64 z3.1.2.1, .int .u64 z3.1.2.2.1, .int .i64 z3.1.2.2.2] [.int .i64 z3.1.1, .int .u64 z3.1.2.1, .int .u64 z3.1.2.2.1, .int .i64 z3.1.2.2.2] (v := .agg #[.int .i64 z3.1.1, .int .u64 z3.1.2.1, .int .u64 z3.1.2.2.1, .int .i64 z3.1.2.2.2]) rfl rfl (by kernel_rfl) (by kernel_rfl) (by kernel_rfl) (by kernel_rfl) hf (by kernel_rfl) (by kernel_rfl) (by kernel_rfl) ?_
      clear hf; clear a; intro w8 a hb hg _ hf
      replace hs : Sep w F R w8 F5 [.box w6.heap.size 25 [.int .i64 z3.1.1, .int .u64 z3.1.2.1, .int .u64 z3.1.2.2.1, .int .i64 z3.1.2.2.2], .box w3.heap.size 25 [.int .i64 z2.1.1, .int .u64 z2.1.2.1, .int .u64 z2.1.2.2.1, .int .i64 z2.1.2.2.2]] := hs.updBox 0 rfl hb hg
      clear hb hg
      replace hs : Sep w F R w8 F5 [.box w3.heap.size 25 [.int .i64 z2.1.1, .int .u64 z2.1.2.1, .int .u64 z2.1.2.2.1, .int .i64 z2.1.2.2.2]] := hs.sel [1] rfl rfl
      replace hf := Fr.keep (ks := [3, 4, 41]) (L' := [(3, .pointer (some ⟨w3.heap.size, 0, none⟩)), (4, .int .i64 z2.2), (41, .int .i64 z3.2)]) hf (by kernel_rfl)
      refine st tbOk 1 [3, 4, 6] (L' := [(3, .pointer (some ⟨w3.heap.size, 0, none⟩)), (4, .int .i64 z2.2), (6, .int .i64 z3.2)]) hf (by kernel_rfl) ?_
      clear hf; clear a; intro a hf
      refine wpList_nil ?_
      refine sq ?_
      refine ctj (fun (s2 : Bool) (a : Act) (w' : World) => ∃ (F6 : SH), Sep w F R w' F6 [] ∧ Fr 58 [(0, .bool s2)] a) hS ?_ ?_
      · clear hS hf hs; clear a; intro s2 a w9 hM hS
        obtain ⟨F6, hs, hf⟩ := hM
        have hr := Option.some.inj hS; subst hr
        refine wp_ret ?_
        exact ret_ok hf (vs := [.bool s2]) (by kernel_rfl) ⟨_, rfl, hs.sel [] rfl rfl⟩
      · clear hS; intro KK2 k2 hK2 hS
        refine reg ?_
        refine st tbOk 3 [3, 6, 44] (L' := [(3, .pointer (some ⟨w3.heap.size, 0, none⟩)), (6, .int .i64 z3.2), (44, .bool (z2.2 == 0))]) hf (by kernel_rfl) ?_
        clear hf; clear a; intro a hf
        rcases Bool.eq_false_or_eq_true (z2.2 == 0) with hb5 | hb5
        · replace hS := of_t hb5 hS
          replace hf := Fr.cast (L' := [(3, .pointer (some ⟨w3.heap.size, 0, none⟩)), (6, .int .i64 z3.2), (44, .bool true)]) hf (by rw [hb5])
          refine st tbOk 1 [3, 6, 44, 45] (L' := [(3, .pointer (some ⟨w3.heap.size, 0, none⟩)), (6, .int .i64 z3.2), (44, .bool true), (45, .pointer (some ⟨w3.heap.size, 2, none⟩))]) hf (by kernel_rfl) ?_
          clear hf; clear a; intro a hf
          refine ldC tbOk (T := 22) (hs.cbx 0 rfl) (LeH.refl _) 2 (.int .u64 z2.1.2.2.1) hf (by kernel_rfl) (by kernel_rfl) (by kernel_rfl) (by kernel_rfl) ?_
          clear hf; clear a; intro a hf
          replace hf := Fr.keep (ks := [3, 6, 44, 46]) (L' := [(3, .pointer (some ⟨w3.heap.size, 0, none⟩)), (6, .int .i64 z3.2), (44, .bool true), (46, .int .u64 z2.1.2.2.1)]) hf (by kernel_rfl)
          refine st tbOk 3 [3, 6, 49] (L' := [(3, .pointer (some ⟨w3.heap.size, 0, none⟩)), (6, .int .i64 z3.2), (49, .bool (z2.1.2.2.1 == 64))]) hf (by kernel_rfl) ?_
          clear hf; clear a; intro a hf
          rcases Bool.eq_false_or_eq_true (z2.1.2.2.1 == 64) with hb6 | hb6
          · replace hS := of_t hb6 hS
            replace hf := Fr.cast (L' := [(3, .pointer (some ⟨w3.heap.size, 0, none⟩)), (6, .int .i64 z3.2), (49, .bool true)]) hf (by rw [hb6])
            refine st tbOk 1 [6, 49, 50] (L' := [(6, .int .i64 z3.2), (49, .bool true), (50, .pointer (some ⟨w3.heap.size, 3, none⟩))]) hf (by kernel_rfl) ?_
            clear hf; clear a; intro a hf
            refine ldC tbOk (T := 3) (hs.cbx 0 rfl) (LeH.refl _) 3 (.int .i64 z2.1.2.2.2) hf (by kernel_rfl) (by kernel_rfl) (by kernel_rfl) (by kernel_rfl) ?_
            clear hf; clear a; intro a hf
            replace hs : Sep w F R w8 F5 [] := hs.sel [] rfl rfl
            replace hf := Fr.keep (ks := [6, 49, 51]) (L' := [(6, .int .i64 z3.2), (49, .bool true), (51, .int .i64 z2.1.2.2.2)]) hf (by kernel_rfl)
            refine st tbOk 3 [6, 54] (L' := [(6, .int .i64 z3.2), (54, .bool (z2.1.2.2.2 == 1))]) hf (by kernel_rfl) ?_
            clear hf; clear a; intro a hf
            rcases Bool.eq_false_or_eq_true (z2.1.2.2.2 == 1) with hb7 | hb7
            · replace hS := of_t hb7 hS
              replace hf := Fr.cast (L' := [(6, .int .i64 z3.2), (54, .bool true)]) hf (by rw [hb7])
              refine st tbOk 4 [0] (L' := [(0, .bool (z3.2 == 10))]) hf (by kernel_rfl) ?_
              clear hf; clear a; intro a hf
              refine wpList_nil ?_
              exact hK2 (z3.2 == 10) _ _ ⟨_, hs.sel [] rfl rfl, hf.keep (ks := [0]) (by kernel_rfl)⟩ hS
            · replace hS := of_f hb7 hS
              replace hf := Fr.cast (L' := [(6, .int .i64 z3.2), (54, .bool false)]) hf (by rw [hb7])
              refine st tbOk 4 [0] (L' := [(0, .bool false)]) hf (by kernel_rfl) ?_
              clear hf; clear a; intro a hf
              refine wpList_nil ?_
              exact hK2 false _ _ ⟨_, hs.sel [] rfl rfl, hf.keep (ks := [0]) (by kernel_rfl)⟩ hS
          · replace hS := of_f hb6 hS
            replace hf := Fr.cast (L' := [(3, .pointer (some ⟨w3.heap.size, 0, none⟩)), (6, .int .i64 z3.2), (49, .bool false)]) hf (by rw [hb6])
            refine st tbOk 9 [0] (L' := [(0, .bool false)]) hf (by kernel_rfl) ?_
            clear hf; clear a; intro a hf
            refine wpList_nil ?_
            exact hK2 false _ _ ⟨_, hs.sel [] rfl rfl, hf.keep (ks := [0]) (by kernel_rfl)⟩ hS
        · replace hS := of_f hb5 hS
          replace hf := Fr.cast (L' := [(3, .pointer (some ⟨w3.heap.size, 0, none⟩)), (6, .int .i64 z3.2), (44, .bool false)]) hf (by rw [hb5])
          refine st tbOk 14 [0] (L' := [(0, .bool false)]) hf (by kernel_rfl) ?_
          clear hf; clear a; intro a hf
          refine wpList_nil ?_
          exact hK2 false _ _ ⟨_, hs.sel [] rfl rfl, hf.keep (ks := [0]) (by kernel_rfl)⟩ hS
  · clear hS; intro KK1 k1 hK1 hS
    refine reg ?_
    refine st tbOk 3 [1, 14] (L' := [(1, .slice ao1 z1.1.length cp1), (14, .bool (z1.2 != 0))]) hf (by kernel_rfl) ?_
    clear hf; clear a; intro a hf
    rcases Bool.eq_false_or_eq_true (z1.2 != 0) with hb1 | hb1
    · replace hS := of_t hb1 hS
      replace hf := Fr.cast (L' := [(1, .slice ao1 z1.1.length cp1), (14, .bool true)]) hf (by rw [hb1])
      refine st tbOk 16 [1, 30] (L' := [(1, .slice ao1 z1.1.length cp1), (30, .bool true)]) hf (by kernel_rfl) ?_
      clear hf; clear a; intro a hf
      refine wpList_nil ?_
      exact hK1 true _ _ ⟨_, hs.sel [0] rfl rfl, hf.keep (ks := [1, 30]) (by kernel_rfl)⟩ hS
    · replace hS := of_f hb1 hS
      replace hf := Fr.cast (L' := [(1, .slice ao1 z1.1.length cp1), (14, .bool false)]) hf (by rw [hb1])
      refine st tbOk 5 [1, 19] (L' := [(1, .slice ao1 z1.1.length cp1), (19, .bool (((z1.1.length : Nat) : Int) != 64))]) hf (by kernel_rfl) ?_
      clear hf; clear a; intro a hf
      rcases Bool.eq_false_or_eq_true (((z1.1.length : Nat) : Int) != 64) with hb2 | hb2
      · replace hS := of_t hb2 hS
        replace hf := Fr.cast (L' := [(1, .slice ao1 z1.1.length cp1), (19, .bool true)]) hf (by rw [hb2])
        refine st tbOk 11 [1, 30] (L' := [(1, .slice ao1 z1.1.length cp1), (30, .bool true)]) hf (by kernel_rfl) ?_
        clear hf; clear a; intro a hf
        refine wpList_nil ?_
        exact hK1 true _ _ ⟨_, hs.sel [0] rfl rfl, hf.keep (ks := [1, 30]) (by kernel_rfl)⟩ hS
      · replace hS := of_f hb2 hS
        replace hf := Fr.cast (L' := [(1, .slice ao1 z1.1.length cp1), (19, .bool false)]) hf (by rw [hb2])
        refine st tbOk 1 [1, 19, 20] (L' := [(1, .slice ao1 z1.1.length cp1), (19, .bool false), (20, .slice ao1 z1.1.length cp1)]) hf (by kernel_rfl) ?_
        clear hf; clear a; intro a hf
        have hT := of_gd hS; clear hS; obtain ⟨hc1, hS⟩ := hT
        refine ixR tbOk u26 i5 rfl rfl (hs.raW 0 rfl) (k := .i64) (n := 0) hc1 hf (by kernel_rfl) (by kernel_rfl) (by kernel_rfl) (by kernel_rfl) ?_
        clear hf; clear a; intro pb1 po1 c1 a hp1 hr1 hf
        obtain rfl : c1 = [.int .u8 (gt z1.1 0)] := hr1
        replace hf := Fr.keep (ks := [1, 19, 21]) (L' := [(1, .slice ao1 z1.1.length cp1), (19, .bool false), (21, .pointer (some ⟨pb1, po1, none⟩))]) hf (by kernel_rfl)
        refine ldC tbOk (T := 5) hp1 (LeH.refl _) 0 (.int .u8 (gt z1.1 0)) hf (by kernel_rfl) (by kernel_rfl) (by kernel_rfl) (by kernel_rfl) ?_
        clear hf; clear a; intro a hf
        replace hf := Fr.keep (ks := [1, 19, 22]) (L' := [(1, .slice ao1 z1.1.length cp1), (19, .bool false), (22, .int .u8 (gt z1.1 0))]) hf (by kernel_rfl)
        refine st tbOk 3 [1, 25] (L' := [(1, .slice ao1 z1.1.length cp1), (25, .bool ((gt z1.1 0) != 127))]) hf (by kernel_rfl) ?_
        clear hf; clear a; intro a hf
        rcases Bool.eq_false_or_eq_true ((gt z1.1 0) != 127) with hb3 | hb3
        · replace hS := of_t hb3 hS
          replace hf := Fr.cast (L' := [(1, .slice ao1 z1.1.length cp1), (25, .bool true)]) hf (by rw [hb3])
          refine st tbOk 5 [1, 30] (L' := [(1, .slice ao1 z1.1.length cp1), (30, .bool true)]) hf (by kernel_rfl) ?_
          clear hf; clear a; intro a hf
          refine wpList_nil ?_
          exact hK1 true _ _ ⟨_, hs.sel [0] rfl rfl, hf.keep (ks := [1, 30]) (by kernel_rfl)⟩ hS
        · replace hS := of_f hb3 hS
          replace hf := Fr.cast (L' := [(1, .slice ao1 z1.1.length cp1), (25, .bool false)]) hf (by rw [hb3])
          refine st tbOk 1 [1, 25, 26] (L' := [(1, .slice ao1 z1.1.length cp1), (25, .bool false), (26, .slice ao1 z1.1.length cp1)]) hf (by kernel_rfl) ?_
          clear hf; clear a; intro a hf
          have hT := of_gd hS; clear hS; obtain ⟨hc2, hS⟩ := hT
          refine ixR tbOk u26 i5 rfl rfl (hs.raW 0 rfl) (k := .i64) (n := 16) hc2 hf (by kernel_rfl) (by kernel_rfl) (by kernel_rfl) (by kernel_rfl) ?_
          clear hf; clear a; intro pb2 po2 c2 a hp2 hr2 hf
          obtain rfl : c2 = [.int .u8 (gt z1.1 16)] := hr2
          replace hf := Fr.keep (ks := [1, 25, 27]) (L' := [(1, .slice ao1 z1.1.length cp1), (25, .bool false), (27, .pointer (some ⟨pb2, po2, none⟩))]) hf (by kernel_rfl)
          refine ldC tbOk (T := 5) hp2 (LeH.refl _) 0 (.int .u8 (gt z1.1 16)) hf (by kernel_rfl) (by kernel_rfl) (by kernel_rfl) (by kernel_rfl) ?_
          clear hf; clear a; intro a hf
          replace hf := Fr.keep (ks := [1, 25, 28]) (L' := [(1, .slice ao1 z1.1.length cp1), (25, .bool false), (28, .int .u8 (gt z1.1 16))]) hf (by kernel_rfl)
          refine st tbOk 2 [1, 30] (L' := [(1, .slice ao1 z1.1.length cp1), (30, .bool ((gt z1.1 16) != 3))]) hf (by kernel_rfl) ?_
          clear hf; clear a; intro a hf
          refine wpList_nil ?_
          exact hK1 ((gt z1.1 16) != 3) _ _ ⟨_, hs.sel [0] rfl rfl, hf.keep (ks := [1, 30]) (by kernel_rfl)⟩ hS

end Dm
