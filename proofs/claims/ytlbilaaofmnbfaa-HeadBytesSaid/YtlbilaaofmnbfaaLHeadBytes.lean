/-
  The walk of the law HeadBytes; printed by a program of this repo. No condition.
-/
import Derived.Test.YtlbilaaofmnbfaaWT
import Derived.Test.YtlbilaaofmnbfaaW1
import Derived.Test.YtlbilaaofmnbfaaW2
import Derived.Test.YtlbilaaofmnbfaaW4
namespace Dm
open Go Go.RowKit Go.Proofs

set_option maxHeartbeats 4000000 in
theorem law03_HeadBytes_ok {w : World} {F : SH} {kind : Int} {entry : Int} {segs : Int} {count : Int} {p_at : Int} {p_c : Int}  (hs : Sep w F (blks []) w F []) {r : Bool} (hS : law03_HeadBytes kind entry segs count p_at p_c = some r) :
    Calls Try.prog 6 [.int .u16 kind, .int .u64 entry, .int .u64 segs, .int .u16 count, .int .u8 p_at, .int .u8 p_c].toArray w (Gives (fun u w' => ∃ (F' : SH), u = .bool r ∧ Sep w F (blks []) w' F' [])) := by
  generalize (blks []) = R at hs ⊢
  unfold law03_HeadBytes at hS
  refine fn_ok (vs := [.int .u16 kind, .int .u64 entry, .int .u64 segs, .int .u16 count, .int .u8 p_at, .int .u8 p_c]) Try.func6 rfl 73 Try.ntmps6 (Nat.le_of_ble_eq_true rfl) ?_
  intro a hf
  replace hf := Fr.cast (L' := [(0, .int .u16 kind), (1, .int .u64 entry), (2, .int .u64 segs), (3, .int .u16 count), (4, .int .u8 p_at), (5, .int .u8 p_c)]) hf (by kernel_rfl)
  refine sq ?_
  refine reg ?_
  refine st tbOk 1 [0, 1, 2, 3, 4, 5] (L' := [(0, .int .u16 kind), (1, .int .u64 entry), (2, .int .u64 segs), (3, .int .u16 count), (4, .int .u8 p_at), (5, .int .u8 p_c)]) hf (by kernel_rfl) ?_
  clear hf; clear a; intro a hf
  refine wpList_nil ?_
  refine sq ?_
  refine reg ?_
  have hT := of_bd hS; clear hS; obtain ⟨z1, hz1, hS⟩ := hT
  refine clV ent13 (vs := []) (caps := []) hf (by kernel_rfl) (by kernel_rfl) (by kernel_rfl) (by kernel_rfl) (law03_awake_ok (hs.enter [] rfl rfl) hz1) ?_
  clear hf; clear a; intro v w1 a hT hf; obtain ⟨F1, rfl, hr⟩ := hT
  replace hs : Sep w F R w1 F1 [] := hs.back [] [] rfl rfl rfl rfl hr
  clear hr
  replace hf := Fr.keep (ks := [0, 1, 2, 3, 4, 5, 20]) (L' := [(0, .int .u16 kind), (1, .int .u64 entry), (2, .int .u64 segs), (3, .int .u16 count), (4, .int .u8 p_at), (5, .int .u8 p_c), (20, .bool z1)]) hf (by kernel_rfl)
  refine st tbOk 1 [0, 1, 2, 3, 4, 5, 13] (L' := [(0, .int .u16 kind), (1, .int .u64 entry), (2, .int .u64 segs), (3, .int .u16 count), (4, .int .u8 p_at), (5, .int .u8 p_c), (13, .bool z1)]) hf (by kernel_rfl) ?_
  clear hf; clear a; intro a hf
  refine wpList_nil ?_
  refine sq ?_
  refine sq ?_
  refine reg ?_
  refine st tbOk 2 [0, 1, 2, 3, 4, 5, 22] (L' := [(0, .int .u16 kind), (1, .int .u64 entry), (2, .int .u64 segs), (3, .int .u16 count), (4, .int .u8 p_at), (5, .int .u8 p_c), (22, .bool (!z1))]) hf (by kernel_rfl) ?_
  clear hf; clear a; intro a hf
  refine wpList_nil ?_
  refine cnd (b := !z1) hf (by kernel_rfl) (fun hb1 => ?_) (fun hb1 => ?_)
  · replace hS := of_t hb1 hS
    refine sq ?_
    refine reg ?_
    refine st tbOk 1 [12] (L' := [(12, .bool false)]) hf (by kernel_rfl) ?_
    clear hf; clear a; intro a hf
    refine wpList_nil ?_
    have hr := Option.some.inj hS; subst hr
    refine wp_ret ?_
    exact ret_ok hf (vs := [.bool false]) (by kernel_rfl) ⟨_, rfl, hs.sel [] rfl rfl⟩
  · replace hS := of_f hb1 hS
    refine wp_skip ?_
    refine sq ?_
    refine reg ?_
    refine st tbOk 3 [0, 3, 4, 5, 26] (L' := [(0, .int .u16 kind), (3, .int .u16 count), (4, .int .u8 p_at), (5, .int .u8 p_c), (26, .agg #[.int .i64 2, .int .u64 entry, .int .u64 segs, .int .i64 1])]) hf (by kernel_rfl) ?_
    clear hf; clear a; intro a hf
    have hT := of_bd hS; clear hS; obtain ⟨z2, hz2, hS⟩ := hT
    refine clV ent15 (vs := [.agg #[.int .i64 2, .int .u64 entry, .int .u64 segs, .int .i64 1]]) (caps := []) hf (by kernel_rfl) (by kernel_rfl) (by kernel_rfl) (by kernel_rfl) (ref03_Put_ok (p_h := (2, entry, segs, 1)) (hs.enter [] rfl rfl) hz2) ?_
    clear hf; clear a; intro v w2 a hT hf; obtain ⟨ao1, cp1, F2, rfl, hr⟩ := hT
    replace hs : Sep w F R w2 F2 [.row 5 (tI .u8) (.slice ao1 z2.1.length cp1) z2.1] := hs.back [] [] rfl rfl rfl rfl hr
    clear hr
    replace hf := Fr.keep (ks := [0, 3, 4, 5, 27]) (L' := [(0, .int .u16 kind), (3, .int .u16 count), (4, .int .u8 p_at), (5, .int .u8 p_c), (27, .tuple #[.slice ao1 z2.1.length cp1, .int .i64 z2.2])]) hf (by kernel_rfl)
    refine st tbOk 5 [0, 3, 4, 5, 14] (L' := [(0, .int .u16 kind), (3, .int .u16 count), (4, .int .u8 p_at), (5, .int .u8 p_c), (14, .slice ao1 z2.1.length cp1)]) hf (by kernel_rfl) ?_
    clear hf; clear a; intro a hf
    refine wpList_nil ?_
    refine sq ?_
    refine reg ?_
    refine st tbOk 3 [0, 3, 4, 5, 14, 30, 32] (L' := [(0, .int .u16 kind), (3, .int .u16 count), (4, .int .u8 p_at), (5, .int .u8 p_c), (14, .slice ao1 z2.1.length cp1), (30, .slice ao1 z2.1.length cp1), (32, .int .u8 (IntKind.u8.wrap kind))]) hf (by kernel_rfl) ?_
    clear hf; clear a; intro a hf
    have hT := of_gd hS; clear hS; obtain ⟨hc1, hS⟩ := hT
    refine ixW tbOk u26 i5 (hs.own 0 rfl) (k := .i64) (n := 16) hc1 hf (by kernel_rfl) (by kernel_rfl) (by kernel_rfl) (by kernel_rfl) ?_
    clear hf; clear a; intro pb1 po1 a hq1 hf
    replace hf := Fr.keep (ks := [0, 3, 4, 5, 14, 32, 33]) (L' := [(0, .int .u16 kind), (3, .int .u16 count), (4, .int .u8 p_at), (5, .int .u8 p_c), (14, .slice ao1 z2.1.length cp1), (32, .int .u8 (IntKind.u8.wrap kind)), (33, .pointer (some ⟨pb1, po1, none⟩))]) hf (by kernel_rfl)
    refine stW tbOk i5 rfl (hs.own 0 rfl) hc1 0 hq1 [.int .u8 (IntKind.u8.wrap kind)] (z := IntKind.u8.wrap kind) (fun _ e => (congrArg (fun c => spl c 0 [.int .u8 (IntKind.u8.wrap kind)]) e).trans rfl) (u := .int .u8 (IntKind.u8.wrap kind)) rfl rfl (by kernel_rfl) (by kernel_rfl) hf (by kernel_rfl) (by kernel_rfl) (by kernel_rfl) ?_
    clear hf; clear a; intro w3 a ho hg hf
    replace hs := hs.updRow 0 rfl ho hg (fun _ h => .inl h)
    clear ho hg
    replace hs : Sep w F R w3 F2 [.row 5 (tI .u8) (.slice ao1 (z2.1.set (Int.toNat 16) (IntKind.u8.wrap kind)).length cp1) (z2.1.set (Int.toNat 16) (IntKind.u8.wrap kind))] := Sep.cast hs (by simp only [List.length_set]; rfl)
    replace hf := Fr.cast (L' := [(0, .int .u16 kind), (3, .int .u16 count), (4, .int .u8 p_at), (5, .int .u8 p_c), (14, .slice ao1 (z2.1.set (Int.toNat 16) (IntKind.u8.wrap kind)).length cp1), (32, .int .u8 (IntKind.u8.wrap kind)), (33, .pointer (some ⟨pb1, po1, none⟩))]) hf (by simp only [List.length_set])
    replace hf := Fr.keep (ks := [0, 3, 4, 5, 14]) (L' := [(0, .int .u16 kind), (3, .int .u16 count), (4, .int .u8 p_at), (5, .int .u8 p_c), (14, .slice ao1 (z2.1.set (Int.toNat 16) (IntKind.u8.wrap kind)).length cp1)]) hf (by kernel_rfl)
    refine wpList_nil ?_
    refine sq ?_
    refine reg ?_
    refine st tbOk 4 [3, 4, 5, 14, 34, 37] (L' := [(3, .int .u16 count), (4, .int .u8 p_at), (5, .int .u8 p_c), (14, .slice ao1 (z2.1.set (Int.toNat 16) (IntKind.u8.wrap kind)).length cp1), (34, .slice ao1 (z2.1.set (Int.toNat 16) (IntKind.u8.wrap kind)).length cp1), (37, .int .u8 (IntKind.u8.wrap (shr .u16 kind 8)))]) hf (by kernel_rfl) ?_
    clear hf; clear a; intro a hf
    have hT := of_gd hS; clear hS; obtain ⟨hc2, hS⟩ := hT
    refine ixW tbOk u26 i5 (hs.own 0 rfl) (k := .i64) (n := 17) hc2 hf (by kernel_rfl) (by kernel_rfl) (by kernel_rfl) (by kernel_rfl) ?_
    clear hf; clear a; intro pb2 po2 a hq2 hf
    replace hf := Fr.keep (ks := [3, 4, 5, 14, 37, 38]) (L' := [(3, .int .u16 count), (4, .int .u8 p_at), (5, .int .u8 p_c), (14, .slice ao1 (z2.1.set (Int.toNat 16) (IntKind.u8.wrap kind)).length cp1), (37, .int .u8 (IntKind.u8.wrap (shr .u16 kind 8))), (38, .pointer (some ⟨pb2, po2, none⟩))]) hf (by kernel_rfl)
    refine stW tbOk i5 rfl (hs.own 0 rfl) hc2 0 hq2 [.int .u8 (IntKind.u8.wrap (shr .u16 kind 8))] (z := IntKind.u8.wrap (shr .u16 kind 8)) (fun _ e => (congrArg (fun c => spl c 0 [.int .u8 (IntKind.u8.wrap (shr .u16 kind 8))]) e).trans rfl) (u := .int .u8 (IntKind.u8.wrap (shr .u16 kind 8))) rfl rfl (by kernel_rfl) (by kernel_rfl) hf (by kernel_rfl) (by kernel_rfl) (by kernel_rfl) ?_
    clear hf; clear a; intro w4 a ho hg hf
    replace hs := hs.updRow 0 rfl ho hg (fun _ h => .inl h)
    clear ho hg
    replace hs : Sep w F R w4 F2 [.row 5 (tI .u8) (.slice ao1 ((z2.1.set (Int.toNat 16) (IntKind.u8.wrap kind)).set (Int.toNat 17) (IntKind.u8.wrap (shr .u16 kind 8))).length cp1) ((z2.1.set (Int.toNat 16) (IntKind.u8.wrap kind)).set (Int.toNat 17) (IntKind.u8.wrap (shr .u16 kind 8)))] := Sep.cast hs (by simp only [List.length_set]; rfl)
    replace hf := Fr.cast (L' := [(3, .int .u16 count), (4, .int .u8 p_at), (5, .int .u8 p_c), (14, .slice ao1 ((z2.1.set (Int.toNat 16) (IntKind.u8.wrap kind)).set (Int.toNat 17) (IntKind.u8.wrap (shr .u16 kind 8))).length cp1), (37, .int .u8 (IntKind.u8.wrap (shr .u16 kind 8))), (38, .pointer (some ⟨pb2, po2, none⟩))]) hf (by simp only [List.length_set])
    replace hf := Fr.keep (ks := [3, 4, 5, 14]) (L' := [(3, .int .u16 count), (4, .int .u8 p_at), (5, .int .u8 p_c), (14, .slice ao1 ((z2.1.set (Int.toNat 16) (IntKind.u8.wrap kind)).set (Int.toNat 17) (IntKind.u8.wrap (shr .u16 kind 8))).length cp1)]) hf (by kernel_rfl)
    refine wpList_nil ?_
    refine sq ?_
    refine reg ?_
    refine st tbOk 3 [3, 4, 5, 14, 39, 41] (L' := [(3, .int .u16 count), (4, .int .u8 p_at), (5, .int .u8 p_c), (14, .slice ao1 ((z2.1.set (Int.toNat 16) (IntKind.u8.wrap kind)).set (Int.toNat 17) (IntKind.u8.wrap (shr .u16 kind 8))).length cp1), (39, .slice ao1 ((z2.1.set (Int.toNat 16) (IntKind.u8.wrap kind)).set (Int.toNat 17) (IntKind.u8.wrap (shr .u16 kind 8))).length cp1), (41, .int .u8 (IntKind.u8.wrap count))]) hf (by kernel_rfl) ?_
    clear hf; clear a; intro a hf
    have hT := of_gd hS; clear hS; obtain ⟨hc3, hS⟩ := hT
    refine ixW tbOk u26 i5 (hs.own 0 rfl) (k := .i64) (n := 56) hc3 hf (by kernel_rfl) (by kernel_rfl) (by kernel_rfl) (by kernel_rfl) ?_
    clear hf; clear a; intro pb3 po3 a hq3 hf
    replace hf := Fr.keep (ks := [3, 4, 5, 14, 41, 42]) (L' := [(3, .int .u16 count), (4, .int .u8 p_at), (5, .int .u8 p_c), (14, .slice ao1 ((z2.1.set (Int.toNat 16) (IntKind.u8.wrap kind)).set (Int.toNat 17) (IntKind.u8.wrap (shr .u16 kind 8))).length cp1), (41, .int .u8 (IntKind.u8.wrap count)), (42, .pointer (some ⟨pb3, po3, none⟩))]) hf (by kernel_rfl)
    refine stW tbOk i5 rfl (hs.own 0 rfl) hc3 0 hq3 [.int .u8 (IntKind.u8.wrap count)] (z := IntKind.u8.wrap count) (fun _ e => (congrArg (fun c => spl c 0 [.int .u8 (IntKind.u8.wrap count)]) e).trans rfl) (u := .int .u8 (IntKind.u8.wrap count)) rfl rfl (by kernel_rfl) (by kernel_rfl) hf (by kernel_rfl) (by kernel_rfl) (by kernel_rfl) ?_
    clear hf; clear a; intro w5 a ho hg hf
    replace hs := hs.updRow 0 rfl ho hg (fun _ h => .inl h)
    clear ho hg
    replace hs : Sep w F R w5 F2 [.row 5 (tI .u8) (.slice ao1 (((z2.1.set (Int.toNat 16) (IntKind.u8.wrap kind)).set (Int.toNat 17) (IntKind.u8.wrap (shr .u16 kind 8))).set (Int.toNat 56) (IntKind.u8.wrap count)).length cp1) (((z2.1.set (Int.toNat 16) (IntKind.u8.wrap kind)).set (Int.toNat 17) (IntKind.u8.wrap (shr .u16 kind 8))).set (Int.toNat 56) (IntKind.u8.wrap count))] := Sep.cast hs (by simp only [List.length_set]; rfl)
    replace hf := Fr.cast (L' := [(3, .int .u16 count), (4, .int .u8 p_at), (5, .int .u8 p_c), (14, .slice ao1 (((z2.1.set (Int.toNat 16) (IntKind.u8.wrap kind)).set (Int.toNat 17) (IntKind.u8.wrap (shr .u16 kind 8))).set (Int.toNat 56) (IntKind.u8.wrap count)).length cp1), (41, .int .u8 (IntKind.u8.wrap count)), (42, .pointer (some ⟨pb3, po3, none⟩))]) hf (by simp only [List.length_set])
    replace hf := Fr.keep (ks := [3, 4, 5, 14]) (L' := [(3, .int .u16 count), (4, .int .u8 p_at), (5, .int .u8 p_c), (14, .slice ao1 (((z2.1.set (Int.toNat 16) (IntKind.u8.wrap kind)).set (Int.toNat 17) (IntKind.u8.wrap (shr .u16 kind 8))).set (Int.toNat 56) (IntKind.u8.wrap count)).length cp1)]) hf (by kernel_rfl)
    refine wpList_nil ?_
    refine sq ?_
    refine reg ?_
    refine st tbOk 4 [4, 5, 14, 43, 46] (L' := [(4, .int .u8 p_at), (5, .int .u8 p_c), (14, .slice ao1 (((z2.1.set (Int.toNat 16) (IntKind.u8.wrap kind)).set (Int.toNat 17) (IntKind.u8.wrap (shr .u16 kind 8))).set (Int.toNat 56) (IntKind.u8.wrap count)).length cp1), (43, .slice ao1 (((z2.1.set (Int.toNat 16) (IntKind.u8.wrap kind)).set (Int.toNat 17) (IntKind.u8.wrap (shr .u16 kind 8))).set (Int.toNat 56) (IntKind.u8.wrap count)).length cp1), (46, .int .u8 (IntKind.u8.wrap (shr .u16 count 8)))]) hf (by kernel_rfl) ?_
    clear hf; clear a; intro a hf
    have hT := of_gd hS; clear hS; obtain ⟨hc4, hS⟩ := hT
    refine ixW tbOk u26 i5 (hs.own 0 rfl) (k := .i64) (n := 57) hc4 hf (by kernel_rfl) (by kernel_rfl) (by kernel_rfl) (by kernel_rfl) ?_
    clear hf; clear a; intro pb4 po4 a hq4 hf
    replace hf := Fr.keep (ks := [4, 5, 14, 46, 47]) (L' := [(4, .int .u8 p_at), (5, .int .u8 p_c), (14, .slice ao1 (((z2.1.set (Int.toNat 16) (IntKind.u8.wrap kind)).set (Int.toNat 17) (IntKind.u8.wrap (shr .u16 kind 8))).set (Int.toNat 56) (IntKind.u8.wrap count)).length cp1), (46, .int .u8 (IntKind.u8.wrap (shr .u16 count 8))), (47, .pointer (some ⟨pb4, po4, none⟩))]) hf (by kernel_rfl)
    refine stW tbOk i5 rfl (hs.own 0 rfl) hc4 0 hq4 [.int .u8 (IntKind.u8.wrap (shr .u16 count 8))] (z := IntKind.u8.wrap (shr .u16 count 8)) (fun _ e => (congrArg (fun c => spl c 0 [.int .u8 (IntKind.u8.wrap (shr .u16 count 8))]) e).trans rfl) (u := .int .u8 (IntKind.u8.wrap (shr .u16 count 8))) rfl rfl (by kernel_rfl) (by kernel_rfl) hf (by kernel_rfl) (by kernel_rfl) (by kernel_rfl) ?_
    clear hf; clear a; intro w6 a ho hg hf
    replace hs := hs.updRow 0 rfl ho hg (fun _ h => .inl h)
    clear ho hg
    replace hs : Sep w F R w6 F2 [.row 5 (tI .u8) (.slice ao1 ((((z2.1.set (Int.toNat 16) (IntKind.u8.wrap kind)).set (Int.toNat 17) (IntKind.u8.wrap (shr .u16 kind 8))).set (Int.toNat 56) (IntKind.u8.wrap count)).set (Int.toNat 57) (IntKind.u8.wrap (shr .u16 count 8))).length cp1) ((((z2.1.set (Int.toNat 16) (IntKind.u8.wrap kind)).set (Int.toNat 17) (IntKind.u8.wrap (shr .u16 kind 8))).set (Int.toNat 56) (IntKind.u8.wrap count)).set (Int.toNat 57) (IntKind.u8.wrap (shr .u16 count 8)))] := Sep.cast hs (by simp only [List.length_set]; rfl)
    replace hf := Fr.cast (L' := [(4, .int .u8 p_at), (5, .int .u8 p_c), (14, .slice ao1 ((((z2.1.set (Int.toNat 16) (IntKind.u8.wrap kind)).set (Int.toNat 17) (IntKind.u8.wrap (shr .u16 kind 8))).set (Int.toNat 56) (IntKind.u8.wrap count)).set (Int.toNat 57) (IntKind.u8.wrap (shr .u16 count 8))).length cp1), (46, .int .u8 (IntKind.u8.wrap (shr .u16 count 8))), (47, .pointer (some ⟨pb4, po4, none⟩))]) hf (by simp only [List.length_set])
    replace hf := Fr.keep (ks := [4, 5, 14]) (L' := [(4, .int .u8 p_at), (5, .int .u8 p_c), (14, .slice ao1 ((((z2.1.set (Int.toNat 16) (IntKind.u8.wrap kind)).set (Int.toNat 17) (IntKind.u8.wrap (shr .u16 kind 8))).set (Int.toNat 56) (IntKind.u8.wrap count)).set (Int.toNat 57) (IntKind.u8.wrap (shr .u16 count 8))).length cp1)]) hf (by kernel_rfl)
    refine wpList_nil ?_
    refine sq ?_
    refine sq ?_
    refine reg ?_
    refine st tbOk 2 [4, 5, 14, 49] (L' := [(4, .int .u8 p_at), (5, .int .u8 p_c), (14, .slice ao1 ((((z2.1.set (Int.toNat 16) (IntKind.u8.wrap kind)).set (Int.toNat 17) (IntKind.u8.wrap (shr .u16 kind 8))).set (Int.toNat 56) (IntKind.u8.wrap count)).set (Int.toNat 57) (IntKind.u8.wrap (shr .u16 count 8))).length cp1), (49, .bool (decide (p_at < 64)))]) hf (by kernel_rfl) ?_
    clear hf; clear a; intro a hf
    refine wpList_nil ?_
    refine ctj (fun (s1 : List Int) (a : Act) (w' : World) => ∃ (ao2 : Option Addr) (cp2 : Nat) (F3 : SH), Sep w F R w' F3 [.row 5 (tI .u8) (.slice ao2 s1.length cp2) s1] ∧ Fr 73 [(14, .slice ao2 s1.length cp2)] a) hS ?_ ?_
    · clear hS hf hs; clear a; intro s1 a w8 hM hS
      obtain ⟨ao2, cp2, F3, hs, hf⟩ := hM
      refine sq ?_
      refine reg ?_
      refine st tbOk 1 [14, 55] (L' := [(14, .slice ao2 s1.length cp2), (55, .slice ao2 s1.length cp2)]) hf (by kernel_rfl) ?_
      clear hf; clear a; intro a hf
      have hT := of_bd hS; clear hS; obtain ⟨z3, hz3, hS⟩ := hT
      refine clV ent17 (vs := [.slice ao2 s1.length cp2]) (caps := []) hf (by kernel_rfl) (by kernel_rfl) (by kernel_rfl) (by kernel_rfl) (head_Get_ok (b := s1) (hs.lend [0] [] rfl rfl rfl rfl rfl) hz3) ?_
      clear hf; clear a; intro v w9 a hT hf; obtain ⟨F4, rfl, hr⟩ := hT
      replace hs : Sep w F R w9 F3 [.row 5 (tI .u8) (.slice ao2 s1.length cp2) s1] := hs.backL [0] [] [0] rfl rfl rfl rfl rfl rfl hr trivial
      clear hr
      replace hf := Fr.keep (ks := [14, 56]) (L' := [(14, .slice ao2 s1.length cp2), (56, .tuple #[.agg #[.int .i64 z3.1.1, .int .u64 z3.1.2.1, .int .u64 z3.1.2.2.1, .int .i64 z3.1.2.2.2], .int .i64 z3.2])]) hf (by kernel_rfl)
      refine st tbOk 3 [14, 57, 58] (L' := [(14, .slice ao2 s1.length cp2), (57, .agg #[.int .i64 z3.1.1, .int .u64 z3.1.2.1, .int .u64 z3.1.2.2.1, .int .i64 z3.1.2.2.2]), (58, .int .i64 z3.2)]) hf (by kernel_rfl) ?_
      clear hf; clear a; intro a hf
      refine al tbOk i25 [.int .i64 0, .int .u64 0, .int .u64 0, .int .i64 0] rfl (by kernel_rfl) hf (by kernel_rfl) (by kernel_rfl) ?_
      clear hf; clear a; intro w10 a hb hx _ hf
      replace hs : Sep w F R w10 F3 [.box w9.heap.size 25 [.int .i64 0, .int .u64 0, .int .u64 0, .int .i64 0], .row 5 (tI .u8) (.slice ao2 s1.length cp2) s1] := hs.newBox hb hx
      clear hb hx
      replace hf := Fr.keep (ks := [14, 16, 57, 58]) (L' := [(14, .slice ao2 s1.length cp2), (16, .pointer (some ⟨w9.heap.size, 0, none⟩)), (57, .agg #[.int .i64 z3.1.1, .int .u64 z3.1.2.1, .int .u64 z3.1.2.2.1, .int .i64 z3.1.2.2.2]), (58, .int .i64 z3.2)]) hf (by kernel_rfl)
      refine stB tbOk i25 (hs.bx 0 rfl) 0 [.int .i64 z3.1.1, .int .u64 z3.1.2.1, .int .u64 z3.1.2.2.1, .int .i64 z3.1.2.2.2] [.int .i64 z3.1.1, .int .u64 z3.1.2.1, .int .u64 z3.1.2.2.1, .int .i64 z3.1.2.2.2] (v := .agg #[.int .i64 z3.1.1, .int .u64 z3.1.2.1, .int .u64 z3.1.2.2.1, .int .i64 z3.1.2.2.2]) rfl rfl (by kernel_rfl) (by kernel_rfl) (by kernel_rfl) (by kernel_rfl) hf (by kernel_rfl) (by kernel_rfl) (by kernel_rfl) ?_
      clear hf; clear a; intro w11 a hb hg _ hf
      replace hs : Sep w F R w11 F3 [.box w9.heap.size 25 [.int .i64 z3.1.1, .int .u64 z3.1.2.1, .int .u64 z3.1.2.2.1, .int .i64 z3.1.2.2.2], .row 5 (tI .u8) (.slice ao2 s1.length cp2) s1] := hs.updBox 0 rfl hb hg
      clear hb hg
      replace hf := Fr.keep (ks := [14, 16, 58]) (L' := [(14, .slice ao2 s1.length cp2), (16, .pointer (some ⟨w9.heap.size, 0, none⟩)), (58, .int .i64 z3.2)]) hf (by kernel_rfl)
      refine st tbOk 1 [14, 16, 17] (L' := [(14, .slice ao2 s1.length cp2), (16, .pointer (some ⟨w9.heap.size, 0, none⟩)), (17, .int .i64 z3.2)]) hf (by kernel_rfl) ?_
      clear hf; clear a; intro a hf
      refine wpList_nil ?_
      refine sq ?_
      refine reg ?_
      refine st tbOk 1 [16, 17, 60] (L' := [(16, .pointer (some ⟨w9.heap.size, 0, none⟩)), (17, .int .i64 z3.2), (60, .slice ao2 s1.length cp2)]) hf (by kernel_rfl) ?_
      clear hf; clear a; intro a hf
      have hT := of_bd hS; clear hS; obtain ⟨z4, hz4, hS⟩ := hT
      refine clV ent18 (vs := [.slice ao2 s1.length cp2]) (caps := []) hf (by kernel_rfl) (by kernel_rfl) (by kernel_rfl) (by kernel_rfl) (ref03_Get_ok (b := s1) (hs.lend [1] [] rfl rfl rfl rfl rfl) hz4) ?_
      clear hf; clear a; intro v w12 a hT hf; obtain ⟨F5, rfl, hr⟩ := hT
      replace hs : Sep w F R w12 F3 [.box w9.heap.size 25 [.int .i64 z3.1.1, .int .u64 z3.1.2.1, .int .u64 z3.1.2.2.1, .int .i64 z3.1.2.2.2], .row 5 (tI .u8) (.slice ao2 s1.length cp2) s1] := hs.backL [1] [] [0, 1] rfl rfl rfl rfl rfl rfl hr trivial
      clear hr
      replace hs : Sep w F R w12 F3 [.box w9.heap.size 25 [.int .i64 z3.1.1, .int .u64 z3.1.2.1, .int .u64 z3.1.2.2.1, .int .i64 z3.1.2.2.2]] := hs.sel [0] rfl rfl
      replace hf := Fr.keep (ks := [16, 17, 61]) (L' := [(16, .pointer (some ⟨w9.heap.size, 0, none⟩)), (17, .int .i64 z3.2), (61, .tuple #[.agg #[.int .i64 z4.1.1, .int .u64 z4.1.2.1, .int .u64 z4.1.2.2.1, .int .i64 z4.1.2.2.2], .int .i64 z4.2])]) hf (by kernel_rfl)
      refine st tbOk 3 [16, 17, 62, 63] (L' := [(16, .pointer (some ⟨w9.heap.size, 0, none⟩)), (17, .int .i64 z3.2), (62, .agg #[.int .i64 z4.1.1, .int .u64 z4.1.2.1, .int .u64 z4.1.2.2.1, .int .i64 z4.1.2.2.2]), (63, .int .i64 z4.2)]) hf (by kernel_rfl) ?_
      clear hf; clear a; intro a hf
      refine al tbOk i31 [.int .i64 0, .int .u64 0, .int .u64 0, .int .i64 0] rfl (by kernel_rfl) hf (by kernel_rfl) (by kernel_rfl) ?_
      clear hf; clear a; intro w13 a hb hx _ hf
      replace hs : Sep w F R w13 F3 [.box w12.heap.size 31 [.int .i64 0, .int .u64 0, .int .u64 0, .int .i64 0], .box w9.heap.size 25 [.int .i64 z3.1.1, .int .u64 z3.1.2.1, .int .u64 z3.1.2.2.1, .int .i64 z3.1.2.2.2]] := hs.newBox hb hx
      clear hb hx
      replace hf := Fr.keep (ks := [16, 17, 18, 62, 63]) (L' := [(16, .pointer (some ⟨w9.heap.size, 0, none⟩)), (17, .int .i64 z3.2), (18, .pointer (some ⟨w12.heap.size, 0, none⟩)), (62, .agg #[.int .i64 z4.1.1, .int .u64 z4.1.2.1, .int .u64 z4.1.2.2.1, .int .i64 z4.1.2.2.2]), (63, .int .i64 z4.2)]) hf (by kernel_rfl)
      refine stB tbOk i31 (hs.bx 0 rfl) 0 [.int .i64 z4.1.1, .int .u64 z4.1.2.1, .int .u64 z4.1.2.2.1, .int .i64 z4.1.2.2.2] [.int .i64 z4.1.1, .int .u64 z4.1.2.1, .int .u64 z4.1.2.2.1, .int .i64 z4.1.2.2.2] (v := .agg #[.int .i64 z4.1.1, .int .u64 z4.1.2.1, .int .u64 z4.1.2.2.1, .int .i64 z4.1.2.2.2]) rfl rfl (by kernel_rfl) (by kernel_rfl) (by kernel_rfl) (by kernel_rfl) hf (by kernel_rfl) (by kernel_rfl) (by kernel_rfl) ?_
      clear hf; clear a; intro w14 a hb hg _ hf
      replace hs : Sep w F R w14 F3 [.box w12.heap.size 31 [.int .i64 z4.1.1, .int .u64 z4.1.2.1, .int .u64 z4.1.2.2.1, .int .i64 z4.1.2.2.2], .box w9.heap.size 25 [.int .i64 z3.1.1, .int .u64 z3.1.2.1, .int .u64 z3.1.2.2.1, .int .i64 z3.1.2.2.2]] := hs.updBox 0 rfl hb hg
      clear hb hg
      replace hf := Fr.keep (ks := [16, 17, 18, 63]) (L' := [(16, .pointer (some ⟨w9.heap.size, 0, none⟩)), (17, .int .i64 z3.2), (18, .pointer (some ⟨w12.heap.size, 0, none⟩)), (63, .int .i64 z4.2)]) hf (by kernel_rfl)
      refine st tbOk 1 [16, 17, 18, 19] (L' := [(16, .pointer (some ⟨w9.heap.size, 0, none⟩)), (17, .int .i64 z3.2), (18, .pointer (some ⟨w12.heap.size, 0, none⟩)), (19, .int .i64 z4.2)]) hf (by kernel_rfl) ?_
      clear hf; clear a; intro a hf
      refine wpList_nil ?_
      refine sq ?_
      refine ctj (fun (s2 : Bool) (a : Act) (w' : World) => ∃ (F6 : SH), Sep w F R w' F6 [] ∧ Fr 73 [(12, .bool s2)] a) hS ?_ ?_
      · clear hS hf hs; clear a; intro s2 a w17 hM hS
        obtain ⟨F6, hs, hf⟩ := hM
        have hr := Option.some.inj hS; subst hr
        refine wp_ret ?_
        exact ret_ok hf (vs := [.bool s2]) (by kernel_rfl) ⟨_, rfl, hs.sel [] rfl rfl⟩
      · clear hS; intro KK2 k2 hK2 hS
        refine regQ mixed (by kernel_rfl) ?_
        refine stQ tbOk 4 [16, 18, 67] (L' := [(16, .pointer (some ⟨w9.heap.size, 0, none⟩)), (18, .pointer (some ⟨w12.heap.size, 0, none⟩)), (67, .bool (z3.2 == z4.2))]) hf (by kernel_rfl) ?_
        clear hf; clear a; intro a hf
        rcases Bool.eq_false_or_eq_true (z3.2 == z4.2) with hb3 | hb3
        · replace hS := of_t hb3 hS
          replace hf := Fr.cast (L' := [(16, .pointer (some ⟨w9.heap.size, 0, none⟩)), (18, .pointer (some ⟨w12.heap.size, 0, none⟩)), (67, .bool true)]) hf (by rw [hb3])
          refine ldCQ tbOk (T := 25) (hs.cbx 1 rfl) (LeH.refl _) 0 (.agg #[.int .i64 z3.1.1, .int .u64 z3.1.2.1, .int .u64 z3.1.2.2.1, .int .i64 z3.1.2.2.2]) hf (by kernel_rfl) (by kernel_rfl) (by kernel_rfl) (by kernel_rfl) ?_
          clear hf; clear a; intro a hf
          replace hs : Sep w F R w14 F3 [.box w12.heap.size 31 [.int .i64 z4.1.1, .int .u64 z4.1.2.1, .int .u64 z4.1.2.2.1, .int .i64 z4.1.2.2.2]] := hs.sel [0] rfl rfl
          replace hf := Fr.keep (ks := [18, 67, 68]) (L' := [(18, .pointer (some ⟨w12.heap.size, 0, none⟩)), (67, .bool true), (68, .agg #[.int .i64 z3.1.1, .int .u64 z3.1.2.1, .int .u64 z3.1.2.2.1, .int .i64 z3.1.2.2.2])]) hf (by kernel_rfl)
          have hT := of_bd hS; clear hS; obtain ⟨z5, hz5, hS⟩ := hT
          refine clVQ ent16 (vs := [.agg #[.int .i64 z3.1.1, .int .u64 z3.1.2.1, .int .u64 z3.1.2.2.1, .int .i64 z3.1.2.2.2]]) (caps := []) hf (by kernel_rfl) (by kernel_rfl) (by kernel_rfl) (by kernel_rfl) (.agg #[.int .i64 z5.1, .int .u64 z5.2.1, .int .u64 z5.2.2.1, .int .i64 z5.2.2.2]) (fun wq hq => (law03_model_ok (p_h := (z3.1.1, z3.1.2.1, z3.1.2.2.1, z3.1.2.2.2)) (hs.lendQ hq [] rfl rfl) hz5).mono fun _ _ h => Gives.mono (fun _ ⟨_, e, h⟩ => ⟨e, h.ex (pers_blks rfl)⟩) h) ?_
          clear hf; clear a; intro a hf
          replace hf := Fr.keep (ks := [18, 67, 69]) (L' := [(18, .pointer (some ⟨w12.heap.size, 0, none⟩)), (67, .bool true), (69, .agg #[.int .i64 z5.1, .int .u64 z5.2.1, .int .u64 z5.2.2.1, .int .i64 z5.2.2.2])]) hf (by kernel_rfl)
          refine ldCQ tbOk (T := 31) (hs.cbx 0 rfl) (LeH.refl _) 0 (.agg #[.int .i64 z4.1.1, .int .u64 z4.1.2.1, .int .u64 z4.1.2.2.1, .int .i64 z4.1.2.2.2]) hf (by kernel_rfl) (by kernel_rfl) (by kernel_rfl) (by kernel_rfl) ?_
          clear hf; clear a; intro a hf
          replace hs : Sep w F R w14 F3 [] := hs.sel [] rfl rfl
          replace hf := Fr.keep (ks := [67, 69, 70]) (L' := [(67, .bool true), (69, .agg #[.int .i64 z5.1, .int .u64 z5.2.1, .int .u64 z5.2.2.1, .int .i64 z5.2.2.2]), (70, .agg #[.int .i64 z4.1.1, .int .u64 z4.1.2.1, .int .u64 z4.1.2.2.1, .int .i64 z4.1.2.2.2])]) hf (by kernel_rfl)
          refine stQ tbOk 3 [12] (L' := [(12, .bool ((z5.1 == z4.1.1) && ((z5.2.1 == z4.1.2.1) && ((z5.2.2.1 == z4.1.2.2.1) && (z5.2.2.2 == z4.1.2.2.2)))))]) hf (by kernel_rfl) ?_
          clear hf; clear a; intro a hf
          refine wpQuiet_nil ?_
          intro w15 hx
          replace hs : Sep w F R w15 F3 [] := hs.ext hx
          clear hx
          exact hK2 ((z5.1 == z4.1.1) && ((z5.2.1 == z4.1.2.1) && ((z5.2.2.1 == z4.1.2.2.1) && (z5.2.2.2 == z4.1.2.2.2)))) _ _ ⟨_, hs.sel [] rfl rfl, hf.keep (ks := [12]) (by kernel_rfl)⟩ hS
        · replace hS := of_f hb3 hS
          replace hf := Fr.cast (L' := [(16, .pointer (some ⟨w9.heap.size, 0, none⟩)), (18, .pointer (some ⟨w12.heap.size, 0, none⟩)), (67, .bool false)]) hf (by rw [hb3])
          refine stQ tbOk 6 [12] (L' := [(12, .bool false)]) hf (by kernel_rfl) ?_
          clear hf; clear a; intro a hf
          refine wpQuiet_nil ?_
          intro w16 hx
          replace hs : Sep w F R w16 F3 [.box w12.heap.size 31 [.int .i64 z4.1.1, .int .u64 z4.1.2.1, .int .u64 z4.1.2.2.1, .int .i64 z4.1.2.2.2], .box w9.heap.size 25 [.int .i64 z3.1.1, .int .u64 z3.1.2.1, .int .u64 z3.1.2.2.1, .int .i64 z3.1.2.2.2]] := hs.ext hx
          clear hx
          exact hK2 false _ _ ⟨_, hs.sel [] rfl rfl, hf.keep (ks := [12]) (by kernel_rfl)⟩ hS
    · clear hS; intro KK1 k1 hK1 hS
      refine cnd (b := decide (p_at < 64)) hf (by kernel_rfl) (fun hb2 => ?_) (fun hb2 => ?_)
      · replace hS := of_t hb2 hS
        refine reg ?_
        refine st tbOk 3 [14, 50, 51, 52] (L' := [(14, .slice ao1 ((((z2.1.set (Int.toNat 16) (IntKind.u8.wrap kind)).set (Int.toNat 17) (IntKind.u8.wrap (shr .u16 kind 8))).set (Int.toNat 56) (IntKind.u8.wrap count)).set (Int.toNat 57) (IntKind.u8.wrap (shr .u16 count 8))).length cp1), (50, .slice ao1 ((((z2.1.set (Int.toNat 16) (IntKind.u8.wrap kind)).set (Int.toNat 17) (IntKind.u8.wrap (shr .u16 kind 8))).set (Int.toNat 56) (IntKind.u8.wrap count)).set (Int.toNat 57) (IntKind.u8.wrap (shr .u16 count 8))).length cp1), (51, .int .u8 p_at), (52, .int .u8 p_c)]) hf (by kernel_rfl) ?_
        clear hf; clear a; intro a hf
        have hT := of_gd hS; clear hS; obtain ⟨hc5, hS⟩ := hT
        refine ixW tbOk u26 i5 (hs.own 0 rfl) (k := .u8) (n := p_at) hc5 hf (by kernel_rfl) (by kernel_rfl) (by kernel_rfl) (by kernel_rfl) ?_
        clear hf; clear a; intro pb5 po5 a hq5 hf
        replace hf := Fr.keep (ks := [14, 52, 53]) (L' := [(14, .slice ao1 ((((z2.1.set (Int.toNat 16) (IntKind.u8.wrap kind)).set (Int.toNat 17) (IntKind.u8.wrap (shr .u16 kind 8))).set (Int.toNat 56) (IntKind.u8.wrap count)).set (Int.toNat 57) (IntKind.u8.wrap (shr .u16 count 8))).length cp1), (52, .int .u8 p_c), (53, .pointer (some ⟨pb5, po5, none⟩))]) hf (by kernel_rfl)
        refine stW tbOk i5 rfl (hs.own 0 rfl) hc5 0 hq5 [.int .u8 p_c] (z := p_c) (fun _ e => (congrArg (fun c => spl c 0 [.int .u8 p_c]) e).trans rfl) (u := .int .u8 p_c) rfl rfl (by kernel_rfl) (by kernel_rfl) hf (by kernel_rfl) (by kernel_rfl) (by kernel_rfl) ?_
        clear hf; clear a; intro w7 a ho hg hf
        replace hs := hs.updRow 0 rfl ho hg (fun _ h => .inl h)
        clear ho hg
        replace hs : Sep w F R w7 F2 [.row 5 (tI .u8) (.slice ao1 (((((z2.1.set (Int.toNat 16) (IntKind.u8.wrap kind)).set (Int.toNat 17) (IntKind.u8.wrap (shr .u16 kind 8))).set (Int.toNat 56) (IntKind.u8.wrap count)).set (Int.toNat 57) (IntKind.u8.wrap (shr .u16 count 8))).set (Int.toNat p_at) p_c).length cp1) (((((z2.1.set (Int.toNat 16) (IntKind.u8.wrap kind)).set (Int.toNat 17) (IntKind.u8.wrap (shr .u16 kind 8))).set (Int.toNat 56) (IntKind.u8.wrap count)).set (Int.toNat 57) (IntKind.u8.wrap (shr .u16 count 8))).set (Int.toNat p_at) p_c)] := Sep.cast hs (by simp only [List.length_set]; rfl)
        replace hf := Fr.cast (L' := [(14, .slice ao1 (((((z2.1.set (Int.toNat 16) (IntKind.u8.wrap kind)).set (Int.toNat 17) (IntKind.u8.wrap (shr .u16 kind 8))).set (Int.toNat 56) (IntKind.u8.wrap count)).set (Int.toNat 57) (IntKind.u8.wrap (shr .u16 count 8))).set (Int.toNat p_at) p_c).length cp1), (52, .int .u8 p_c), (53, .pointer (some ⟨pb5, po5, none⟩))]) hf (by simp only [List.length_set])
        replace hf := Fr.keep (ks := [14]) (L' := [(14, .slice ao1 (((((z2.1.set (Int.toNat 16) (IntKind.u8.wrap kind)).set (Int.toNat 17) (IntKind.u8.wrap (shr .u16 kind 8))).set (Int.toNat 56) (IntKind.u8.wrap count)).set (Int.toNat 57) (IntKind.u8.wrap (shr .u16 count 8))).set (Int.toNat p_at) p_c).length cp1)]) hf (by kernel_rfl)
        refine wpList_nil ?_
        exact hK1 (((((z2.1.set (Int.toNat 16) (IntKind.u8.wrap kind)).set (Int.toNat 17) (IntKind.u8.wrap (shr .u16 kind 8))).set (Int.toNat 56) (IntKind.u8.wrap count)).set (Int.toNat 57) (IntKind.u8.wrap (shr .u16 count 8))).set (Int.toNat p_at) p_c) _ _ ⟨ao1, cp1, _, hs.sel [0] rfl rfl, hf.keep (ks := [14]) (by kernel_rfl)⟩ hS
      · replace hS := of_f hb2 hS
        refine wp_skip ?_
        exact hK1 ((((z2.1.set (Int.toNat 16) (IntKind.u8.wrap kind)).set (Int.toNat 17) (IntKind.u8.wrap (shr .u16 kind 8))).set (Int.toNat 56) (IntKind.u8.wrap count)).set (Int.toNat 57) (IntKind.u8.wrap (shr .u16 count 8))) _ _ ⟨ao1, cp1, _, hs.sel [0] rfl rfl, hf.keep (ks := [14]) (by kernel_rfl)⟩ hS

end Dm
