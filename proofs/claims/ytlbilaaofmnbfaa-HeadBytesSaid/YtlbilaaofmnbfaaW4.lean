/-
  The walks: a call of each Go function gives what its shallow form gives, where that form gives something; printed by a program of this repo. No condition.
-/
import Derived.Test.YtlbilaaofmnbfaaWT
import Derived.Test.YtlbilaaofmnbfaaW2
import Derived.Test.YtlbilaaofmnbfaaW3
namespace Dm
open Go Go.RowKit Go.Proofs

set_option maxHeartbeats 4000000 in
theorem ref03_Get_ok {w : World} {F : SH} {b : List Int} {ao1 : Option Addr} {cp1 : Nat} (hs : Sep w F (blks [.ro (tI .u8) (.slice ao1 b.length cp1) b]) w F [.ro (tI .u8) (.slice ao1 b.length cp1) b]) {r : (Int × Int × Int × Int) × Int} (hS : ref03_Get b = some r) :
    Calls Try.prog 18 [.slice ao1 b.length cp1].toArray w (Gives (fun u w' => ∃ (F' : SH), u = .tuple #[.agg #[.int .i64 r.1.1, .int .u64 r.1.2.1, .int .u64 r.1.2.2.1, .int .i64 r.1.2.2.2], .int .i64 r.2] ∧ Sep w F (blks [.ro (tI .u8) (.slice ao1 b.length cp1) b]) w' F' [])) := by
  generalize (blks [.ro (tI .u8) (.slice ao1 b.length cp1) b]) = R at hs ⊢
  unfold ref03_Get at hS
  refine fn_ok (vs := [.slice ao1 b.length cp1]) Try.func18 rfl 60 Try.ntmps18 (Nat.le_of_ble_eq_true rfl) ?_
  intro a hf
  replace hf := Fr.cast (L' := [(0, .slice ao1 b.length cp1)]) hf (by kernel_rfl)
  refine sq ?_
  refine reg ?_
  refine al tbOk i31 [.int .i64 0, .int .u64 0, .int .u64 0, .int .i64 0] rfl (by kernel_rfl) hf (by kernel_rfl) (by kernel_rfl) ?_
  clear hf; clear a; intro w1 a hb hx _ hf
  replace hs : Sep w F R w1 F [.box w.heap.size 31 [.int .i64 0, .int .u64 0, .int .u64 0, .int .i64 0], .ro (tI .u8) (.slice ao1 b.length cp1) b] := hs.newBox hb hx
  clear hb hx
  replace hf := Fr.keep (ks := [0, 2]) (L' := [(0, .slice ao1 b.length cp1), (2, .pointer (some ⟨w.heap.size, 0, none⟩))]) hf (by kernel_rfl)
  refine st tbOk 1 [0, 2] (L' := [(0, .slice ao1 b.length cp1), (2, .pointer (some ⟨w.heap.size, 0, none⟩))]) hf (by kernel_rfl) ?_
  clear hf; clear a; intro a hf
  refine wpList_nil ?_
  refine sq ?_
  refine sq ?_
  refine reg ?_
  refine st tbOk 3 [0, 2, 13] (L' := [(0, .slice ao1 b.length cp1), (2, .pointer (some ⟨w.heap.size, 0, none⟩)), (13, .bool (decide (((b.length : Nat) : Int) < 64)))]) hf (by kernel_rfl) ?_
  clear hf; clear a; intro a hf
  refine wpList_nil ?_
  refine cnd (b := decide (((b.length : Nat) : Int) < 64)) hf (by kernel_rfl) (fun hb1 => ?_) (fun hb1 => ?_)
  · replace hS := of_t hb1 hS
    refine sq ?_
    refine reg ?_
    refine st tbOk 1 [2, 14] (L' := [(2, .pointer (some ⟨w.heap.size, 0, none⟩)), (14, .agg #[.int .i64 0, .int .u64 0, .int .u64 0, .int .i64 0])]) hf (by kernel_rfl) ?_
    clear hf; clear a; intro a hf
    refine stB tbOk i31 (hs.bx 0 rfl) 0 [.int .i64 0, .int .u64 0, .int .u64 0, .int .i64 0] [.int .i64 0, .int .u64 0, .int .u64 0, .int .i64 0] (v := .agg #[.int .i64 0, .int .u64 0, .int .u64 0, .int .i64 0]) rfl rfl (by kernel_rfl) (by kernel_rfl) (by kernel_rfl) (by kernel_rfl) hf (by kernel_rfl) (by kernel_rfl) (by kernel_rfl) ?_
    clear hf; clear a; intro w2 a hb hg _ hf
    replace hs : Sep w F R w2 F [.box w.heap.size 31 [.int .i64 0, .int .u64 0, .int .u64 0, .int .i64 0], .ro (tI .u8) (.slice ao1 b.length cp1) b] := hs.updBox 0 rfl hb hg
    clear hb hg
    replace hs : Sep w F R w2 F [.box w.heap.size 31 [.int .i64 0, .int .u64 0, .int .u64 0, .int .i64 0]] := hs.sel [0] rfl rfl
    replace hf := Fr.keep (ks := [2]) (L' := [(2, .pointer (some ⟨w.heap.size, 0, none⟩))]) hf (by kernel_rfl)
    refine st tbOk 1 [2, 3] (L' := [(2, .pointer (some ⟨w.heap.size, 0, none⟩)), (3, .int .i64 10)]) hf (by kernel_rfl) ?_
    clear hf; clear a; intro a hf
    refine wpList_nil ?_
    have hr := Option.some.inj hS; subst hr
    refine wp_ret ?_
    exact ret_okC hf (vs := [.agg #[.int .i64 0, .int .u64 0, .int .u64 0, .int .i64 0], .int .i64 10]) (.cons (.cell tbOk (hs.cbx 0 rfl) (off := 0) (by kernel_rfl) (by kernel_rfl)) (.cons (.tmp (by kernel_rfl)) .nil)) ⟨_, rfl, hs.sel [] rfl rfl⟩
  · replace hS := of_f hb1 hS
    refine wp_skip ?_
    refine sq ?_
    refine reg ?_
    refine al tbOk i31 [.int .i64 0, .int .u64 0, .int .u64 0, .int .i64 0] rfl (by kernel_rfl) hf (by kernel_rfl) (by kernel_rfl) ?_
    clear hf; clear a; intro w3 a hb hx _ hf
    replace hs : Sep w F R w3 F [.box w1.heap.size 31 [.int .i64 0, .int .u64 0, .int .u64 0, .int .i64 0], .box w.heap.size 31 [.int .i64 0, .int .u64 0, .int .u64 0, .int .i64 0], .ro (tI .u8) (.slice ao1 b.length cp1) b] := hs.newBox hb hx
    clear hb hx
    replace hf := Fr.keep (ks := [0, 2, 4]) (L' := [(0, .slice ao1 b.length cp1), (2, .pointer (some ⟨w.heap.size, 0, none⟩)), (4, .pointer (some ⟨w1.heap.size, 0, none⟩))]) hf (by kernel_rfl)
    refine wpList_nil ?_
    refine sq ?_
    refine reg ?_
    refine st tbOk 1 [0, 2, 4, 16] (L' := [(0, .slice ao1 b.length cp1), (2, .pointer (some ⟨w.heap.size, 0, none⟩)), (4, .pointer (some ⟨w1.heap.size, 0, none⟩)), (16, .slice ao1 b.length cp1)]) hf (by kernel_rfl) ?_
    clear hf; clear a; intro a hf
    have hT := of_bd hS; clear hS; obtain ⟨z1, hz1, hS⟩ := hT
    refine clV ent33 (vs := [.slice ao1 b.length cp1, .int .u64 16, .int .i64 2]) (caps := []) hf (by kernel_rfl) (by kernel_rfl) (by kernel_rfl) (by kernel_rfl) (ref01_Get_ok (b := b) (p_at := 16) (n := 2) (hs.enter [2] rfl rfl) hz1) ?_
    clear hf; clear a; intro v w4 a hT hf; obtain ⟨F1, rfl, hr⟩ := hT
    replace hs : Sep w F R w4 F1 [.box w1.heap.size 31 [.int .i64 0, .int .u64 0, .int .u64 0, .int .i64 0], .box w.heap.size 31 [.int .i64 0, .int .u64 0, .int .u64 0, .int .i64 0], .ro (tI .u8) (.slice ao1 b.length cp1) b] := hs.back [2] [0, 1, 2] rfl rfl rfl rfl hr
    clear hr
    replace hf := Fr.keep (ks := [0, 2, 4, 17]) (L' := [(0, .slice ao1 b.length cp1), (2, .pointer (some ⟨w.heap.size, 0, none⟩)), (4, .pointer (some ⟨w1.heap.size, 0, none⟩)), (17, .tuple #[.int .u64 z1.1, .int .i64 z1.2])]) hf (by kernel_rfl)
    refine st tbOk 5 [0, 2, 4, 5] (L' := [(0, .slice ao1 b.length cp1), (2, .pointer (some ⟨w.heap.size, 0, none⟩)), (4, .pointer (some ⟨w1.heap.size, 0, none⟩)), (5, .int .u64 z1.1)]) hf (by kernel_rfl) ?_
    clear hf; clear a; intro a hf
    refine wpList_nil ?_
    refine sq ?_
    refine reg ?_
    refine st tbOk 3 [0, 2, 4, 21, 22] (L' := [(0, .slice ao1 b.length cp1), (2, .pointer (some ⟨w.heap.size, 0, none⟩)), (4, .pointer (some ⟨w1.heap.size, 0, none⟩)), (21, .int .i64 (IntKind.i64.wrap z1.1)), (22, .pointer (some ⟨w1.heap.size, 0, none⟩))]) hf (by kernel_rfl) ?_
    clear hf; clear a; intro a hf
    refine stB tbOk i3 (hs.bx 0 rfl) 0 [.int .i64 (IntKind.i64.wrap z1.1)] [.int .i64 (IntKind.i64.wrap z1.1), .int .u64 0, .int .u64 0, .int .i64 0] (v := .int .i64 (IntKind.i64.wrap z1.1)) rfl rfl (by kernel_rfl) (by kernel_rfl) (by kernel_rfl) (by kernel_rfl) hf (by kernel_rfl) (by kernel_rfl) (by kernel_rfl) ?_
    clear hf; clear a; intro w5 a hb hg _ hf
    replace hs : Sep w F R w5 F1 [.box w1.heap.size 31 [.int .i64 (IntKind.i64.wrap z1.1), .int .u64 0, .int .u64 0, .int .i64 0], .box w.heap.size 31 [.int .i64 0, .int .u64 0, .int .u64 0, .int .i64 0], .ro (tI .u8) (.slice ao1 b.length cp1) b] := hs.updBox 0 rfl hb hg
    clear hb hg
    replace hf := Fr.keep (ks := [0, 2, 4]) (L' := [(0, .slice ao1 b.length cp1), (2, .pointer (some ⟨w.heap.size, 0, none⟩)), (4, .pointer (some ⟨w1.heap.size, 0, none⟩))]) hf (by kernel_rfl)
    refine wpList_nil ?_
    refine sq ?_
    refine reg ?_
    refine st tbOk 1 [0, 2, 4, 24] (L' := [(0, .slice ao1 b.length cp1), (2, .pointer (some ⟨w.heap.size, 0, none⟩)), (4, .pointer (some ⟨w1.heap.size, 0, none⟩)), (24, .slice ao1 b.length cp1)]) hf (by kernel_rfl) ?_
    clear hf; clear a; intro a hf
    have hT := of_bd hS; clear hS; obtain ⟨z2, hz2, hS⟩ := hT
    refine clV ent33 (vs := [.slice ao1 b.length cp1, .int .u64 24, .int .i64 8]) (caps := []) hf (by kernel_rfl) (by kernel_rfl) (by kernel_rfl) (by kernel_rfl) (ref01_Get_ok (b := b) (p_at := 24) (n := 8) (hs.enter [2] rfl rfl) hz2) ?_
    clear hf; clear a; intro v w6 a hT hf; obtain ⟨F2, rfl, hr⟩ := hT
    replace hs : Sep w F R w6 F2 [.box w1.heap.size 31 [.int .i64 (IntKind.i64.wrap z1.1), .int .u64 0, .int .u64 0, .int .i64 0], .box w.heap.size 31 [.int .i64 0, .int .u64 0, .int .u64 0, .int .i64 0], .ro (tI .u8) (.slice ao1 b.length cp1) b] := hs.back [2] [0, 1, 2] rfl rfl rfl rfl hr
    clear hr
    replace hf := Fr.keep (ks := [0, 2, 4, 25]) (L' := [(0, .slice ao1 b.length cp1), (2, .pointer (some ⟨w.heap.size, 0, none⟩)), (4, .pointer (some ⟨w1.heap.size, 0, none⟩)), (25, .tuple #[.int .u64 z2.1, .int .i64 z2.2])]) hf (by kernel_rfl)
    refine st tbOk 4 [0, 2, 4, 26, 28] (L' := [(0, .slice ao1 b.length cp1), (2, .pointer (some ⟨w.heap.size, 0, none⟩)), (4, .pointer (some ⟨w1.heap.size, 0, none⟩)), (26, .int .u64 z2.1), (28, .pointer (some ⟨w1.heap.size, 1, none⟩))]) hf (by kernel_rfl) ?_
    clear hf; clear a; intro a hf
    refine stB tbOk i22 (hs.bx 0 rfl) 1 [.int .u64 z2.1] [.int .i64 (IntKind.i64.wrap z1.1), .int .u64 z2.1, .int .u64 0, .int .i64 0] (v := .int .u64 z2.1) rfl rfl (by kernel_rfl) (by kernel_rfl) (by kernel_rfl) (by kernel_rfl) hf (by kernel_rfl) (by kernel_rfl) (by kernel_rfl) ?_
    clear hf; clear a; intro w7 a hb hg _ hf
    replace hs : Sep w F R w7 F2 [.box w1.heap.size 31 [.int .i64 (IntKind.i64.wrap z1.1), .int .u64 z2.1, .int .u64 0, .int .i64 0], .box w.heap.size 31 [.int .i64 0, .int .u64 0, .int .u64 0, .int .i64 0], .ro (tI .u8) (.slice ao1 b.length cp1) b] := hs.updBox 0 rfl hb hg
    clear hb hg
    replace hf := Fr.keep (ks := [0, 2, 4]) (L' := [(0, .slice ao1 b.length cp1), (2, .pointer (some ⟨w.heap.size, 0, none⟩)), (4, .pointer (some ⟨w1.heap.size, 0, none⟩))]) hf (by kernel_rfl)
    refine wpList_nil ?_
    refine sq ?_
    refine reg ?_
    refine st tbOk 1 [0, 2, 4, 30] (L' := [(0, .slice ao1 b.length cp1), (2, .pointer (some ⟨w.heap.size, 0, none⟩)), (4, .pointer (some ⟨w1.heap.size, 0, none⟩)), (30, .slice ao1 b.length cp1)]) hf (by kernel_rfl) ?_
    clear hf; clear a; intro a hf
    have hT := of_bd hS; clear hS; obtain ⟨z3, hz3, hS⟩ := hT
    refine clV ent33 (vs := [.slice ao1 b.length cp1, .int .u64 32, .int .i64 8]) (caps := []) hf (by kernel_rfl) (by kernel_rfl) (by kernel_rfl) (by kernel_rfl) (ref01_Get_ok (b := b) (p_at := 32) (n := 8) (hs.enter [2] rfl rfl) hz3) ?_
    clear hf; clear a; intro v w8 a hT hf; obtain ⟨F3, rfl, hr⟩ := hT
    replace hs : Sep w F R w8 F3 [.box w1.heap.size 31 [.int .i64 (IntKind.i64.wrap z1.1), .int .u64 z2.1, .int .u64 0, .int .i64 0], .box w.heap.size 31 [.int .i64 0, .int .u64 0, .int .u64 0, .int .i64 0], .ro (tI .u8) (.slice ao1 b.length cp1) b] := hs.back [2] [0, 1, 2] rfl rfl rfl rfl hr
    clear hr
    replace hf := Fr.keep (ks := [0, 2, 4, 31]) (L' := [(0, .slice ao1 b.length cp1), (2, .pointer (some ⟨w.heap.size, 0, none⟩)), (4, .pointer (some ⟨w1.heap.size, 0, none⟩)), (31, .tuple #[.int .u64 z3.1, .int .i64 z3.2])]) hf (by kernel_rfl)
    refine st tbOk 4 [0, 2, 4, 32, 34] (L' := [(0, .slice ao1 b.length cp1), (2, .pointer (some ⟨w.heap.size, 0, none⟩)), (4, .pointer (some ⟨w1.heap.size, 0, none⟩)), (32, .int .u64 z3.1), (34, .pointer (some ⟨w1.heap.size, 2, none⟩))]) hf (by kernel_rfl) ?_
    clear hf; clear a; intro a hf
    refine stB tbOk i22 (hs.bx 0 rfl) 2 [.int .u64 z3.1] [.int .i64 (IntKind.i64.wrap z1.1), .int .u64 z2.1, .int .u64 z3.1, .int .i64 0] (v := .int .u64 z3.1) rfl rfl (by kernel_rfl) (by kernel_rfl) (by kernel_rfl) (by kernel_rfl) hf (by kernel_rfl) (by kernel_rfl) (by kernel_rfl) ?_
    clear hf; clear a; intro w9 a hb hg _ hf
    replace hs : Sep w F R w9 F3 [.box w1.heap.size 31 [.int .i64 (IntKind.i64.wrap z1.1), .int .u64 z2.1, .int .u64 z3.1, .int .i64 0], .box w.heap.size 31 [.int .i64 0, .int .u64 0, .int .u64 0, .int .i64 0], .ro (tI .u8) (.slice ao1 b.length cp1) b] := hs.updBox 0 rfl hb hg
    clear hb hg
    replace hf := Fr.keep (ks := [0, 2, 4]) (L' := [(0, .slice ao1 b.length cp1), (2, .pointer (some ⟨w.heap.size, 0, none⟩)), (4, .pointer (some ⟨w1.heap.size, 0, none⟩))]) hf (by kernel_rfl)
    refine wpList_nil ?_
    refine sq ?_
    refine reg ?_
    refine st tbOk 1 [0, 2, 4, 36] (L' := [(0, .slice ao1 b.length cp1), (2, .pointer (some ⟨w.heap.size, 0, none⟩)), (4, .pointer (some ⟨w1.heap.size, 0, none⟩)), (36, .slice ao1 b.length cp1)]) hf (by kernel_rfl) ?_
    clear hf; clear a; intro a hf
    have hT := of_bd hS; clear hS; obtain ⟨z4, hz4, hS⟩ := hT
    refine clV ent33 (vs := [.slice ao1 b.length cp1, .int .u64 56, .int .i64 2]) (caps := []) hf (by kernel_rfl) (by kernel_rfl) (by kernel_rfl) (by kernel_rfl) (ref01_Get_ok (b := b) (p_at := 56) (n := 2) (hs.enter [2] rfl rfl) hz4) ?_
    clear hf; clear a; intro v w10 a hT hf; obtain ⟨F4, rfl, hr⟩ := hT
    replace hs : Sep w F R w10 F4 [.box w1.heap.size 31 [.int .i64 (IntKind.i64.wrap z1.1), .int .u64 z2.1, .int .u64 z3.1, .int .i64 0], .box w.heap.size 31 [.int .i64 0, .int .u64 0, .int .u64 0, .int .i64 0], .ro (tI .u8) (.slice ao1 b.length cp1) b] := hs.back [2] [0, 1, 2] rfl rfl rfl rfl hr
    clear hr
    replace hf := Fr.keep (ks := [0, 2, 4, 37]) (L' := [(0, .slice ao1 b.length cp1), (2, .pointer (some ⟨w.heap.size, 0, none⟩)), (4, .pointer (some ⟨w1.heap.size, 0, none⟩)), (37, .tuple #[.int .u64 z4.1, .int .i64 z4.2])]) hf (by kernel_rfl)
    refine st tbOk 5 [0, 2, 4, 7] (L' := [(0, .slice ao1 b.length cp1), (2, .pointer (some ⟨w.heap.size, 0, none⟩)), (4, .pointer (some ⟨w1.heap.size, 0, none⟩)), (7, .int .u64 z4.1)]) hf (by kernel_rfl) ?_
    clear hf; clear a; intro a hf
    refine wpList_nil ?_
    refine sq ?_
    refine reg ?_
    refine st tbOk 3 [0, 2, 4, 41, 42] (L' := [(0, .slice ao1 b.length cp1), (2, .pointer (some ⟨w.heap.size, 0, none⟩)), (4, .pointer (some ⟨w1.heap.size, 0, none⟩)), (41, .int .i64 (IntKind.i64.wrap z4.1)), (42, .pointer (some ⟨w1.heap.size, 3, none⟩))]) hf (by kernel_rfl) ?_
    clear hf; clear a; intro a hf
    refine stB tbOk i3 (hs.bx 0 rfl) 3 [.int .i64 (IntKind.i64.wrap z4.1)] [.int .i64 (IntKind.i64.wrap z1.1), .int .u64 z2.1, .int .u64 z3.1, .int .i64 (IntKind.i64.wrap z4.1)] (v := .int .i64 (IntKind.i64.wrap z4.1)) rfl rfl (by kernel_rfl) (by kernel_rfl) (by kernel_rfl) (by kernel_rfl) hf (by kernel_rfl) (by kernel_rfl) (by kernel_rfl) ?_
    clear hf; clear a; intro w11 a hb hg _ hf
    replace hs : Sep w F R w11 F4 [.box w1.heap.size 31 [.int .i64 (IntKind.i64.wrap z1.1), .int .u64 z2.1, .int .u64 z3.1, .int .i64 (IntKind.i64.wrap z4.1)], .box w.heap.size 31 [.int .i64 0, .int .u64 0, .int .u64 0, .int .i64 0], .ro (tI .u8) (.slice ao1 b.length cp1) b] := hs.updBox 0 rfl hb hg
    clear hb hg
    replace hf := Fr.keep (ks := [0, 2, 4]) (L' := [(0, .slice ao1 b.length cp1), (2, .pointer (some ⟨w.heap.size, 0, none⟩)), (4, .pointer (some ⟨w1.heap.size, 0, none⟩))]) hf (by kernel_rfl)
    refine wpList_nil ?_
    refine sq ?_
    refine reg ?_
    refine ldC tbOk (T := 31) (hs.cbx 0 rfl) (LeH.refl _) 0 (.agg #[.int .i64 (IntKind.i64.wrap z1.1), .int .u64 z2.1, .int .u64 z3.1, .int .i64 (IntKind.i64.wrap z4.1)]) hf (by kernel_rfl) (by kernel_rfl) (by kernel_rfl) (by kernel_rfl) ?_
    clear hf; clear a; intro a hf
    replace hf := Fr.keep (ks := [0, 2, 4, 44]) (L' := [(0, .slice ao1 b.length cp1), (2, .pointer (some ⟨w.heap.size, 0, none⟩)), (4, .pointer (some ⟨w1.heap.size, 0, none⟩)), (44, .agg #[.int .i64 (IntKind.i64.wrap z1.1), .int .u64 z2.1, .int .u64 z3.1, .int .i64 (IntKind.i64.wrap z4.1)])]) hf (by kernel_rfl)
    have hT := of_bd hS; clear hS; obtain ⟨z5, hz5, hS⟩ := hT
    refine clV ent15 (vs := [.agg #[.int .i64 (IntKind.i64.wrap z1.1), .int .u64 z2.1, .int .u64 z3.1, .int .i64 (IntKind.i64.wrap z4.1)]]) (caps := []) hf (by kernel_rfl) (by kernel_rfl) (by kernel_rfl) (by kernel_rfl) (ref03_Put_ok (p_h := (IntKind.i64.wrap z1.1, z2.1, z3.1, IntKind.i64.wrap z4.1)) (hs.enter [] rfl rfl) hz5) ?_
    clear hf; clear a; intro v w12 a hT hf; obtain ⟨ao2, cp2, F5, rfl, hr⟩ := hT
    replace hs : Sep w F R w12 F5 [.row 5 (tI .u8) (.slice ao2 z5.1.length cp2) z5.1, .box w1.heap.size 31 [.int .i64 (IntKind.i64.wrap z1.1), .int .u64 z2.1, .int .u64 z3.1, .int .i64 (IntKind.i64.wrap z4.1)], .box w.heap.size 31 [.int .i64 0, .int .u64 0, .int .u64 0, .int .i64 0], .ro (tI .u8) (.slice ao1 b.length cp1) b] := hs.back [] [0, 1, 2] rfl rfl rfl rfl hr
    clear hr
    replace hf := Fr.keep (ks := [0, 2, 4, 45]) (L' := [(0, .slice ao1 b.length cp1), (2, .pointer (some ⟨w.heap.size, 0, none⟩)), (4, .pointer (some ⟨w1.heap.size, 0, none⟩)), (45, .tuple #[.slice ao2 z5.1.length cp2, .int .i64 z5.2])]) hf (by kernel_rfl)
    refine st tbOk 5 [0, 2, 4, 9, 10] (L' := [(0, .slice ao1 b.length cp1), (2, .pointer (some ⟨w.heap.size, 0, none⟩)), (4, .pointer (some ⟨w1.heap.size, 0, none⟩)), (9, .slice ao2 z5.1.length cp2), (10, .int .i64 z5.2)]) hf (by kernel_rfl) ?_
    clear hf; clear a; intro a hf
    refine wpList_nil ?_
    refine sq ?_
    refine sq ?_
    refine ctj (fun (s1 : Bool) (a : Act) (w' : World) => ∃ (F6 : SH), Sep w F R w' F6 [.box w1.heap.size 31 [.int .i64 (IntKind.i64.wrap z1.1), .int .u64 z2.1, .int .u64 z3.1, .int .i64 (IntKind.i64.wrap z4.1)], .box w.heap.size 31 [.int .i64 0, .int .u64 0, .int .u64 0, .int .i64 0]] ∧ Fr 60 [(2, .pointer (some ⟨w.heap.size, 0, none⟩)), (4, .pointer (some ⟨w1.heap.size, 0, none⟩)), (57, .bool s1)] a) hS ?_ ?_
    · clear hS hf hs; clear a; intro s1 a w15 hM hS
      obtain ⟨F6, hs, hf⟩ := hM
      refine cnd (b := s1) hf (by kernel_rfl) (fun hb3 => ?_) (fun hb3 => ?_)
      · replace hS := of_t hb3 hS
        refine sq ?_
        refine reg ?_
        refine st tbOk 1 [2, 58] (L' := [(2, .pointer (some ⟨w.heap.size, 0, none⟩)), (58, .agg #[.int .i64 0, .int .u64 0, .int .u64 0, .int .i64 0])]) hf (by kernel_rfl) ?_
        clear hf; clear a; intro a hf
        refine stB tbOk i31 (hs.bx 1 rfl) 0 [.int .i64 0, .int .u64 0, .int .u64 0, .int .i64 0] [.int .i64 0, .int .u64 0, .int .u64 0, .int .i64 0] (v := .agg #[.int .i64 0, .int .u64 0, .int .u64 0, .int .i64 0]) rfl rfl (by kernel_rfl) (by kernel_rfl) (by kernel_rfl) (by kernel_rfl) hf (by kernel_rfl) (by kernel_rfl) (by kernel_rfl) ?_
        clear hf; clear a; intro w16 a hb hg _ hf
        replace hs : Sep w F R w16 F6 [.box w1.heap.size 31 [.int .i64 (IntKind.i64.wrap z1.1), .int .u64 z2.1, .int .u64 z3.1, .int .i64 (IntKind.i64.wrap z4.1)], .box w.heap.size 31 [.int .i64 0, .int .u64 0, .int .u64 0, .int .i64 0]] := hs.updBox 1 rfl hb hg
        clear hb hg
        replace hs : Sep w F R w16 F6 [.box w.heap.size 31 [.int .i64 0, .int .u64 0, .int .u64 0, .int .i64 0]] := hs.sel [1] rfl rfl
        replace hf := Fr.keep (ks := [2]) (L' := [(2, .pointer (some ⟨w.heap.size, 0, none⟩))]) hf (by kernel_rfl)
        refine st tbOk 1 [2, 3] (L' := [(2, .pointer (some ⟨w.heap.size, 0, none⟩)), (3, .int .i64 11)]) hf (by kernel_rfl) ?_
        clear hf; clear a; intro a hf
        refine wpList_nil ?_
        have hr := Option.some.inj hS; subst hr
        refine wp_ret ?_
        exact ret_okC hf (vs := [.agg #[.int .i64 0, .int .u64 0, .int .u64 0, .int .i64 0], .int .i64 11]) (.cons (.cell tbOk (hs.cbx 0 rfl) (off := 0) (by kernel_rfl) (by kernel_rfl)) (.cons (.tmp (by kernel_rfl)) .nil)) ⟨_, rfl, hs.sel [] rfl rfl⟩
      · replace hS := of_f hb3 hS
        refine wp_skip ?_
        refine sq ?_
        refine reg ?_
        refine ldC tbOk (T := 31) (hs.cbx 0 rfl) (LeH.refl _) 0 (.agg #[.int .i64 (IntKind.i64.wrap z1.1), .int .u64 z2.1, .int .u64 z3.1, .int .i64 (IntKind.i64.wrap z4.1)]) hf (by kernel_rfl) (by kernel_rfl) (by kernel_rfl) (by kernel_rfl) ?_
        clear hf; clear a; intro a hf
        replace hs : Sep w F R w15 F6 [.box w.heap.size 31 [.int .i64 0, .int .u64 0, .int .u64 0, .int .i64 0]] := hs.sel [1] rfl rfl
        replace hf := Fr.keep (ks := [2, 59]) (L' := [(2, .pointer (some ⟨w.heap.size, 0, none⟩)), (59, .agg #[.int .i64 (IntKind.i64.wrap z1.1), .int .u64 z2.1, .int .u64 z3.1, .int .i64 (IntKind.i64.wrap z4.1)])]) hf (by kernel_rfl)
        refine stB tbOk i31 (hs.bx 0 rfl) 0 [.int .i64 (IntKind.i64.wrap z1.1), .int .u64 z2.1, .int .u64 z3.1, .int .i64 (IntKind.i64.wrap z4.1)] [.int .i64 (IntKind.i64.wrap z1.1), .int .u64 z2.1, .int .u64 z3.1, .int .i64 (IntKind.i64.wrap z4.1)] (v := .agg #[.int .i64 (IntKind.i64.wrap z1.1), .int .u64 z2.1, .int .u64 z3.1, .int .i64 (IntKind.i64.wrap z4.1)]) rfl rfl (by kernel_rfl) (by kernel_rfl) (by kernel_rfl) (by kernel_rfl) hf (by kernel_rfl) (by kernel_rfl) (by kernel_rfl) ?_
        clear hf; clear a; intro w17 a hb hg _ hf
        replace hs : Sep w F R w17 F6 [.box w.heap.size 31 [.int .i64 (IntKind.i64.wrap z1.1), .int .u64 z2.1, .int .u64 z3.1, .int .i64 (IntKind.i64.wrap z4.1)]] := hs.updBox 0 rfl hb hg
        clear hb hg
        replace hf := Fr.keep (ks := [2]) (L' := [(2, .pointer (some ⟨w.heap.size, 0, none⟩))]) hf (by kernel_rfl)
        refine st tbOk 1 [2, 3] (L' := [(2, .pointer (some ⟨w.heap.size, 0, none⟩)), (3, .int .i64 0)]) hf (by kernel_rfl) ?_
        clear hf; clear a; intro a hf
        refine wpList_nil ?_
        have hr := Option.some.inj hS; subst hr
        refine wp_ret ?_
        exact ret_okC hf (vs := [.agg #[.int .i64 (IntKind.i64.wrap z1.1), .int .u64 z2.1, .int .u64 z3.1, .int .i64 (IntKind.i64.wrap z4.1)], .int .i64 0]) (.cons (.cell tbOk (hs.cbx 0 rfl) (off := 0) (by kernel_rfl) (by kernel_rfl)) (.cons (.tmp (by kernel_rfl)) .nil)) ⟨_, rfl, hs.sel [] rfl rfl⟩
    · clear hS; intro KK1 k1 hK1 hS
      refine regQ mixed (by kernel_rfl) ?_
      refine stQ tbOk 3 [0, 2, 4, 9, 50] (L' := [(0, .slice ao1 b.length cp1), (2, .pointer (some ⟨w.heap.size, 0, none⟩)), (4, .pointer (some ⟨w1.heap.size, 0, none⟩)), (9, .slice ao2 z5.1.length cp2), (50, .bool (z5.2 != 0))]) hf (by kernel_rfl) ?_
      clear hf; clear a; intro a hf
      rcases Bool.eq_false_or_eq_true (z5.2 != 0) with hb2 | hb2
      · replace hS := of_t hb2 hS
        replace hf := Fr.cast (L' := [(0, .slice ao1 b.length cp1), (2, .pointer (some ⟨w.heap.size, 0, none⟩)), (4, .pointer (some ⟨w1.heap.size, 0, none⟩)), (9, .slice ao2 z5.1.length cp2), (50, .bool true)]) hf (by rw [hb2])
        refine stQ tbOk 7 [2, 4, 57] (L' := [(2, .pointer (some ⟨w.heap.size, 0, none⟩)), (4, .pointer (some ⟨w1.heap.size, 0, none⟩)), (57, .bool true)]) hf (by kernel_rfl) ?_
        clear hf; clear a; intro a hf
        refine wpQuiet_nil ?_
        intro w13 hx
        replace hs : Sep w F R w13 F5 [.row 5 (tI .u8) (.slice ao2 z5.1.length cp2) z5.1, .box w1.heap.size 31 [.int .i64 (IntKind.i64.wrap z1.1), .int .u64 z2.1, .int .u64 z3.1, .int .i64 (IntKind.i64.wrap z4.1)], .box w.heap.size 31 [.int .i64 0, .int .u64 0, .int .u64 0, .int .i64 0], .ro (tI .u8) (.slice ao1 b.length cp1) b] := hs.ext hx
        clear hx
        exact hK1 true _ _ ⟨_, hs.sel [1, 2] rfl rfl, hf.keep (ks := [2, 4, 57]) (by kernel_rfl)⟩ hS
      · replace hS := of_f hb2 hS
        replace hf := Fr.cast (L' := [(0, .slice ao1 b.length cp1), (2, .pointer (some ⟨w.heap.size, 0, none⟩)), (4, .pointer (some ⟨w1.heap.size, 0, none⟩)), (9, .slice ao2 z5.1.length cp2), (50, .bool false)]) hf (by rw [hb2])
        refine stQ tbOk 1 [0, 2, 4, 50, 51] (L' := [(0, .slice ao1 b.length cp1), (2, .pointer (some ⟨w.heap.size, 0, none⟩)), (4, .pointer (some ⟨w1.heap.size, 0, none⟩)), (50, .bool false), (51, .slice ao2 z5.1.length cp2)]) hf (by kernel_rfl) ?_
        clear hf; clear a; intro a hf
        refine b2sRQ tbOk u26 u5 u9 (hs.raW 0 rfl) hf (by kernel_rfl) (by kernel_rfl) (by kernel_rfl) ?_
        clear hf; clear a; intro a hf
        replace hs : Sep w F R w12 F5 [.box w1.heap.size 31 [.int .i64 (IntKind.i64.wrap z1.1), .int .u64 z2.1, .int .u64 z3.1, .int .i64 (IntKind.i64.wrap z4.1)], .box w.heap.size 31 [.int .i64 0, .int .u64 0, .int .u64 0, .int .i64 0], .ro (tI .u8) (.slice ao1 b.length cp1) b] := hs.sel [1, 2, 3] rfl rfl
        replace hf := Fr.keep (ks := [0, 2, 4, 50, 52]) (L' := [(0, .slice ao1 b.length cp1), (2, .pointer (some ⟨w.heap.size, 0, none⟩)), (4, .pointer (some ⟨w1.heap.size, 0, none⟩)), (50, .bool false), (52, strV (toStr z5.1))]) hf (by kernel_rfl)
        refine stQ tbOk 1 [2, 4, 50, 52, 53] (L' := [(2, .pointer (some ⟨w.heap.size, 0, none⟩)), (4, .pointer (some ⟨w1.heap.size, 0, none⟩)), (50, .bool false), (52, strV (toStr z5.1)), (53, .slice ao1 b.length cp1)]) hf (by kernel_rfl) ?_
        clear hf; clear a; intro a hf
        have hT := of_gd hS; clear hS; obtain ⟨hc1, hS⟩ := hT
        refine slQ tbOk u26 i5 rfl (hs.ro 2 rfl) (lo := 0) (hi := 64) (m := 0) hc1 (.inl ⟨rfl, rfl⟩) (.inr ⟨_, .i64, rfl, by kernel_rfl⟩) (.inl rfl) hf (by kernel_rfl) (by kernel_rfl) (by kernel_rfl) ?_
        clear hf; clear a; intro ao3 cp3 a hr1 hf
        replace hs : Sep w F R w12 F5 [.ro (tI .u8) (.slice ao3 (cutL b 0 64).length cp3) (cutL b 0 64), .box w1.heap.size 31 [.int .i64 (IntKind.i64.wrap z1.1), .int .u64 z2.1, .int .u64 z3.1, .int .i64 (IntKind.i64.wrap z4.1)], .box w.heap.size 31 [.int .i64 0, .int .u64 0, .int .u64 0, .int .i64 0], .ro (tI .u8) (.slice ao1 b.length cp1) b] := hs.addRo hr1
        replace hs : Sep w F R w12 F5 [.ro (tI .u8) (.slice ao3 (cutL b 0 64).length cp3) (cutL b 0 64), .box w1.heap.size 31 [.int .i64 (IntKind.i64.wrap z1.1), .int .u64 z2.1, .int .u64 z3.1, .int .i64 (IntKind.i64.wrap z4.1)], .box w.heap.size 31 [.int .i64 0, .int .u64 0, .int .u64 0, .int .i64 0]] := hs.sel [0, 1, 2] rfl rfl
        replace hf := Fr.keep (ks := [2, 4, 50, 52, 54]) (L' := [(2, .pointer (some ⟨w.heap.size, 0, none⟩)), (4, .pointer (some ⟨w1.heap.size, 0, none⟩)), (50, .bool false), (52, strV (toStr z5.1)), (54, .slice ao3 (cutL b 0 64).length cp3)]) hf (by kernel_rfl)
        refine b2sRQ tbOk u26 u5 u9 (hs.raR 0 rfl) hf (by kernel_rfl) (by kernel_rfl) (by kernel_rfl) ?_
        clear hf; clear a; intro a hf
        replace hs : Sep w F R w12 F5 [.box w1.heap.size 31 [.int .i64 (IntKind.i64.wrap z1.1), .int .u64 z2.1, .int .u64 z3.1, .int .i64 (IntKind.i64.wrap z4.1)], .box w.heap.size 31 [.int .i64 0, .int .u64 0, .int .u64 0, .int .i64 0]] := hs.sel [1, 2] rfl rfl
        replace hf := Fr.keep (ks := [2, 4, 50, 52, 55]) (L' := [(2, .pointer (some ⟨w.heap.size, 0, none⟩)), (4, .pointer (some ⟨w1.heap.size, 0, none⟩)), (50, .bool false), (52, strV (toStr z5.1)), (55, strV (toStr (cutL b 0 64)))]) hf (by kernel_rfl)
        refine stQ tbOk 2 [2, 4, 57] (L' := [(2, .pointer (some ⟨w.heap.size, 0, none⟩)), (4, .pointer (some ⟨w1.heap.size, 0, none⟩)), (57, .bool (!((toStr z5.1) == (toStr (cutL b 0 64)))))]) hf (by kernel_rfl) ?_
        clear hf; clear a; intro a hf
        refine wpQuiet_nil ?_
        intro w14 hx
        replace hs : Sep w F R w14 F5 [.box w1.heap.size 31 [.int .i64 (IntKind.i64.wrap z1.1), .int .u64 z2.1, .int .u64 z3.1, .int .i64 (IntKind.i64.wrap z4.1)], .box w.heap.size 31 [.int .i64 0, .int .u64 0, .int .u64 0, .int .i64 0]] := hs.ext hx
        clear hx
        exact hK1 (!((toStr z5.1) == (toStr (cutL b 0 64)))) _ _ ⟨_, hs.sel [0, 1] rfl rfl, hf.keep (ks := [2, 4, 57]) (by kernel_rfl)⟩ hS

end Dm
