/-
  The walks: a call of each Go function gives what its shallow form gives, where that form gives something; printed by a program of this repo. No condition.
-/
import Derived.Test.YtljdbjimdidigaaWT
namespace Dm
open Go Go.RowKit Go.Proofs

set_option maxHeartbeats 4000000 in
theorem ref01_width_ok {w : World} {F : SH} {n : Int}  (hs : Sep w F (blks []) w F []) {r : Bool} (hS : ref01_width n = some r) :
    Calls Try.prog 52 [.int .i64 n].toArray w (Gives (fun u w' => ∃ (F' : SH), u = .bool r ∧ Sep w F (blks []) w' F' [])) := by
  generalize (blks []) = R at hs ⊢
  unfold ref01_width at hS
  refine fn_ok (vs := [.int .i64 n]) Try.func52 rfl 17 Try.ntmps52 (Nat.le_of_ble_eq_true rfl) ?_
  intro a hf
  replace hf := Fr.cast (L' := [(0, .int .i64 n)]) hf (by kernel_rfl)
  refine sq ?_
  refine reg ?_
  refine st tbOk 1 [0] (L' := [(0, .int .i64 n)]) hf (by kernel_rfl) ?_
  clear hf; clear a; intro a hf
  refine wpList_nil ?_
  refine sq ?_
  refine ctj (fun (s1 : Bool) (a : Act) (w' : World) => ∃ (F1 : SH), Sep w F R w' F1 [] ∧ Fr 17 [(2, .bool s1)] a) hS ?_ ?_
  · clear hS hf hs; clear a; intro s1 a w1 hM hS
    obtain ⟨F1, hs, hf⟩ := hM
    have hr := Option.some.inj hS; subst hr
    refine wp_ret ?_
    exact ret_ok hf (vs := [.bool s1]) (by kernel_rfl) ⟨_, rfl, hs.sel [] rfl rfl⟩
  · clear hS; intro KK1 k1 hK1 hS
    refine reg ?_
    refine st tbOk 3 [0, 5] (L' := [(0, .int .i64 n), (5, .bool (n == 1))]) hf (by kernel_rfl) ?_
    clear hf; clear a; intro a hf
    rcases Bool.eq_false_or_eq_true (n == 1) with hb1 | hb1
    · replace hS := of_t hb1 hS
      replace hf := Fr.cast (L' := [(0, .int .i64 n), (5, .bool true)]) hf (by rw [hb1])
      refine st tbOk 12 [2] (L' := [(2, .bool true)]) hf (by kernel_rfl) ?_
      clear hf; clear a; intro a hf
      refine wpList_nil ?_
      exact hK1 true _ _ ⟨_, hs.sel [] rfl rfl, hf.keep (ks := [2]) (by kernel_rfl)⟩ hS
    · replace hS := of_f hb1 hS
      replace hf := Fr.cast (L' := [(0, .int .i64 n), (5, .bool false)]) hf (by rw [hb1])
      refine st tbOk 4 [0, 9] (L' := [(0, .int .i64 n), (9, .bool (n == 2))]) hf (by kernel_rfl) ?_
      clear hf; clear a; intro a hf
      rcases Bool.eq_false_or_eq_true (n == 2) with hb2 | hb2
      · replace hS := of_t hb2 hS
        replace hf := Fr.cast (L' := [(0, .int .i64 n), (9, .bool true)]) hf (by rw [hb2])
        refine st tbOk 8 [2] (L' := [(2, .bool true)]) hf (by kernel_rfl) ?_
        clear hf; clear a; intro a hf
        refine wpList_nil ?_
        exact hK1 true _ _ ⟨_, hs.sel [] rfl rfl, hf.keep (ks := [2]) (by kernel_rfl)⟩ hS
      · replace hS := of_f hb2 hS
        replace hf := Fr.cast (L' := [(0, .int .i64 n), (9, .bool false)]) hf (by rw [hb2])
        refine st tbOk 4 [0, 13] (L' := [(0, .int .i64 n), (13, .bool (n == 4))]) hf (by kernel_rfl) ?_
        clear hf; clear a; intro a hf
        rcases Bool.eq_false_or_eq_true (n == 4) with hb3 | hb3
        · replace hS := of_t hb3 hS
          replace hf := Fr.cast (L' := [(0, .int .i64 n), (13, .bool true)]) hf (by rw [hb3])
          refine st tbOk 4 [2] (L' := [(2, .bool true)]) hf (by kernel_rfl) ?_
          clear hf; clear a; intro a hf
          refine wpList_nil ?_
          exact hK1 true _ _ ⟨_, hs.sel [] rfl rfl, hf.keep (ks := [2]) (by kernel_rfl)⟩ hS
        · replace hS := of_f hb3 hS
          replace hf := Fr.cast (L' := [(0, .int .i64 n), (13, .bool false)]) hf (by rw [hb3])
          refine st tbOk 4 [2] (L' := [(2, .bool (n == 8))]) hf (by kernel_rfl) ?_
          clear hf; clear a; intro a hf
          refine wpList_nil ?_
          exact hK1 (n == 8) _ _ ⟨_, hs.sel [] rfl rfl, hf.keep (ks := [2]) (by kernel_rfl)⟩ hS

set_option maxHeartbeats 4000000 in
theorem ref01_Inside_ok {w : World} {F : SH} {p_many : Int} {p_at : Int} {size : Int}  (hs : Sep w F (blks []) w F []) {r : Bool} (hS : ref01_Inside p_many p_at size = some r) :
    Calls Try.prog 45 [.int .i64 p_many, .int .u64 p_at, .int .u64 size].toArray w (Gives (fun u w' => ∃ (F' : SH), u = .bool r ∧ Sep w F (blks []) w' F' [])) := by
  generalize (blks []) = R at hs ⊢
  unfold ref01_Inside at hS
  refine fn_ok (vs := [.int .i64 p_many, .int .u64 p_at, .int .u64 size]) Try.func45 rfl 17 Try.ntmps45 (Nat.le_of_ble_eq_true rfl) ?_
  intro a hf
  replace hf := Fr.cast (L' := [(0, .int .i64 p_many), (1, .int .u64 p_at), (2, .int .u64 size)]) hf (by kernel_rfl)
  refine sq ?_
  refine reg ?_
  refine st tbOk 1 [0, 1, 2] (L' := [(0, .int .i64 p_many), (1, .int .u64 p_at), (2, .int .u64 size)]) hf (by kernel_rfl) ?_
  clear hf; clear a; intro a hf
  refine wpList_nil ?_
  refine sq ?_
  refine sq ?_
  refine reg ?_
  refine st tbOk 4 [0, 1, 2, 10] (L' := [(0, .int .i64 p_many), (1, .int .u64 p_at), (2, .int .u64 size), (10, .bool (decide (p_at > (IntKind.u64.wrap p_many))))]) hf (by kernel_rfl) ?_
  clear hf; clear a; intro a hf
  refine wpList_nil ?_
  refine cnd (b := decide (p_at > (IntKind.u64.wrap p_many))) hf (by kernel_rfl) (fun hb1 => ?_) (fun hb1 => ?_)
  · replace hS := of_t hb1 hS
    refine sq ?_
    refine reg ?_
    refine st tbOk 1 [6] (L' := [(6, .bool false)]) hf (by kernel_rfl) ?_
    clear hf; clear a; intro a hf
    refine wpList_nil ?_
    have hr := Option.some.inj hS; subst hr
    refine wp_ret ?_
    exact ret_ok hf (vs := [.bool false]) (by kernel_rfl) ⟨_, rfl, hs.sel [] rfl rfl⟩
  · replace hS := of_f hb1 hS
    refine wp_skip ?_
    refine sq ?_
    refine reg ?_
    refine st tbOk 7 [6] (L' := [(6, .bool (decide (size ≤ (IntKind.u64.wrap ((IntKind.u64.wrap p_many) - p_at)))))]) hf (by kernel_rfl) ?_
    clear hf; clear a; intro a hf
    refine wpList_nil ?_
    have hr := Option.some.inj hS; subst hr
    refine wp_ret ?_
    exact ret_ok hf (vs := [.bool (decide (size ≤ (IntKind.u64.wrap ((IntKind.u64.wrap p_many) - p_at))))]) (by kernel_rfl) ⟨_, rfl, hs.sel [] rfl rfl⟩

set_option maxHeartbeats 4000000 in
theorem ref01_Get_ok {w : World} {F : SH} {b : List Int} {p_at : Int} {n : Int} {ao1 : Option Addr} {cp1 : Nat} (hs : Sep w F (blks [.ro (tI .u8) (.slice ao1 b.length cp1) b]) w F [.ro (tI .u8) (.slice ao1 b.length cp1) b]) {r : Int × Int} (hS : ref01_Get b p_at n = some r) :
    Calls Try.prog 43 [.slice ao1 b.length cp1, .int .u64 p_at, .int .i64 n].toArray w (Gives (fun u w' => ∃ (F' : SH), u = .tuple #[.int .u64 r.1, .int .i64 r.2] ∧ Sep w F (blks [.ro (tI .u8) (.slice ao1 b.length cp1) b]) w' F' [])) := by
  generalize (blks [.ro (tI .u8) (.slice ao1 b.length cp1) b]) = R at hs ⊢
  unfold ref01_Get at hS
  refine fn_ok (vs := [.slice ao1 b.length cp1, .int .u64 p_at, .int .i64 n]) Try.func43 rfl 41 Try.ntmps43 (Nat.le_of_ble_eq_true rfl) ?_
  intro a hf
  replace hf := Fr.cast (L' := [(0, .slice ao1 b.length cp1), (1, .int .u64 p_at), (2, .int .i64 n)]) hf (by kernel_rfl)
  refine sq ?_
  refine reg ?_
  refine st tbOk 2 [0, 1, 2] (L' := [(0, .slice ao1 b.length cp1), (1, .int .u64 p_at), (2, .int .i64 n)]) hf (by kernel_rfl) ?_
  clear hf; clear a; intro a hf
  refine wpList_nil ?_
  refine sq ?_
  refine reg ?_
  refine st tbOk 1 [0, 1, 2, 11] (L' := [(0, .slice ao1 b.length cp1), (1, .int .u64 p_at), (2, .int .i64 n), (11, .int .i64 n)]) hf (by kernel_rfl) ?_
  clear hf; clear a; intro a hf
  have hT := of_bd hS; clear hS; obtain ⟨z1, hz1, hS⟩ := hT
  refine clV ent52 (vs := [.int .i64 n]) (caps := []) hf (by kernel_rfl) (by kernel_rfl) (by kernel_rfl) (by kernel_rfl) (ref01_width_ok (n := n) (hs.enter [] rfl rfl) hz1) ?_
  clear hf; clear a; intro v w1 a hT hf; obtain ⟨F1, rfl, hr⟩ := hT
  replace hs : Sep w F R w1 F1 [.ro (tI .u8) (.slice ao1 b.length cp1) b] := hs.back [] [0] rfl rfl rfl rfl hr
  clear hr
  replace hf := Fr.keep (ks := [0, 1, 2, 12]) (L' := [(0, .slice ao1 b.length cp1), (1, .int .u64 p_at), (2, .int .i64 n), (12, .bool z1)]) hf (by kernel_rfl)
  refine st tbOk 1 [0, 1, 2, 8] (L' := [(0, .slice ao1 b.length cp1), (1, .int .u64 p_at), (2, .int .i64 n), (8, .bool z1)]) hf (by kernel_rfl) ?_
  clear hf; clear a; intro a hf
  refine wpList_nil ?_
  refine sq ?_
  refine sq ?_
  refine reg ?_
  refine st tbOk 2 [0, 1, 2, 14] (L' := [(0, .slice ao1 b.length cp1), (1, .int .u64 p_at), (2, .int .i64 n), (14, .bool (!z1))]) hf (by kernel_rfl) ?_
  clear hf; clear a; intro a hf
  refine wpList_nil ?_
  refine cnd (b := !z1) hf (by kernel_rfl) (fun hb1 => ?_) (fun hb1 => ?_)
  · replace hS := of_t hb1 hS
    refine sq ?_
    refine reg ?_
    refine st tbOk 2 [6, 7] (L' := [(6, .int .u64 0), (7, .int .i64 1)]) hf (by kernel_rfl) ?_
    clear hf; clear a; intro a hf
    refine wpList_nil ?_
    have hr := Option.some.inj hS; subst hr
    refine wp_ret ?_
    exact ret_ok hf (vs := [.int .u64 0, .int .i64 1]) (by kernel_rfl) ⟨_, rfl, hs.sel [] rfl rfl⟩
  · replace hS := of_f hb1 hS
    refine wp_skip ?_
    refine sq ?_
    refine reg ?_
    refine st tbOk 5 [0, 1, 2, 16, 17, 19] (L' := [(0, .slice ao1 b.length cp1), (1, .int .u64 p_at), (2, .int .i64 n), (16, .int .i64 ((b.length : Nat) : Int)), (17, .int .u64 p_at), (19, .int .u64 (IntKind.u64.wrap n))]) hf (by kernel_rfl) ?_
    clear hf; clear a; intro a hf
    have hT := of_bd hS; clear hS; obtain ⟨z2, hz2, hS⟩ := hT
    refine clV ent45 (vs := [.int .i64 ((b.length : Nat) : Int), .int .u64 p_at, .int .u64 (IntKind.u64.wrap n)]) (caps := []) hf (by kernel_rfl) (by kernel_rfl) (by kernel_rfl) (by kernel_rfl) (ref01_Inside_ok (p_many := ((b.length : Nat) : Int)) (p_at := p_at) (size := IntKind.u64.wrap n) (hs.enter [] rfl rfl) hz2) ?_
    clear hf; clear a; intro v w2 a hT hf; obtain ⟨F2, rfl, hr⟩ := hT
    replace hs : Sep w F R w2 F2 [.ro (tI .u8) (.slice ao1 b.length cp1) b] := hs.back [] [0] rfl rfl rfl rfl hr
    clear hr
    replace hf := Fr.keep (ks := [0, 1, 2, 20]) (L' := [(0, .slice ao1 b.length cp1), (1, .int .u64 p_at), (2, .int .i64 n), (20, .bool z2)]) hf (by kernel_rfl)
    refine st tbOk 1 [0, 1, 2, 8] (L' := [(0, .slice ao1 b.length cp1), (1, .int .u64 p_at), (2, .int .i64 n), (8, .bool z2)]) hf (by kernel_rfl) ?_
    clear hf; clear a; intro a hf
    refine wpList_nil ?_
    refine sq ?_
    refine sq ?_
    refine reg ?_
    refine st tbOk 2 [0, 1, 2, 22] (L' := [(0, .slice ao1 b.length cp1), (1, .int .u64 p_at), (2, .int .i64 n), (22, .bool (!z2))]) hf (by kernel_rfl) ?_
    clear hf; clear a; intro a hf
    refine wpList_nil ?_
    refine cnd (b := !z2) hf (by kernel_rfl) (fun hb2 => ?_) (fun hb2 => ?_)
    · replace hS := of_t hb2 hS
      refine sq ?_
      refine reg ?_
      refine st tbOk 2 [6, 7] (L' := [(6, .int .u64 0), (7, .int .i64 10)]) hf (by kernel_rfl) ?_
      clear hf; clear a; intro a hf
      refine wpList_nil ?_
      have hr := Option.some.inj hS; subst hr
      refine wp_ret ?_
      exact ret_ok hf (vs := [.int .u64 0, .int .i64 10]) (by kernel_rfl) ⟨_, rfl, hs.sel [] rfl rfl⟩
    · replace hS := of_f hb2 hS
      refine wp_skip ?_
      refine sq ?_
      refine reg ?_
      refine st tbOk 1 [0, 1, 2, 9] (L' := [(0, .slice ao1 b.length cp1), (1, .int .u64 p_at), (2, .int .i64 n), (9, .int .u64 0)]) hf (by kernel_rfl) ?_
      clear hf; clear a; intro a hf
      refine wpList_nil ?_
      refine sq ?_
      refine sq ?_
      refine reg ?_
      have hT := of_let hS; clear hS; obtain ⟨i_1, hl1, hS⟩ := hT
      refine st tbOk 3 [0, 1, 9, 10] (L' := [(0, .slice ao1 b.length cp1), (1, .int .u64 p_at), (9, .int .u64 0), (10, .int .i64 i_1)]) hf (by subst hl1; kernel_rfl) ?_
      clear hf; clear a; intro a hf
      refine wpList_nil ?_
      refine ctj (fun (s1 : Int) (a : Act) (w' : World) => ∃ (F3 : SH), Sep w F R w' F3 [] ∧ Fr 41 [(9, .int .u64 s1)] a) hS ?_ ?_
      · clear hS hf hs; clear a; intro s1 a w4 hM hS
        obtain ⟨F3, hs, hf⟩ := hM
        refine sq ?_
        refine reg ?_
        refine st tbOk 3 [6, 7] (L' := [(6, .int .u64 s1), (7, .int .i64 0)]) hf (by kernel_rfl) ?_
        clear hf; clear a; intro a hf
        refine wpList_nil ?_
        have hr := Option.some.inj hS; subst hr
        refine wp_ret ?_
        exact ret_ok hf (vs := [.int .u64 s1, .int .i64 0]) (by kernel_rfl) ⟨_, rfl, hs.sel [] rfl rfl⟩
      · clear hS; intro KK1 k1 hK1 hS
        refine blk ?_
        refine lp (st := (0, i_1)) (fun (s2 : Int × Int) (a : Act) (w' : World) => ∃ (F4 : SH), Sep w F R w' F4 [.ro (tI .u8) (.slice ao1 b.length cp1) b] ∧ Fr 41 [(0, .slice ao1 b.length cp1), (1, .int .u64 p_at), (9, .int .u64 s2.1), (10, .int .i64 s2.2)] a) ?_ ⟨_, hs.sel [0] rfl rfl, hf.keep (ks := [0, 1, 9, 10]) (by kernel_rfl)⟩ hS
        clear hS hf hs; clear a
        intro rec1 KK2 hK2 s2 a w3 hM hS
        obtain ⟨F4, hs, hf⟩ := hM
        refine sq ?_
        refine sq ?_
        refine reg ?_
        refine st tbOk 2 [0, 1, 9, 10, 26] (L' := [(0, .slice ao1 b.length cp1), (1, .int .u64 p_at), (9, .int .u64 s2.1), (10, .int .i64 s2.2), (26, .bool (decide (s2.2 ≥ 0)))]) hf (by kernel_rfl) ?_
        clear hf; clear a; intro a hf
        refine wpList_nil ?_
        refine cnd (b := decide (s2.2 ≥ 0)) hf (by kernel_rfl) (fun hb3 => ?_) (fun hb3 => ?_)
        · replace hS := of_t hb3 hS
          refine wp_skip ?_
          refine sq ?_
          refine blk ?_
          refine reg ?_
          refine st tbOk 7 [0, 1, 10, 30, 31, 35] (L' := [(0, .slice ao1 b.length cp1), (1, .int .u64 p_at), (10, .int .i64 s2.2), (30, .int .u64 (IntKind.u64.wrap (s2.1 * 256))), (31, .slice ao1 b.length cp1), (35, .int .i64 (IntKind.i64.wrap ((IntKind.i64.wrap p_at) + s2.2)))]) hf (by kernel_rfl) ?_
          clear hf; clear a; intro a hf
          have hT := of_gd hS; clear hS; obtain ⟨hc1, hS⟩ := hT
          refine ixR tbOk u27 i5 rfl rfl ((hs.ro 0 rfl).ra (LeH.refl _)) (k := .i64) (n := IntKind.i64.wrap ((IntKind.i64.wrap p_at) + s2.2)) hc1 hf (by kernel_rfl) (by kernel_rfl) (by kernel_rfl) (by kernel_rfl) ?_
          clear hf; clear a; intro pb1 po1 c1 a hp1 hr1 hf
          obtain rfl : c1 = [.int .u8 (gt b (IntKind.i64.wrap ((IntKind.i64.wrap p_at) + s2.2)))] := hr1
          replace hs : Sep w F R w3 F4 [.cel pb1 po1 [.int .u8 (gt b (IntKind.i64.wrap ((IntKind.i64.wrap p_at) + s2.2)))], .ro (tI .u8) (.slice ao1 b.length cp1) b] := hs.addCel hp1
          replace hf := Fr.keep (ks := [0, 1, 10, 30, 36]) (L' := [(0, .slice ao1 b.length cp1), (1, .int .u64 p_at), (10, .int .i64 s2.2), (30, .int .u64 (IntKind.u64.wrap (s2.1 * 256))), (36, .pointer (some ⟨pb1, po1, none⟩))]) hf (by kernel_rfl)
          refine ldC tbOk (T := 5) (hs.ccel 0 rfl) (LeH.refl _) 0 (.int .u8 (gt b (IntKind.i64.wrap ((IntKind.i64.wrap p_at) + s2.2)))) hf (by kernel_rfl) (by kernel_rfl) (by kernel_rfl) (by kernel_rfl) ?_
          clear hf; clear a; intro a hf
          replace hs : Sep w F R w3 F4 [.ro (tI .u8) (.slice ao1 b.length cp1) b] := hs.sel [1] rfl rfl
          replace hf := Fr.keep (ks := [0, 1, 10, 30, 37]) (L' := [(0, .slice ao1 b.length cp1), (1, .int .u64 p_at), (10, .int .i64 s2.2), (30, .int .u64 (IntKind.u64.wrap (s2.1 * 256))), (37, .int .u8 (gt b (IntKind.i64.wrap ((IntKind.i64.wrap p_at) + s2.2))))]) hf (by kernel_rfl)
          have hT := of_let hS; clear hS; obtain ⟨x_1, hl2, hS⟩ := hT
          refine st tbOk 3 [0, 1, 9, 10] (L' := [(0, .slice ao1 b.length cp1), (1, .int .u64 p_at), (9, .int .u64 x_1), (10, .int .i64 s2.2)]) hf (by subst hl2; kernel_rfl) ?_
          clear hf; clear a; intro a hf
          refine wpList_nil ?_
          refine reg ?_
          have hT := of_let hS; clear hS; obtain ⟨i_2, hl3, hS⟩ := hT
          refine st tbOk 3 [0, 1, 9, 10] (L' := [(0, .slice ao1 b.length cp1), (1, .int .u64 p_at), (9, .int .u64 x_1), (10, .int .i64 i_2)]) hf (by subst hl3; kernel_rfl) ?_
          clear hf; clear a; intro a hf
          refine wpList_nil ?_
          exact hK2 (x_1, i_2) _ _ ⟨_, hs.sel [0] rfl rfl, hf.keep (ks := [0, 1, 9, 10]) (by kernel_rfl)⟩ hS
        · replace hS := of_f hb3 hS
          refine wp_exit ?_
          exact hK1 s2.1 _ _ ⟨_, hs.sel [] rfl rfl, hf.keep (ks := [9]) (by kernel_rfl)⟩ hS

set_option maxHeartbeats 4000000 in
theorem ref04_at_ok {w : World} {F : SH} {b : List Int} {i : Int} {n : Int} {ao1 : Option Addr} {cp1 : Nat} (hs : Sep w F (blks [.ro (tI .u8) (.slice ao1 b.length cp1) b]) w F [.ro (tI .u8) (.slice ao1 b.length cp1) b]) {r : Int} (hS : ref04_at b i n = some r) :
    Calls Try.prog 29 [.slice ao1 b.length cp1, .int .u64 i, .int .i64 n].toArray w (Gives (fun u w' => ∃ (F' : SH), u = .int .u64 r ∧ Sep w F (blks [.ro (tI .u8) (.slice ao1 b.length cp1) b]) w' F' [])) := by
  generalize (blks [.ro (tI .u8) (.slice ao1 b.length cp1) b]) = R at hs ⊢
  unfold ref04_at at hS
  refine fn_ok (vs := [.slice ao1 b.length cp1, .int .u64 i, .int .i64 n]) Try.func29 rfl 17 Try.ntmps29 (Nat.le_of_ble_eq_true rfl) ?_
  intro a hf
  replace hf := Fr.cast (L' := [(0, .slice ao1 b.length cp1), (1, .int .u64 i), (2, .int .i64 n)]) hf (by kernel_rfl)
  refine sq ?_
  refine reg ?_
  refine st tbOk 1 [0, 1, 2] (L' := [(0, .slice ao1 b.length cp1), (1, .int .u64 i), (2, .int .i64 n)]) hf (by kernel_rfl) ?_
  clear hf; clear a; intro a hf
  refine wpList_nil ?_
  refine sq ?_
  refine reg ?_
  refine st tbOk 3 [10, 11, 12] (L' := [(10, .slice ao1 b.length cp1), (11, .int .u64 i), (12, .int .i64 n)]) hf (by kernel_rfl) ?_
  clear hf; clear a; intro a hf
  have hT := of_bd hS; clear hS; obtain ⟨z1, hz1, hS⟩ := hT
  refine clV ent43 (vs := [.slice ao1 b.length cp1, .int .u64 i, .int .i64 n]) (caps := []) hf (by kernel_rfl) (by kernel_rfl) (by kernel_rfl) (by kernel_rfl) (ref01_Get_ok (b := b) (p_at := i) (n := n) (hs.enter [0] rfl rfl) hz1) ?_
  clear hf; clear a; intro v w1 a hT hf; obtain ⟨F1, rfl, hr⟩ := hT
  replace hs : Sep w F R w1 F1 [.ro (tI .u8) (.slice ao1 b.length cp1) b] := hs.back [0] [0] rfl rfl rfl rfl hr
  clear hr
  replace hs : Sep w F R w1 F1 [] := hs.sel [] rfl rfl
  replace hf := Fr.keep (ks := [13]) (L' := [(13, .tuple #[.int .u64 z1.1, .int .i64 z1.2])]) hf (by kernel_rfl)
  refine st tbOk 5 [7] (L' := [(7, .int .u64 z1.1)]) hf (by kernel_rfl) ?_
  clear hf; clear a; intro a hf
  refine wpList_nil ?_
  refine sq ?_
  refine reg ?_
  refine st tbOk 2 [6] (L' := [(6, .int .u64 z1.1)]) hf (by kernel_rfl) ?_
  clear hf; clear a; intro a hf
  refine wpList_nil ?_
  have hr := Option.some.inj hS; subst hr
  refine wp_ret ?_
  exact ret_ok hf (vs := [.int .u64 z1.1]) (by kernel_rfl) ⟨_, rfl, hs.sel [] rfl rfl⟩

set_option maxHeartbeats 4000000 in
theorem ref04_Get_ok {w : World} {F : SH} {b : List Int} {ao1 : Option Addr} {cp1 : Nat} (hs : Sep w F (blks [.ro (tI .u8) (.slice ao1 b.length cp1) b]) w F [.ro (tI .u8) (.slice ao1 b.length cp1) b]) {r : (Int × Int × Int × Int × Int × Int × Int) × Int} (hS : ref04_Get b = some r) :
    Calls Try.prog 15 [.slice ao1 b.length cp1].toArray w (Gives (fun u w' => ∃ (F' : SH), u = .tuple #[.agg #[.int .u32 r.1.1, .int .u32 r.1.2.1, .int .u64 r.1.2.2.1, .int .u64 r.1.2.2.2.1, .int .u64 r.1.2.2.2.2.1, .int .u64 r.1.2.2.2.2.2.1, .int .u64 r.1.2.2.2.2.2.2], .int .i64 r.2] ∧ Sep w F (blks [.ro (tI .u8) (.slice ao1 b.length cp1) b]) w' F' [])) := by
  generalize (blks [.ro (tI .u8) (.slice ao1 b.length cp1) b]) = R at hs ⊢
  unfold ref04_Get at hS
  refine fn_ok (vs := [.slice ao1 b.length cp1]) Try.func15 rfl 31 Try.ntmps15 (Nat.le_of_ble_eq_true rfl) ?_
  intro a hf
  replace hf := Fr.cast (L' := [(0, .slice ao1 b.length cp1)]) hf (by kernel_rfl)
  refine sq ?_
  refine reg ?_
  refine al tbOk i25 [.int .u32 0, .int .u32 0, .int .u64 0, .int .u64 0, .int .u64 0, .int .u64 0, .int .u64 0] rfl (by kernel_rfl) hf (by kernel_rfl) (by kernel_rfl) ?_
  clear hf; clear a; intro w1 a hb hx _ hf
  replace hs : Sep w F R w1 F [.box w.heap.size 25 [.int .u32 0, .int .u32 0, .int .u64 0, .int .u64 0, .int .u64 0, .int .u64 0, .int .u64 0], .ro (tI .u8) (.slice ao1 b.length cp1) b] := hs.newBox hb hx
  clear hb hx
  replace hf := Fr.keep (ks := [0, 2]) (L' := [(0, .slice ao1 b.length cp1), (2, .pointer (some ⟨w.heap.size, 0, none⟩))]) hf (by kernel_rfl)
  refine st tbOk 1 [0, 2] (L' := [(0, .slice ao1 b.length cp1), (2, .pointer (some ⟨w.heap.size, 0, none⟩))]) hf (by kernel_rfl) ?_
  clear hf; clear a; intro a hf
  refine wpList_nil ?_
  refine sq ?_
  refine sq ?_
  refine reg ?_
  refine st tbOk 3 [0, 2, 6] (L' := [(0, .slice ao1 b.length cp1), (2, .pointer (some ⟨w.heap.size, 0, none⟩)), (6, .bool (decide (((b.length : Nat) : Int) < 56)))]) hf (by kernel_rfl) ?_
  clear hf; clear a; intro a hf
  refine wpList_nil ?_
  refine cnd (b := decide (((b.length : Nat) : Int) < 56)) hf (by kernel_rfl) (fun hb1 => ?_) (fun hb1 => ?_)
  · replace hS := of_t hb1 hS
    refine sq ?_
    refine reg ?_
    refine st tbOk 1 [2, 7] (L' := [(2, .pointer (some ⟨w.heap.size, 0, none⟩)), (7, .agg #[.int .u32 0, .int .u32 0, .int .u64 0, .int .u64 0, .int .u64 0, .int .u64 0, .int .u64 0])]) hf (by kernel_rfl) ?_
    clear hf; clear a; intro a hf
    refine stB tbOk i25 (hs.bx 0 rfl) 0 [.int .u32 0, .int .u32 0, .int .u64 0, .int .u64 0, .int .u64 0, .int .u64 0, .int .u64 0] [.int .u32 0, .int .u32 0, .int .u64 0, .int .u64 0, .int .u64 0, .int .u64 0, .int .u64 0] (v := .agg #[.int .u32 0, .int .u32 0, .int .u64 0, .int .u64 0, .int .u64 0, .int .u64 0, .int .u64 0]) rfl rfl (by kernel_rfl) (by kernel_rfl) (by kernel_rfl) (by kernel_rfl) hf (by kernel_rfl) (by kernel_rfl) (by kernel_rfl) ?_
    clear hf; clear a; intro w2 a hb hg _ hf
    replace hs : Sep w F R w2 F [.box w.heap.size 25 [.int .u32 0, .int .u32 0, .int .u64 0, .int .u64 0, .int .u64 0, .int .u64 0, .int .u64 0], .ro (tI .u8) (.slice ao1 b.length cp1) b] := hs.updBox 0 rfl hb hg
    clear hb hg
    replace hs : Sep w F R w2 F [.box w.heap.size 25 [.int .u32 0, .int .u32 0, .int .u64 0, .int .u64 0, .int .u64 0, .int .u64 0, .int .u64 0]] := hs.sel [0] rfl rfl
    replace hf := Fr.keep (ks := [2]) (L' := [(2, .pointer (some ⟨w.heap.size, 0, none⟩))]) hf (by kernel_rfl)
    refine st tbOk 1 [2, 3] (L' := [(2, .pointer (some ⟨w.heap.size, 0, none⟩)), (3, .int .i64 10)]) hf (by kernel_rfl) ?_
    clear hf; clear a; intro a hf
    refine wpList_nil ?_
    have hr := Option.some.inj hS; subst hr
    refine wp_ret ?_
    exact ret_okC hf (vs := [.agg #[.int .u32 0, .int .u32 0, .int .u64 0, .int .u64 0, .int .u64 0, .int .u64 0, .int .u64 0], .int .i64 10]) (.cons (.cell tbOk (hs.cbx 0 rfl) (off := 0) (by kernel_rfl) (by kernel_rfl)) (.cons (.tmp (by kernel_rfl)) .nil)) ⟨_, rfl, hs.sel [] rfl rfl⟩
  · replace hS := of_f hb1 hS
    refine wp_skip ?_
    refine sq ?_
    refine sq ?_
    refine reg ?_
    refine st tbOk 1 [0, 2, 8] (L' := [(0, .slice ao1 b.length cp1), (2, .pointer (some ⟨w.heap.size, 0, none⟩)), (8, .slice ao1 b.length cp1)]) hf (by kernel_rfl) ?_
    clear hf; clear a; intro a hf
    have hT := of_bd hS; clear hS; obtain ⟨z1, hz1, hS⟩ := hT
    refine clV ent29 (vs := [.slice ao1 b.length cp1, .int .u64 16, .int .i64 8]) (caps := []) hf (by kernel_rfl) (by kernel_rfl) (by kernel_rfl) (by kernel_rfl) (ref04_at_ok (b := b) (i := 16) (n := 8) (hs.enter [1] rfl rfl) hz1) ?_
    clear hf; clear a; intro v w3 a hT hf; obtain ⟨F1, rfl, hr⟩ := hT
    replace hs : Sep w F R w3 F1 [.box w.heap.size 25 [.int .u32 0, .int .u32 0, .int .u64 0, .int .u64 0, .int .u64 0, .int .u64 0, .int .u64 0], .ro (tI .u8) (.slice ao1 b.length cp1) b] := hs.back [1] [0, 1] rfl rfl rfl rfl hr
    clear hr
    replace hf := Fr.keep (ks := [0, 2, 9]) (L' := [(0, .slice ao1 b.length cp1), (2, .pointer (some ⟨w.heap.size, 0, none⟩)), (9, .int .u64 z1)]) hf (by kernel_rfl)
    refine st tbOk 1 [0, 2, 9, 10] (L' := [(0, .slice ao1 b.length cp1), (2, .pointer (some ⟨w.heap.size, 0, none⟩)), (9, .int .u64 z1), (10, .slice ao1 b.length cp1)]) hf (by kernel_rfl) ?_
    clear hf; clear a; intro a hf
    have hT := of_bd hS; clear hS; obtain ⟨z2, hz2, hS⟩ := hT
    refine clV ent29 (vs := [.slice ao1 b.length cp1, .int .u64 24, .int .i64 8]) (caps := []) hf (by kernel_rfl) (by kernel_rfl) (by kernel_rfl) (by kernel_rfl) (ref04_at_ok (b := b) (i := 24) (n := 8) (hs.enter [1] rfl rfl) hz2) ?_
    clear hf; clear a; intro v w4 a hT hf; obtain ⟨F2, rfl, hr⟩ := hT
    replace hs : Sep w F R w4 F2 [.box w.heap.size 25 [.int .u32 0, .int .u32 0, .int .u64 0, .int .u64 0, .int .u64 0, .int .u64 0, .int .u64 0], .ro (tI .u8) (.slice ao1 b.length cp1) b] := hs.back [1] [0, 1] rfl rfl rfl rfl hr
    clear hr
    replace hf := Fr.keep (ks := [0, 2, 9, 11]) (L' := [(0, .slice ao1 b.length cp1), (2, .pointer (some ⟨w.heap.size, 0, none⟩)), (9, .int .u64 z1), (11, .int .u64 z2)]) hf (by kernel_rfl)
    refine st tbOk 1 [0, 2, 12] (L' := [(0, .slice ao1 b.length cp1), (2, .pointer (some ⟨w.heap.size, 0, none⟩)), (12, .bool (z1 != z2))]) hf (by kernel_rfl) ?_
    clear hf; clear a; intro a hf
    refine wpList_nil ?_
    refine cnd (b := z1 != z2) hf (by kernel_rfl) (fun hb2 => ?_) (fun hb2 => ?_)
    · replace hS := of_t hb2 hS
      refine sq ?_
      refine reg ?_
      refine st tbOk 1 [2, 13] (L' := [(2, .pointer (some ⟨w.heap.size, 0, none⟩)), (13, .agg #[.int .u32 0, .int .u32 0, .int .u64 0, .int .u64 0, .int .u64 0, .int .u64 0, .int .u64 0])]) hf (by kernel_rfl) ?_
      clear hf; clear a; intro a hf
      refine stB tbOk i25 (hs.bx 0 rfl) 0 [.int .u32 0, .int .u32 0, .int .u64 0, .int .u64 0, .int .u64 0, .int .u64 0, .int .u64 0] [.int .u32 0, .int .u32 0, .int .u64 0, .int .u64 0, .int .u64 0, .int .u64 0, .int .u64 0] (v := .agg #[.int .u32 0, .int .u32 0, .int .u64 0, .int .u64 0, .int .u64 0, .int .u64 0, .int .u64 0]) rfl rfl (by kernel_rfl) (by kernel_rfl) (by kernel_rfl) (by kernel_rfl) hf (by kernel_rfl) (by kernel_rfl) (by kernel_rfl) ?_
      clear hf; clear a; intro w5 a hb hg _ hf
      replace hs : Sep w F R w5 F2 [.box w.heap.size 25 [.int .u32 0, .int .u32 0, .int .u64 0, .int .u64 0, .int .u64 0, .int .u64 0, .int .u64 0], .ro (tI .u8) (.slice ao1 b.length cp1) b] := hs.updBox 0 rfl hb hg
      clear hb hg
      replace hs : Sep w F R w5 F2 [.box w.heap.size 25 [.int .u32 0, .int .u32 0, .int .u64 0, .int .u64 0, .int .u64 0, .int .u64 0, .int .u64 0]] := hs.sel [0] rfl rfl
      replace hf := Fr.keep (ks := [2]) (L' := [(2, .pointer (some ⟨w.heap.size, 0, none⟩))]) hf (by kernel_rfl)
      refine st tbOk 1 [2, 3] (L' := [(2, .pointer (some ⟨w.heap.size, 0, none⟩)), (3, .int .i64 11)]) hf (by kernel_rfl) ?_
      clear hf; clear a; intro a hf
      refine wpList_nil ?_
      have hr := Option.some.inj hS; subst hr
      refine wp_ret ?_
      exact ret_okC hf (vs := [.agg #[.int .u32 0, .int .u32 0, .int .u64 0, .int .u64 0, .int .u64 0, .int .u64 0, .int .u64 0], .int .i64 11]) (.cons (.cell tbOk (hs.cbx 0 rfl) (off := 0) (by kernel_rfl) (by kernel_rfl)) (.cons (.tmp (by kernel_rfl)) .nil)) ⟨_, rfl, hs.sel [] rfl rfl⟩
    · replace hS := of_f hb2 hS
      refine wp_skip ?_
      refine sq ?_
      refine reg ?_
      refine st tbOk 1 [0, 2, 14] (L' := [(0, .slice ao1 b.length cp1), (2, .pointer (some ⟨w.heap.size, 0, none⟩)), (14, .slice ao1 b.length cp1)]) hf (by kernel_rfl) ?_
      clear hf; clear a; intro a hf
      have hT := of_bd hS; clear hS; obtain ⟨z3, hz3, hS⟩ := hT
      refine clV ent29 (vs := [.slice ao1 b.length cp1, .int .u64 0, .int .i64 4]) (caps := []) hf (by kernel_rfl) (by kernel_rfl) (by kernel_rfl) (by kernel_rfl) (ref04_at_ok (b := b) (i := 0) (n := 4) (hs.enter [1] rfl rfl) hz3) ?_
      clear hf; clear a; intro v w6 a hT hf; obtain ⟨F3, rfl, hr⟩ := hT
      replace hs : Sep w F R w6 F3 [.box w.heap.size 25 [.int .u32 0, .int .u32 0, .int .u64 0, .int .u64 0, .int .u64 0, .int .u64 0, .int .u64 0], .ro (tI .u8) (.slice ao1 b.length cp1) b] := hs.back [1] [0, 1] rfl rfl rfl rfl hr
      clear hr
      replace hf := Fr.keep (ks := [0, 2, 15]) (L' := [(0, .slice ao1 b.length cp1), (2, .pointer (some ⟨w.heap.size, 0, none⟩)), (15, .int .u64 z3)]) hf (by kernel_rfl)
      refine st tbOk 2 [0, 2, 16, 17] (L' := [(0, .slice ao1 b.length cp1), (2, .pointer (some ⟨w.heap.size, 0, none⟩)), (16, .int .u32 (IntKind.u32.wrap z3)), (17, .slice ao1 b.length cp1)]) hf (by kernel_rfl) ?_
      clear hf; clear a; intro a hf
      have hT := of_bd hS; clear hS; obtain ⟨z4, hz4, hS⟩ := hT
      refine clV ent29 (vs := [.slice ao1 b.length cp1, .int .u64 4, .int .i64 4]) (caps := []) hf (by kernel_rfl) (by kernel_rfl) (by kernel_rfl) (by kernel_rfl) (ref04_at_ok (b := b) (i := 4) (n := 4) (hs.enter [1] rfl rfl) hz4) ?_
      clear hf; clear a; intro v w7 a hT hf; obtain ⟨F4, rfl, hr⟩ := hT
      replace hs : Sep w F R w7 F4 [.box w.heap.size 25 [.int .u32 0, .int .u32 0, .int .u64 0, .int .u64 0, .int .u64 0, .int .u64 0, .int .u64 0], .ro (tI .u8) (.slice ao1 b.length cp1) b] := hs.back [1] [0, 1] rfl rfl rfl rfl hr
      clear hr
      replace hf := Fr.keep (ks := [0, 2, 16, 18]) (L' := [(0, .slice ao1 b.length cp1), (2, .pointer (some ⟨w.heap.size, 0, none⟩)), (16, .int .u32 (IntKind.u32.wrap z3)), (18, .int .u64 z4)]) hf (by kernel_rfl)
      refine st tbOk 2 [0, 2, 16, 19, 20] (L' := [(0, .slice ao1 b.length cp1), (2, .pointer (some ⟨w.heap.size, 0, none⟩)), (16, .int .u32 (IntKind.u32.wrap z3)), (19, .int .u32 (IntKind.u32.wrap z4)), (20, .slice ao1 b.length cp1)]) hf (by kernel_rfl) ?_
      clear hf; clear a; intro a hf
      have hT := of_bd hS; clear hS; obtain ⟨z5, hz5, hS⟩ := hT
      refine clV ent29 (vs := [.slice ao1 b.length cp1, .int .u64 8, .int .i64 8]) (caps := []) hf (by kernel_rfl) (by kernel_rfl) (by kernel_rfl) (by kernel_rfl) (ref04_at_ok (b := b) (i := 8) (n := 8) (hs.enter [1] rfl rfl) hz5) ?_
      clear hf; clear a; intro v w8 a hT hf; obtain ⟨F5, rfl, hr⟩ := hT
      replace hs : Sep w F R w8 F5 [.box w.heap.size 25 [.int .u32 0, .int .u32 0, .int .u64 0, .int .u64 0, .int .u64 0, .int .u64 0, .int .u64 0], .ro (tI .u8) (.slice ao1 b.length cp1) b] := hs.back [1] [0, 1] rfl rfl rfl rfl hr
      clear hr
      replace hf := Fr.keep (ks := [0, 2, 16, 19, 21]) (L' := [(0, .slice ao1 b.length cp1), (2, .pointer (some ⟨w.heap.size, 0, none⟩)), (16, .int .u32 (IntKind.u32.wrap z3)), (19, .int .u32 (IntKind.u32.wrap z4)), (21, .int .u64 z5)]) hf (by kernel_rfl)
      refine st tbOk 1 [0, 2, 16, 19, 21, 22] (L' := [(0, .slice ao1 b.length cp1), (2, .pointer (some ⟨w.heap.size, 0, none⟩)), (16, .int .u32 (IntKind.u32.wrap z3)), (19, .int .u32 (IntKind.u32.wrap z4)), (21, .int .u64 z5), (22, .slice ao1 b.length cp1)]) hf (by kernel_rfl) ?_
      clear hf; clear a; intro a hf
      have hT := of_bd hS; clear hS; obtain ⟨z6, hz6, hS⟩ := hT
      refine clV ent29 (vs := [.slice ao1 b.length cp1, .int .u64 16, .int .i64 8]) (caps := []) hf (by kernel_rfl) (by kernel_rfl) (by kernel_rfl) (by kernel_rfl) (ref04_at_ok (b := b) (i := 16) (n := 8) (hs.enter [1] rfl rfl) hz6) ?_
      clear hf; clear a; intro v w9 a hT hf; obtain ⟨F6, rfl, hr⟩ := hT
      replace hs : Sep w F R w9 F6 [.box w.heap.size 25 [.int .u32 0, .int .u32 0, .int .u64 0, .int .u64 0, .int .u64 0, .int .u64 0, .int .u64 0], .ro (tI .u8) (.slice ao1 b.length cp1) b] := hs.back [1] [0, 1] rfl rfl rfl rfl hr
      clear hr
      replace hf := Fr.keep (ks := [0, 2, 16, 19, 21, 23]) (L' := [(0, .slice ao1 b.length cp1), (2, .pointer (some ⟨w.heap.size, 0, none⟩)), (16, .int .u32 (IntKind.u32.wrap z3)), (19, .int .u32 (IntKind.u32.wrap z4)), (21, .int .u64 z5), (23, .int .u64 z6)]) hf (by kernel_rfl)
      refine st tbOk 1 [0, 2, 16, 19, 21, 23, 24] (L' := [(0, .slice ao1 b.length cp1), (2, .pointer (some ⟨w.heap.size, 0, none⟩)), (16, .int .u32 (IntKind.u32.wrap z3)), (19, .int .u32 (IntKind.u32.wrap z4)), (21, .int .u64 z5), (23, .int .u64 z6), (24, .slice ao1 b.length cp1)]) hf (by kernel_rfl) ?_
      clear hf; clear a; intro a hf
      have hT := of_bd hS; clear hS; obtain ⟨z7, hz7, hS⟩ := hT
      refine clV ent29 (vs := [.slice ao1 b.length cp1, .int .u64 32, .int .i64 8]) (caps := []) hf (by kernel_rfl) (by kernel_rfl) (by kernel_rfl) (by kernel_rfl) (ref04_at_ok (b := b) (i := 32) (n := 8) (hs.enter [1] rfl rfl) hz7) ?_
      clear hf; clear a; intro v w10 a hT hf; obtain ⟨F7, rfl, hr⟩ := hT
      replace hs : Sep w F R w10 F7 [.box w.heap.size 25 [.int .u32 0, .int .u32 0, .int .u64 0, .int .u64 0, .int .u64 0, .int .u64 0, .int .u64 0], .ro (tI .u8) (.slice ao1 b.length cp1) b] := hs.back [1] [0, 1] rfl rfl rfl rfl hr
      clear hr
      replace hf := Fr.keep (ks := [0, 2, 16, 19, 21, 23, 25]) (L' := [(0, .slice ao1 b.length cp1), (2, .pointer (some ⟨w.heap.size, 0, none⟩)), (16, .int .u32 (IntKind.u32.wrap z3)), (19, .int .u32 (IntKind.u32.wrap z4)), (21, .int .u64 z5), (23, .int .u64 z6), (25, .int .u64 z7)]) hf (by kernel_rfl)
      refine st tbOk 1 [0, 2, 16, 19, 21, 23, 25, 26] (L' := [(0, .slice ao1 b.length cp1), (2, .pointer (some ⟨w.heap.size, 0, none⟩)), (16, .int .u32 (IntKind.u32.wrap z3)), (19, .int .u32 (IntKind.u32.wrap z4)), (21, .int .u64 z5), (23, .int .u64 z6), (25, .int .u64 z7), (26, .slice ao1 b.length cp1)]) hf (by kernel_rfl) ?_
      clear hf; clear a; intro a hf
      have hT := of_bd hS; clear hS; obtain ⟨z8, hz8, hS⟩ := hT
      refine clV ent29 (vs := [.slice ao1 b.length cp1, .int .u64 40, .int .i64 8]) (caps := []) hf (by kernel_rfl) (by kernel_rfl) (by kernel_rfl) (by kernel_rfl) (ref04_at_ok (b := b) (i := 40) (n := 8) (hs.enter [1] rfl rfl) hz8) ?_
      clear hf; clear a; intro v w11 a hT hf; obtain ⟨F8, rfl, hr⟩ := hT
      replace hs : Sep w F R w11 F8 [.box w.heap.size 25 [.int .u32 0, .int .u32 0, .int .u64 0, .int .u64 0, .int .u64 0, .int .u64 0, .int .u64 0], .ro (tI .u8) (.slice ao1 b.length cp1) b] := hs.back [1] [0, 1] rfl rfl rfl rfl hr
      clear hr
      replace hf := Fr.keep (ks := [0, 2, 16, 19, 21, 23, 25, 27]) (L' := [(0, .slice ao1 b.length cp1), (2, .pointer (some ⟨w.heap.size, 0, none⟩)), (16, .int .u32 (IntKind.u32.wrap z3)), (19, .int .u32 (IntKind.u32.wrap z4)), (21, .int .u64 z5), (23, .int .u64 z6), (25, .int .u64 z7), (27, .int .u64 z8)]) hf (by kernel_rfl)
      refine st tbOk 1 [2, 16, 19, 21, 23, 25, 27, 28] (L' := [(2, .pointer (some ⟨w.heap.size, 0, none⟩)), (16, .int .u32 (IntKind.u32.wrap z3)), (19, .int .u32 (IntKind.u32.wrap z4)), (21, .int .u64 z5), (23, .int .u64 z6), (25, .int .u64 z7), (27, .int .u64 z8), (28, .slice ao1 b.length cp1)]) hf (by kernel_rfl) ?_
      clear hf; clear a; intro a hf
      have hT := of_bd hS; clear hS; obtain ⟨z9, hz9, hS⟩ := hT
      refine clV ent29 (vs := [.slice ao1 b.length cp1, .int .u64 48, .int .i64 8]) (caps := []) hf (by kernel_rfl) (by kernel_rfl) (by kernel_rfl) (by kernel_rfl) (ref04_at_ok (b := b) (i := 48) (n := 8) (hs.enter [1] rfl rfl) hz9) ?_
      clear hf; clear a; intro v w12 a hT hf; obtain ⟨F9, rfl, hr⟩ := hT
      replace hs : Sep w F R w12 F9 [.box w.heap.size 25 [.int .u32 0, .int .u32 0, .int .u64 0, .int .u64 0, .int .u64 0, .int .u64 0, .int .u64 0], .ro (tI .u8) (.slice ao1 b.length cp1) b] := hs.back [1] [0, 1] rfl rfl rfl rfl hr
      clear hr
      replace hs : Sep w F R w12 F9 [.box w.heap.size 25 [.int .u32 0, .int .u32 0, .int .u64 0, .int .u64 0, .int .u64 0, .int .u64 0, .int .u64 0]] := hs.sel [0] rfl rfl
      replace hf := Fr.keep (ks := [2, 16, 19, 21, 23, 25, 27, 29]) (L' := [(2, .pointer (some ⟨w.heap.size, 0, none⟩)), (16, .int .u32 (IntKind.u32.wrap z3)), (19, .int .u32 (IntKind.u32.wrap z4)), (21, .int .u64 z5), (23, .int .u64 z6), (25, .int .u64 z7), (27, .int .u64 z8), (29, .int .u64 z9)]) hf (by kernel_rfl)
      refine st tbOk 1 [2, 30] (L' := [(2, .pointer (some ⟨w.heap.size, 0, none⟩)), (30, .agg #[.int .u32 (IntKind.u32.wrap z3), .int .u32 (IntKind.u32.wrap z4), .int .u64 z5, .int .u64 z6, .int .u64 z7, .int .u64 z8, .int .u64 z9])]) hf (by kernel_rfl) ?_
      clear hf; clear a; intro a hf
      refine stB tbOk i25 (hs.bx 0 rfl) 0 [.int .u32 (IntKind.u32.wrap z3), .int .u32 (IntKind.u32.wrap z4), .int .u64 z5, .int .u64 z6, .int .u64 z7, .int .u64 z8, .int .u64 z9] [.int .u32 (IntKind.u32.wrap z3), .int .u32 (IntKind.u32.wrap z4), .int .u64 z5, .int .u64 z6, .int .u64 z7, .int .u64 z8, .int .u64 z9] (v := .agg #[.int .u32 (IntKind.u32.wrap z3), .int .u32 (IntKind.u32.wrap z4), .int .u64 z5, .int .u64 z6, .int .u64 z7, .int .u64 z8, .int .u64 z9]) rfl rfl (by kernel_rfl) (by kernel_rfl) (by kernel_rfl) (by kernel_rfl) hf (by kernel_rfl) (by kernel_rfl) (by kernel_rfl) ?_
      clear hf; clear a; intro w13 a hb hg _ hf
      replace hs : Sep w F R w13 F9 [.box w.heap.size 25 [.int .u32 (IntKind.u32.wrap z3), .int .u32 (IntKind.u32.wrap z4), .int .u64 z5, .int .u64 z6, .int .u64 z7, .int .u64 z8, .int .u64 z9]] := hs.updBox 0 rfl hb hg
      clear hb hg
      replace hf := Fr.keep (ks := [2]) (L' := [(2, .pointer (some ⟨w.heap.size, 0, none⟩))]) hf (by kernel_rfl)
      refine st tbOk 1 [2, 3] (L' := [(2, .pointer (some ⟨w.heap.size, 0, none⟩)), (3, .int .i64 0)]) hf (by kernel_rfl) ?_
      clear hf; clear a; intro a hf
      refine wpList_nil ?_
      have hr := Option.some.inj hS; subst hr
      refine wp_ret ?_
      exact ret_okC hf (vs := [.agg #[.int .u32 (IntKind.u32.wrap z3), .int .u32 (IntKind.u32.wrap z4), .int .u64 z5, .int .u64 z6, .int .u64 z7, .int .u64 z8, .int .u64 z9], .int .i64 0]) (.cons (.cell tbOk (hs.cbx 0 rfl) (off := 0) (by kernel_rfl) (by kernel_rfl)) (.cons (.tmp (by kernel_rfl)) .nil)) ⟨_, rfl, hs.sel [] rfl rfl⟩

set_option maxHeartbeats 4000000 in
theorem ref01_Cut_ok {w : World} {F : SH} {b : List Int} {p_at : Int} {size : Int} {ao1 : Option Addr} {cp1 : Nat} (hs : Sep w F (blks [.ro (tI .u8) (.slice ao1 b.length cp1) b]) w F [.ro (tI .u8) (.slice ao1 b.length cp1) b]) {r : (List Int) × Int} (hS : ref01_Cut b p_at size = some r) :
    Calls Try.prog 31 [.slice ao1 b.length cp1, .int .u64 p_at, .int .u64 size].toArray w (Gives (fun u w' => ∃ (ao5 : Option Addr) (cp5 : Nat) (F' : SH), u = .tuple #[.slice ao5 r.1.length cp5, .int .i64 r.2] ∧ Sep w F (blks [.ro (tI .u8) (.slice ao1 b.length cp1) b]) w' F' [.row 5 (tI .u8) (.slice ao5 r.1.length cp5) r.1])) := by
  generalize (blks [.ro (tI .u8) (.slice ao1 b.length cp1) b]) = R at hs ⊢
  unfold ref01_Cut at hS
  refine fn_ok (vs := [.slice ao1 b.length cp1, .int .u64 p_at, .int .u64 size]) Try.func31 rfl 33 Try.ntmps31 (Nat.le_of_ble_eq_true rfl) ?_
  intro a hf
  replace hf := Fr.cast (L' := [(0, .slice ao1 b.length cp1), (1, .int .u64 p_at), (2, .int .u64 size)]) hf (by kernel_rfl)
  refine sq ?_
  refine reg ?_
  refine st tbOk 2 [0, 1, 2] (L' := [(0, .slice ao1 b.length cp1), (1, .int .u64 p_at), (2, .int .u64 size)]) hf (by kernel_rfl) ?_
  clear hf; clear a; intro a hf
  refine wpList_nil ?_
  refine sq ?_
  refine reg ?_
  refine st tbOk 4 [0, 1, 2, 12, 13, 14] (L' := [(0, .slice ao1 b.length cp1), (1, .int .u64 p_at), (2, .int .u64 size), (12, .int .i64 ((b.length : Nat) : Int)), (13, .int .u64 p_at), (14, .int .u64 size)]) hf (by kernel_rfl) ?_
  clear hf; clear a; intro a hf
  have hT := of_bd hS; clear hS; obtain ⟨z1, hz1, hS⟩ := hT
  refine clV ent45 (vs := [.int .i64 ((b.length : Nat) : Int), .int .u64 p_at, .int .u64 size]) (caps := []) hf (by kernel_rfl) (by kernel_rfl) (by kernel_rfl) (by kernel_rfl) (ref01_Inside_ok (p_many := ((b.length : Nat) : Int)) (p_at := p_at) (size := size) (hs.enter [] rfl rfl) hz1) ?_
  clear hf; clear a; intro v w1 a hT hf; obtain ⟨F1, rfl, hr⟩ := hT
  replace hs : Sep w F R w1 F1 [.ro (tI .u8) (.slice ao1 b.length cp1) b] := hs.back [] [0] rfl rfl rfl rfl hr
  clear hr
  replace hf := Fr.keep (ks := [0, 1, 2, 15]) (L' := [(0, .slice ao1 b.length cp1), (1, .int .u64 p_at), (2, .int .u64 size), (15, .bool z1)]) hf (by kernel_rfl)
  refine st tbOk 1 [0, 1, 2, 8] (L' := [(0, .slice ao1 b.length cp1), (1, .int .u64 p_at), (2, .int .u64 size), (8, .bool z1)]) hf (by kernel_rfl) ?_
  clear hf; clear a; intro a hf
  refine wpList_nil ?_
  refine sq ?_
  refine sq ?_
  refine reg ?_
  refine st tbOk 2 [0, 1, 2, 17] (L' := [(0, .slice ao1 b.length cp1), (1, .int .u64 p_at), (2, .int .u64 size), (17, .bool (!z1))]) hf (by kernel_rfl) ?_
  clear hf; clear a; intro a hf
  refine wpList_nil ?_
  refine cnd (b := !z1) hf (by kernel_rfl) (fun hb1 => ?_) (fun hb1 => ?_)
  · replace hS := of_t hb1 hS
    refine sq ?_
    refine reg ?_
    refine st tbOk 2 [6, 7] (L' := [(6, .slice none 0 0), (7, .int .i64 10)]) hf (by kernel_rfl) ?_
    clear hf; clear a; intro a hf
    refine wpList_nil ?_
    have hr := Option.some.inj hS; subst hr
    refine wp_ret ?_
    replace hs : Sep w F R w1 F1 [.row 5 (tI .u8) (.slice none 0 0) ([] : List Int), .ro (tI .u8) (.slice ao1 b.length cp1) b] := hs.addNil 5 (tI .u8)
    exact ret_ok hf (vs := [.slice none 0 0, .int .i64 10]) (by kernel_rfl) ⟨none, 0, _, rfl, hs.sel [0] rfl rfl⟩
  · replace hS := of_f hb1 hS
    refine wp_skip ?_
    refine sq ?_
    refine reg ?_
    refine st tbOk 1 [0, 1, 2, 9] (L' := [(0, .slice ao1 b.length cp1), (1, .int .u64 p_at), (2, .int .u64 size), (9, .slice none 0 0)]) hf (by kernel_rfl) ?_
    clear hf; clear a; intro a hf
    refine wpList_nil ?_
    refine sq ?_
    refine sq ?_
    refine reg ?_
    refine st tbOk 1 [0, 1, 2, 9, 10] (L' := [(0, .slice ao1 b.length cp1), (1, .int .u64 p_at), (2, .int .u64 size), (9, .slice none 0 0), (10, .int .u64 0)]) hf (by kernel_rfl) ?_
    clear hf; clear a; intro a hf
    refine wpList_nil ?_
    refine ctj (fun (s1 : List Int) (a : Act) (w' : World) => ∃ (ao2 : Option Addr) (cp2 : Nat) (F2 : SH), Sep w F R w' F2 [.row 5 (tI .u8) (.slice ao2 s1.length cp2) s1] ∧ Fr 33 [(9, .slice ao2 s1.length cp2)] a) hS ?_ ?_
    · clear hS hf hs; clear a; intro s1 a w5 hM hS
      obtain ⟨ao2, cp2, F2, hs, hf⟩ := hM
      refine sq ?_
      refine reg ?_
      refine st tbOk 3 [6, 7] (L' := [(6, .slice ao2 s1.length cp2), (7, .int .i64 0)]) hf (by kernel_rfl) ?_
      clear hf; clear a; intro a hf
      refine wpList_nil ?_
      have hr := Option.some.inj hS; subst hr
      refine wp_ret ?_
      exact ret_ok hf (vs := [.slice ao2 s1.length cp2, .int .i64 0]) (by kernel_rfl) ⟨ao2, cp2, _, rfl, hs.sel [0] rfl rfl⟩
    · clear hS; intro KK1 k1 hK1 hS
      refine blk ?_
      replace hs : Sep w F R w1 F1 [.row 5 (tI .u8) (.slice none 0 0) ([] : List Int), .ro (tI .u8) (.slice ao1 b.length cp1) b] := hs.addNil 5 (tI .u8)
      refine lp (st := ([], 0)) (fun (s2 : (List Int) × Int) (a : Act) (w' : World) => ∃ (ao3 : Option Addr) (cp3 : Nat) (F3 : SH), Sep w F R w' F3 [.row 5 (tI .u8) (.slice ao3 s2.1.length cp3) s2.1, .ro (tI .u8) (.slice ao1 b.length cp1) b] ∧ Fr 33 [(0, .slice ao1 b.length cp1), (1, .int .u64 p_at), (2, .int .u64 size), (9, .slice ao3 s2.1.length cp3), (10, .int .u64 s2.2)] a) ?_ ⟨none, 0, _, hs.sel [0, 1] rfl rfl, hf.keep (ks := [0, 1, 2, 9, 10]) (by kernel_rfl)⟩ hS
      clear hS hf hs; clear a
      intro rec1 KK2 hK2 s2 a w2 hM hS
      obtain ⟨ao3, cp3, F3, hs, hf⟩ := hM
      refine sq ?_
      refine sq ?_
      refine reg ?_
      refine st tbOk 3 [0, 1, 2, 9, 10, 20] (L' := [(0, .slice ao1 b.length cp1), (1, .int .u64 p_at), (2, .int .u64 size), (9, .slice ao3 s2.1.length cp3), (10, .int .u64 s2.2), (20, .bool (decide (s2.2 < size)))]) hf (by kernel_rfl) ?_
      clear hf; clear a; intro a hf
      refine wpList_nil ?_
      refine cnd (b := decide (s2.2 < size)) hf (by kernel_rfl) (fun hb2 => ?_) (fun hb2 => ?_)
      · replace hS := of_t hb2 hS
        refine wp_skip ?_
        refine sq ?_
        refine blk ?_
        refine reg ?_
        refine st tbOk 5 [0, 1, 2, 10, 23, 24, 27] (L' := [(0, .slice ao1 b.length cp1), (1, .int .u64 p_at), (2, .int .u64 size), (10, .int .u64 s2.2), (23, .slice ao3 s2.1.length cp3), (24, .slice ao1 b.length cp1), (27, .int .u64 (IntKind.u64.wrap (p_at + s2.2)))]) hf (by kernel_rfl) ?_
        clear hf; clear a; intro a hf
        have hT := of_gd hS; clear hS; obtain ⟨hc1, hS⟩ := hT
        refine ixR tbOk u27 i5 rfl rfl ((hs.ro 1 rfl).ra (LeH.refl _)) (k := .u64) (n := IntKind.u64.wrap (p_at + s2.2)) hc1 hf (by kernel_rfl) (by kernel_rfl) (by kernel_rfl) (by kernel_rfl) ?_
        clear hf; clear a; intro pb1 po1 c1 a hp1 hr1 hf
        obtain rfl : c1 = [.int .u8 (gt b (IntKind.u64.wrap (p_at + s2.2)))] := hr1
        replace hs : Sep w F R w2 F3 [.cel pb1 po1 [.int .u8 (gt b (IntKind.u64.wrap (p_at + s2.2)))], .row 5 (tI .u8) (.slice ao3 s2.1.length cp3) s2.1, .ro (tI .u8) (.slice ao1 b.length cp1) b] := hs.addCel hp1
        replace hf := Fr.keep (ks := [0, 1, 2, 10, 23, 28]) (L' := [(0, .slice ao1 b.length cp1), (1, .int .u64 p_at), (2, .int .u64 size), (10, .int .u64 s2.2), (23, .slice ao3 s2.1.length cp3), (28, .pointer (some ⟨pb1, po1, none⟩))]) hf (by kernel_rfl)
        refine ldC tbOk (T := 5) (hs.ccel 0 rfl) (LeH.refl _) 0 (.int .u8 (gt b (IntKind.u64.wrap (p_at + s2.2)))) hf (by kernel_rfl) (by kernel_rfl) (by kernel_rfl) (by kernel_rfl) ?_
        clear hf; clear a; intro a hf
        replace hs : Sep w F R w2 F3 [.row 5 (tI .u8) (.slice ao3 s2.1.length cp3) s2.1, .ro (tI .u8) (.slice ao1 b.length cp1) b] := hs.sel [1, 2] rfl rfl
        replace hf := Fr.keep (ks := [0, 1, 2, 10, 23, 29]) (L' := [(0, .slice ao1 b.length cp1), (1, .int .u64 p_at), (2, .int .u64 size), (10, .int .u64 s2.2), (23, .slice ao3 s2.1.length cp3), (29, .int .u8 (gt b (IntKind.u64.wrap (p_at + s2.2))))]) hf (by kernel_rfl)
        refine bsR tbOk u27 i5 rfl (t := (tI .u8)) (vs := [(0, .int .u8 (gt b (IntKind.u64.wrap (p_at + s2.2))))]) (cells := #[.int .u8 (gt b (IntKind.u64.wrap (p_at + s2.2)))]) ([gt b (IntKind.u64.wrap (p_at + s2.2))] : List Int) hs.le hf (by kernel_rfl) (by kernel_rfl) (by kernel_rfl) rfl (by kernel_rfl) (reps_flat _) rfl ?_
        clear hf; clear a; intro w3 a ho hx hf
        replace hs : Sep w F R w3 F3 [.row 5 (tI .u8) (.slice (some ⟨w2.heap.size, 0, none⟩) ([gt b (IntKind.u64.wrap (p_at + s2.2))] : List Int).length ([gt b (IntKind.u64.wrap (p_at + s2.2))] : List Int).length) ([gt b (IntKind.u64.wrap (p_at + s2.2))] : List Int), .row 5 (tI .u8) (.slice ao3 s2.1.length cp3) s2.1, .ro (tI .u8) (.slice ao1 b.length cp1) b] := hs.newRow ho hx
        clear ho hx
        replace hf := Fr.keep (ks := [0, 1, 2, 10, 23, 30]) (L' := [(0, .slice ao1 b.length cp1), (1, .int .u64 p_at), (2, .int .u64 size), (10, .int .u64 s2.2), (23, .slice ao3 s2.1.length cp3), (30, .slice (some ⟨w2.heap.size, 0, none⟩) ([gt b (IntKind.u64.wrap (p_at + s2.2))] : List Int).length ([gt b (IntKind.u64.wrap (p_at + s2.2))] : List Int).length)]) hf (by kernel_rfl)
        have hT := of_gd hS; clear hS; obtain ⟨hc2, hS⟩ := hT
        refine apR tbOk u27 i5 rfl rfl rfl rfl hs.le (hs.own 1 rfl) (hs.raW 0 rfl) hc2 hf (by kernel_rfl) (by kernel_rfl) (by kernel_rfl) (by kernel_rfl) ?_
        clear hf; clear a; intro ao4 cp4 w4 a ho hg hl hf
        replace hs : Sep w F R w4 F3 [.row 5 (tI .u8) (.slice (some ⟨w2.heap.size, 0, none⟩) ([gt b (IntKind.u64.wrap (p_at + s2.2))] : List Int).length ([gt b (IntKind.u64.wrap (p_at + s2.2))] : List Int).length) ([gt b (IntKind.u64.wrap (p_at + s2.2))] : List Int), .row 5 (tI .u8) (.slice ao4 (s2.1 ++ ([gt b (IntKind.u64.wrap (p_at + s2.2))] : List Int)).length cp4) (s2.1 ++ ([gt b (IntKind.u64.wrap (p_at + s2.2))] : List Int)), .ro (tI .u8) (.slice ao1 b.length cp1) b] := hs.updRow 1 rfl ho hg hl
        clear ho hg hl
        replace hs : Sep w F R w4 F3 [.row 5 (tI .u8) (.slice ao4 (s2.1 ++ ([gt b (IntKind.u64.wrap (p_at + s2.2))] : List Int)).length cp4) (s2.1 ++ ([gt b (IntKind.u64.wrap (p_at + s2.2))] : List Int)), .ro (tI .u8) (.slice ao1 b.length cp1) b] := hs.sel [1, 2] rfl rfl
        replace hf := Fr.keep (ks := [0, 1, 2, 10, 31]) (L' := [(0, .slice ao1 b.length cp1), (1, .int .u64 p_at), (2, .int .u64 size), (10, .int .u64 s2.2), (31, .slice ao4 (s2.1 ++ ([gt b (IntKind.u64.wrap (p_at + s2.2))] : List Int)).length cp4)]) hf (by kernel_rfl)
        refine st tbOk 1 [0, 1, 2, 9, 10] (L' := [(0, .slice ao1 b.length cp1), (1, .int .u64 p_at), (2, .int .u64 size), (9, .slice ao4 (s2.1 ++ ([gt b (IntKind.u64.wrap (p_at + s2.2))] : List Int)).length cp4), (10, .int .u64 s2.2)]) hf (by kernel_rfl) ?_
        clear hf; clear a; intro a hf
        refine wpList_nil ?_
        refine reg ?_
        have hT := of_let hS; clear hS; obtain ⟨i_1, hl1, hS⟩ := hT
        refine st tbOk 3 [0, 1, 2, 9, 10] (L' := [(0, .slice ao1 b.length cp1), (1, .int .u64 p_at), (2, .int .u64 size), (9, .slice ao4 (s2.1 ++ ([gt b (IntKind.u64.wrap (p_at + s2.2))] : List Int)).length cp4), (10, .int .u64 i_1)]) hf (by subst hl1; kernel_rfl) ?_
        clear hf; clear a; intro a hf
        refine wpList_nil ?_
        exact hK2 ((s2.1 ++ ([gt b (IntKind.u64.wrap (p_at + s2.2))] : List Int)), i_1) _ _ ⟨ao4, cp4, _, hs.sel [0, 1] rfl rfl, hf.keep (ks := [0, 1, 2, 9, 10]) (by kernel_rfl)⟩ hS
      · replace hS := of_f hb2 hS
        refine wp_exit ?_
        exact hK1 s2.1 _ _ ⟨ao3, cp3, _, hs.sel [0] rfl rfl, hf.keep (ks := [9]) (by kernel_rfl)⟩ hS

set_option maxHeartbeats 4000000 in
theorem ref04_Table_ok {w : World} {F : SH} {b : List Int} {p_from : Int} {n : Int} {ao1 : Option Addr} {cp1 : Nat} (hs : Sep w F (blks [.ro (tI .u8) (.slice ao1 b.length cp1) b]) w F [.ro (tI .u8) (.slice ao1 b.length cp1) b]) {r : (List (Int × Int × Int × Int × Int × Int × Int)) × Int} (hS : ref04_Table b p_from n = some r) :
    Calls Try.prog 17 [.slice ao1 b.length cp1, .int .u64 p_from, .int .i64 n].toArray w (Gives (fun u w' => ∃ (ao7 : Option Addr) (cp7 : Nat) (F' : SH), u = .tuple #[.slice ao7 r.1.length cp7, .int .i64 r.2] ∧ Sep w F (blks [.ro (tI .u8) (.slice ao1 b.length cp1) b]) w' F' [.row 25 ty24 (.slice ao7 r.1.length cp7) r.1])) := by
  generalize (blks [.ro (tI .u8) (.slice ao1 b.length cp1) b]) = R at hs ⊢
  unfold ref04_Table at hS
  refine fn_ok (vs := [.slice ao1 b.length cp1, .int .u64 p_from, .int .i64 n]) Try.func17 rfl 56 Try.ntmps17 (Nat.le_of_ble_eq_true rfl) ?_
  intro a hf
  replace hf := Fr.cast (L' := [(0, .slice ao1 b.length cp1), (1, .int .u64 p_from), (2, .int .i64 n)]) hf (by kernel_rfl)
  refine sq ?_
  refine reg ?_
  refine st tbOk 2 [0, 1, 2] (L' := [(0, .slice ao1 b.length cp1), (1, .int .u64 p_from), (2, .int .i64 n)]) hf (by kernel_rfl) ?_
  clear hf; clear a; intro a hf
  refine wpList_nil ?_
  refine sq ?_
  refine sq ?_
  refine ctj (fun (s1 : Bool) (a : Act) (w' : World) => ∃ (F1 : SH), Sep w F R w' F1 [.ro (tI .u8) (.slice ao1 b.length cp1) b] ∧ Fr 56 [(0, .slice ao1 b.length cp1), (1, .int .u64 p_from), (2, .int .i64 n), (19, .bool s1)] a) hS ?_ ?_
  · clear hS hf hs; clear a; intro s1 a w1 hM hS
    obtain ⟨F1, hs, hf⟩ := hM
    refine cnd (b := s1) hf (by kernel_rfl) (fun hb2 => ?_) (fun hb2 => ?_)
    · replace hS := of_t hb2 hS
      refine sq ?_
      refine reg ?_
      refine st tbOk 2 [6, 7] (L' := [(6, .slice none 0 0), (7, .int .i64 1)]) hf (by kernel_rfl) ?_
      clear hf; clear a; intro a hf
      refine wpList_nil ?_
      have hr := Option.some.inj hS; subst hr
      refine wp_ret ?_
      replace hs : Sep w F R w1 F1 [.row 25 ty24 (.slice none 0 0) ([] : List (Int × Int × Int × Int × Int × Int × Int)), .ro (tI .u8) (.slice ao1 b.length cp1) b] := hs.addNil 25 ty24
      exact ret_ok hf (vs := [.slice none 0 0, .int .i64 1]) (by kernel_rfl) ⟨none, 0, _, rfl, hs.sel [0] rfl rfl⟩
    · replace hS := of_f hb2 hS
      refine wp_skip ?_
      refine sq ?_
      refine reg ?_
      refine st tbOk 5 [2, 21, 22, 25] (L' := [(2, .int .i64 n), (21, .slice ao1 b.length cp1), (22, .int .u64 p_from), (25, .int .u64 (IntKind.u64.wrap (IntKind.i64.wrap (56 * n))))]) hf (by kernel_rfl) ?_
      clear hf; clear a; intro a hf
      have hT := of_bd hS; clear hS; obtain ⟨z1, hz1, hS⟩ := hT
      refine clV ent31 (vs := [.slice ao1 b.length cp1, .int .u64 p_from, .int .u64 (IntKind.u64.wrap (IntKind.i64.wrap (56 * n)))]) (caps := []) hf (by kernel_rfl) (by kernel_rfl) (by kernel_rfl) (by kernel_rfl) (ref01_Cut_ok (b := b) (p_at := p_from) (size := IntKind.u64.wrap (IntKind.i64.wrap (56 * n))) (hs.enter [0] rfl rfl) hz1) ?_
      clear hf; clear a; intro v w2 a hT hf; obtain ⟨ao2, cp2, F2, rfl, hr⟩ := hT
      replace hs : Sep w F R w2 F2 [.row 5 (tI .u8) (.slice ao2 z1.1.length cp2) z1.1, .ro (tI .u8) (.slice ao1 b.length cp1) b] := hs.back [0] [0] rfl rfl rfl rfl hr
      clear hr
      replace hs : Sep w F R w2 F2 [.row 5 (tI .u8) (.slice ao2 z1.1.length cp2) z1.1] := hs.sel [0] rfl rfl
      replace hf := Fr.keep (ks := [2, 26]) (L' := [(2, .int .i64 n), (26, .tuple #[.slice ao2 z1.1.length cp2, .int .i64 z1.2])]) hf (by kernel_rfl)
      refine st tbOk 5 [2, 8, 9] (L' := [(2, .int .i64 n), (8, .slice ao2 z1.1.length cp2), (9, .int .i64 z1.2)]) hf (by kernel_rfl) ?_
      clear hf; clear a; intro a hf
      refine wpList_nil ?_
      refine sq ?_
      refine sq ?_
      refine reg ?_
      refine st tbOk 2 [2, 8, 9, 30] (L' := [(2, .int .i64 n), (8, .slice ao2 z1.1.length cp2), (9, .int .i64 z1.2), (30, .bool (z1.2 != 0))]) hf (by kernel_rfl) ?_
      clear hf; clear a; intro a hf
      refine wpList_nil ?_
      refine cnd (b := z1.2 != 0) hf (by kernel_rfl) (fun hb3 => ?_) (fun hb3 => ?_)
      · replace hS := of_t hb3 hS
        refine sq ?_
        refine reg ?_
        refine st tbOk 3 [6, 7] (L' := [(6, .slice none 0 0), (7, .int .i64 z1.2)]) hf (by kernel_rfl) ?_
        clear hf; clear a; intro a hf
        refine wpList_nil ?_
        have hr := Option.some.inj hS; subst hr
        refine wp_ret ?_
        replace hs : Sep w F R w2 F2 [.row 25 ty24 (.slice none 0 0) ([] : List (Int × Int × Int × Int × Int × Int × Int)), .row 5 (tI .u8) (.slice ao2 z1.1.length cp2) z1.1] := hs.addNil 25 ty24
        exact ret_ok hf (vs := [.slice none 0 0, .int .i64 z1.2]) (by kernel_rfl) ⟨none, 0, _, rfl, hs.sel [0] rfl rfl⟩
      · replace hS := of_f hb3 hS
        refine wp_skip ?_
        refine sq ?_
        refine reg ?_
        refine st tbOk 1 [2, 8, 10] (L' := [(2, .int .i64 n), (8, .slice ao2 z1.1.length cp2), (10, .slice none 0 0)]) hf (by kernel_rfl) ?_
        clear hf; clear a; intro a hf
        refine wpList_nil ?_
        refine sq ?_
        refine sq ?_
        refine reg ?_
        refine st tbOk 1 [2, 8, 10, 11] (L' := [(2, .int .i64 n), (8, .slice ao2 z1.1.length cp2), (10, .slice none 0 0), (11, .int .i64 0)]) hf (by kernel_rfl) ?_
        clear hf; clear a; intro a hf
        refine wpList_nil ?_
        obtain ⟨F3, _, hs⟩ := hs.frz 0 rfl
        replace hs : Sep w F R w2 F3 [.ro (tI .u8) (.slice ao2 z1.1.length cp2) z1.1] := hs
        refine ctj (fun (s3 : List (Int × Int × Int × Int × Int × Int × Int)) (a : Act) (w' : World) => ∃ (ao3 : Option Addr) (cp3 : Nat) (F4 : SH), Sep w F R w' F4 [.row 25 ty24 (.slice ao3 s3.length cp3) s3] ∧ Fr 56 [(10, .slice ao3 s3.length cp3)] a) hS ?_ ?_
        · clear hS hf hs; clear a; intro s3 a w9 hM hS
          obtain ⟨ao3, cp3, F4, hs, hf⟩ := hM
          refine sq ?_
          refine reg ?_
          refine st tbOk 3 [6, 7] (L' := [(6, .slice ao3 s3.length cp3), (7, .int .i64 0)]) hf (by kernel_rfl) ?_
          clear hf; clear a; intro a hf
          refine wpList_nil ?_
          have hr := Option.some.inj hS; subst hr
          refine wp_ret ?_
          exact ret_ok hf (vs := [.slice ao3 s3.length cp3, .int .i64 0]) (by kernel_rfl) ⟨ao3, cp3, _, rfl, hs.sel [0] rfl rfl⟩
        · clear hS; intro KK2 k3 hK2 hS
          refine blk ?_
          replace hs : Sep w F R w2 F3 [.row 25 ty24 (.slice none 0 0) ([] : List (Int × Int × Int × Int × Int × Int × Int)), .ro (tI .u8) (.slice ao2 z1.1.length cp2) z1.1] := hs.addNil 25 ty24
          refine lp (st := ([], 0)) (fun (s4 : (List (Int × Int × Int × Int × Int × Int × Int)) × Int) (a : Act) (w' : World) => ∃ (ao4 : Option Addr) (cp4 : Nat) (F5 : SH), Sep w F R w' F5 [.row 25 ty24 (.slice ao4 s4.1.length cp4) s4.1, .ro (tI .u8) (.slice ao2 z1.1.length cp2) z1.1] ∧ Fr 56 [(2, .int .i64 n), (8, .slice ao2 z1.1.length cp2), (10, .slice ao4 s4.1.length cp4), (11, .int .i64 s4.2)] a) ?_ ⟨none, 0, _, hs.sel [0, 1] rfl rfl, hf.keep (ks := [2, 8, 10, 11]) (by kernel_rfl)⟩ hS
          clear hS hf hs; clear a
          intro rec1 KK3 hK3 s4 a w3 hM hS
          obtain ⟨ao4, cp4, F5, hs, hf⟩ := hM
          refine sq ?_
          refine sq ?_
          refine reg ?_
          refine st tbOk 3 [2, 8, 10, 11, 34] (L' := [(2, .int .i64 n), (8, .slice ao2 z1.1.length cp2), (10, .slice ao4 s4.1.length cp4), (11, .int .i64 s4.2), (34, .bool (decide (s4.2 < n)))]) hf (by kernel_rfl) ?_
          clear hf; clear a; intro a hf
          refine wpList_nil ?_
          refine cnd (b := decide (s4.2 < n)) hf (by kernel_rfl) (fun hb4 => ?_) (fun hb4 => ?_)
          · replace hS := of_t hb4 hS
            refine wp_skip ?_
            refine sq ?_
            refine blk ?_
            refine sq ?_
            refine reg ?_
            refine st tbOk 6 [2, 8, 10, 11, 38, 40, 43] (L' := [(2, .int .i64 n), (8, .slice ao2 z1.1.length cp2), (10, .slice ao4 s4.1.length cp4), (11, .int .i64 s4.2), (38, .slice ao2 z1.1.length cp2), (40, .int .i64 (IntKind.i64.wrap (56 * s4.2))), (43, .int .i64 (IntKind.i64.wrap ((IntKind.i64.wrap (56 * s4.2)) + 56)))]) hf (by kernel_rfl) ?_
            clear hf; clear a; intro a hf
            have hT := of_gd hS; clear hS; obtain ⟨hc1, hS⟩ := hT
            refine sl tbOk u27 i5 rfl (hs.ro 1 rfl) (lo := IntKind.i64.wrap (56 * s4.2)) (hi := IntKind.i64.wrap ((IntKind.i64.wrap (56 * s4.2)) + 56)) (m := 0) hc1 (.inr ⟨_, .i64, rfl, by kernel_rfl⟩) (.inr ⟨_, .i64, rfl, by kernel_rfl⟩) (.inl rfl) hf (by kernel_rfl) (by kernel_rfl) (by kernel_rfl) ?_
            clear hf; clear a; intro ao5 cp5 a hr1 hf
            replace hs : Sep w F R w3 F5 [.ro (tI .u8) (.slice ao5 (cutL z1.1 (IntKind.i64.wrap (56 * s4.2)) (IntKind.i64.wrap ((IntKind.i64.wrap (56 * s4.2)) + 56))).length cp5) (cutL z1.1 (IntKind.i64.wrap (56 * s4.2)) (IntKind.i64.wrap ((IntKind.i64.wrap (56 * s4.2)) + 56))), .row 25 ty24 (.slice ao4 s4.1.length cp4) s4.1, .ro (tI .u8) (.slice ao2 z1.1.length cp2) z1.1] := hs.addRo hr1
            replace hf := Fr.keep (ks := [2, 8, 10, 11, 44]) (L' := [(2, .int .i64 n), (8, .slice ao2 z1.1.length cp2), (10, .slice ao4 s4.1.length cp4), (11, .int .i64 s4.2), (44, .slice ao5 (cutL z1.1 (IntKind.i64.wrap (56 * s4.2)) (IntKind.i64.wrap ((IntKind.i64.wrap (56 * s4.2)) + 56))).length cp5)]) hf (by kernel_rfl)
            have hT := of_bd hS; clear hS; obtain ⟨z2, hz2, hS⟩ := hT
            refine clV ent15 (vs := [.slice ao5 (cutL z1.1 (IntKind.i64.wrap (56 * s4.2)) (IntKind.i64.wrap ((IntKind.i64.wrap (56 * s4.2)) + 56))).length cp5]) (caps := []) hf (by kernel_rfl) (by kernel_rfl) (by kernel_rfl) (by kernel_rfl) (ref04_Get_ok (b := (cutL z1.1 (IntKind.i64.wrap (56 * s4.2)) (IntKind.i64.wrap ((IntKind.i64.wrap (56 * s4.2)) + 56)))) (hs.enter [0] rfl rfl) hz2) ?_
            clear hf; clear a; intro v w4 a hT hf; obtain ⟨F6, rfl, hr⟩ := hT
            replace hs : Sep w F R w4 F6 [.ro (tI .u8) (.slice ao5 (cutL z1.1 (IntKind.i64.wrap (56 * s4.2)) (IntKind.i64.wrap ((IntKind.i64.wrap (56 * s4.2)) + 56))).length cp5) (cutL z1.1 (IntKind.i64.wrap (56 * s4.2)) (IntKind.i64.wrap ((IntKind.i64.wrap (56 * s4.2)) + 56))), .row 25 ty24 (.slice ao4 s4.1.length cp4) s4.1, .ro (tI .u8) (.slice ao2 z1.1.length cp2) z1.1] := hs.back [0] [0, 1, 2] rfl rfl rfl rfl hr
            clear hr
            replace hs : Sep w F R w4 F6 [.row 25 ty24 (.slice ao4 s4.1.length cp4) s4.1, .ro (tI .u8) (.slice ao2 z1.1.length cp2) z1.1] := hs.sel [1, 2] rfl rfl
            replace hf := Fr.keep (ks := [2, 8, 10, 11, 45]) (L' := [(2, .int .i64 n), (8, .slice ao2 z1.1.length cp2), (10, .slice ao4 s4.1.length cp4), (11, .int .i64 s4.2), (45, .tuple #[.agg #[.int .u32 z2.1.1, .int .u32 z2.1.2.1, .int .u64 z2.1.2.2.1, .int .u64 z2.1.2.2.2.1, .int .u64 z2.1.2.2.2.2.1, .int .u64 z2.1.2.2.2.2.2.1, .int .u64 z2.1.2.2.2.2.2.2], .int .i64 z2.2])]) hf (by kernel_rfl)
            refine st tbOk 3 [2, 8, 10, 11, 46, 47] (L' := [(2, .int .i64 n), (8, .slice ao2 z1.1.length cp2), (10, .slice ao4 s4.1.length cp4), (11, .int .i64 s4.2), (46, .agg #[.int .u32 z2.1.1, .int .u32 z2.1.2.1, .int .u64 z2.1.2.2.1, .int .u64 z2.1.2.2.2.1, .int .u64 z2.1.2.2.2.2.1, .int .u64 z2.1.2.2.2.2.2.1, .int .u64 z2.1.2.2.2.2.2.2]), (47, .int .i64 z2.2)]) hf (by kernel_rfl) ?_
            clear hf; clear a; intro a hf
            refine al tbOk i25 [.int .u32 0, .int .u32 0, .int .u64 0, .int .u64 0, .int .u64 0, .int .u64 0, .int .u64 0] rfl (by kernel_rfl) hf (by kernel_rfl) (by kernel_rfl) ?_
            clear hf; clear a; intro w5 a hb hx _ hf
            replace hs : Sep w F R w5 F6 [.box w4.heap.size 25 [.int .u32 0, .int .u32 0, .int .u64 0, .int .u64 0, .int .u64 0, .int .u64 0, .int .u64 0], .row 25 ty24 (.slice ao4 s4.1.length cp4) s4.1, .ro (tI .u8) (.slice ao2 z1.1.length cp2) z1.1] := hs.newBox hb hx
            clear hb hx
            replace hf := Fr.keep (ks := [2, 8, 10, 11, 12, 46, 47]) (L' := [(2, .int .i64 n), (8, .slice ao2 z1.1.length cp2), (10, .slice ao4 s4.1.length cp4), (11, .int .i64 s4.2), (12, .pointer (some ⟨w4.heap.size, 0, none⟩)), (46, .agg #[.int .u32 z2.1.1, .int .u32 z2.1.2.1, .int .u64 z2.1.2.2.1, .int .u64 z2.1.2.2.2.1, .int .u64 z2.1.2.2.2.2.1, .int .u64 z2.1.2.2.2.2.2.1, .int .u64 z2.1.2.2.2.2.2.2]), (47, .int .i64 z2.2)]) hf (by kernel_rfl)
            refine stB tbOk i25 (hs.bx 0 rfl) 0 [.int .u32 z2.1.1, .int .u32 z2.1.2.1, .int .u64 z2.1.2.2.1, .int .u64 z2.1.2.2.2.1, .int .u64 z2.1.2.2.2.2.1, .int .u64 z2.1.2.2.2.2.2.1, .int .u64 z2.1.2.2.2.2.2.2] [.int .u32 z2.1.1, .int .u32 z2.1.2.1, .int .u64 z2.1.2.2.1, .int .u64 z2.1.2.2.2.1, .int .u64 z2.1.2.2.2.2.1, .int .u64 z2.1.2.2.2.2.2.1, .int .u64 z2.1.2.2.2.2.2.2] (v := .agg #[.int .u32 z2.1.1, .int .u32 z2.1.2.1, .int .u64 z2.1.2.2.1, .int .u64 z2.1.2.2.2.1, .int .u64 z2.1.2.2.2.2.1, .int .u64 z2.1.2.2.2.2.2.1, .int .u64 z2.1.2.2.2.2.2.2]) rfl rfl (by kernel_rfl) (by kernel_rfl) (by kernel_rfl) (by kernel_rfl) hf (by kernel_rfl) (by kernel_rfl) (by kernel_rfl) ?_
            clear hf; clear a; intro w6 a hb hg _ hf
            replace hs : Sep w F R w6 F6 [.box w4.heap.size 25 [.int .u32 z2.1.1, .int .u32 z2.1.2.1, .int .u64 z2.1.2.2.1, .int .u64 z2.1.2.2.2.1, .int .u64 z2.1.2.2.2.2.1, .int .u64 z2.1.2.2.2.2.2.1, .int .u64 z2.1.2.2.2.2.2.2], .row 25 ty24 (.slice ao4 s4.1.length cp4) s4.1, .ro (tI .u8) (.slice ao2 z1.1.length cp2) z1.1] := hs.updBox 0 rfl hb hg
            clear hb hg
            replace hf := Fr.keep (ks := [2, 8, 10, 11, 12, 47]) (L' := [(2, .int .i64 n), (8, .slice ao2 z1.1.length cp2), (10, .slice ao4 s4.1.length cp4), (11, .int .i64 s4.2), (12, .pointer (some ⟨w4.heap.size, 0, none⟩)), (47, .int .i64 z2.2)]) hf (by kernel_rfl)
            refine st tbOk 1 [2, 8, 10, 11, 12, 13] (L' := [(2, .int .i64 n), (8, .slice ao2 z1.1.length cp2), (10, .slice ao4 s4.1.length cp4), (11, .int .i64 s4.2), (12, .pointer (some ⟨w4.heap.size, 0, none⟩)), (13, .int .i64 z2.2)]) hf (by kernel_rfl) ?_
            clear hf; clear a; intro a hf
            refine wpList_nil ?_
            refine sq ?_
            refine sq ?_
            refine reg ?_
            refine st tbOk 2 [2, 8, 10, 11, 12, 13, 49] (L' := [(2, .int .i64 n), (8, .slice ao2 z1.1.length cp2), (10, .slice ao4 s4.1.length cp4), (11, .int .i64 s4.2), (12, .pointer (some ⟨w4.heap.size, 0, none⟩)), (13, .int .i64 z2.2), (49, .bool (z2.2 != 0))]) hf (by kernel_rfl) ?_
            clear hf; clear a; intro a hf
            refine wpList_nil ?_
            refine cnd (b := z2.2 != 0) hf (by kernel_rfl) (fun hb5 => ?_) (fun hb5 => ?_)
            · replace hS := of_t hb5 hS
              refine sq ?_
              refine reg ?_
              refine st tbOk 3 [6, 7] (L' := [(6, .slice none 0 0), (7, .int .i64 z2.2)]) hf (by kernel_rfl) ?_
              clear hf; clear a; intro a hf
              refine wpList_nil ?_
              have hr := Option.some.inj hS; subst hr
              refine wp_ret ?_
              replace hs : Sep w F R w6 F6 [.row 25 ty24 (.slice none 0 0) ([] : List (Int × Int × Int × Int × Int × Int × Int)), .box w4.heap.size 25 [.int .u32 z2.1.1, .int .u32 z2.1.2.1, .int .u64 z2.1.2.2.1, .int .u64 z2.1.2.2.2.1, .int .u64 z2.1.2.2.2.2.1, .int .u64 z2.1.2.2.2.2.2.1, .int .u64 z2.1.2.2.2.2.2.2], .row 25 ty24 (.slice ao4 s4.1.length cp4) s4.1, .ro (tI .u8) (.slice ao2 z1.1.length cp2) z1.1] := hs.addNil 25 ty24
              exact ret_ok hf (vs := [.slice none 0 0, .int .i64 z2.2]) (by kernel_rfl) ⟨none, 0, _, rfl, hs.sel [0] rfl rfl⟩
            · replace hS := of_f hb5 hS
              refine wp_skip ?_
              refine reg ?_
              refine st tbOk 1 [2, 8, 11, 12, 51] (L' := [(2, .int .i64 n), (8, .slice ao2 z1.1.length cp2), (11, .int .i64 s4.2), (12, .pointer (some ⟨w4.heap.size, 0, none⟩)), (51, .slice ao4 s4.1.length cp4)]) hf (by kernel_rfl) ?_
              clear hf; clear a; intro a hf
              refine ldC tbOk (T := 25) (hs.cbx 0 rfl) (LeH.refl _) 0 (.agg #[.int .u32 z2.1.1, .int .u32 z2.1.2.1, .int .u64 z2.1.2.2.1, .int .u64 z2.1.2.2.2.1, .int .u64 z2.1.2.2.2.2.1, .int .u64 z2.1.2.2.2.2.2.1, .int .u64 z2.1.2.2.2.2.2.2]) hf (by kernel_rfl) (by kernel_rfl) (by kernel_rfl) (by kernel_rfl) ?_
              clear hf; clear a; intro a hf
              replace hs : Sep w F R w6 F6 [.row 25 ty24 (.slice ao4 s4.1.length cp4) s4.1, .ro (tI .u8) (.slice ao2 z1.1.length cp2) z1.1] := hs.sel [1, 2] rfl rfl
              replace hf := Fr.keep (ks := [2, 8, 11, 51, 52]) (L' := [(2, .int .i64 n), (8, .slice ao2 z1.1.length cp2), (11, .int .i64 s4.2), (51, .slice ao4 s4.1.length cp4), (52, .agg #[.int .u32 z2.1.1, .int .u32 z2.1.2.1, .int .u64 z2.1.2.2.1, .int .u64 z2.1.2.2.2.1, .int .u64 z2.1.2.2.2.2.1, .int .u64 z2.1.2.2.2.2.2.1, .int .u64 z2.1.2.2.2.2.2.2])]) hf (by kernel_rfl)
              refine bsR tbOk u33 i25 rfl (t := ty24) (vs := [(0, .agg #[.int .u32 z2.1.1, .int .u32 z2.1.2.1, .int .u64 z2.1.2.2.1, .int .u64 z2.1.2.2.2.1, .int .u64 z2.1.2.2.2.2.1, .int .u64 z2.1.2.2.2.2.2.1, .int .u64 z2.1.2.2.2.2.2.2])]) (cells := #[.int .u32 z2.1.1, .int .u32 z2.1.2.1, .int .u64 z2.1.2.2.1, .int .u64 z2.1.2.2.2.1, .int .u64 z2.1.2.2.2.2.1, .int .u64 z2.1.2.2.2.2.2.1, .int .u64 z2.1.2.2.2.2.2.2]) ([(z2.1.1, z2.1.2.1, z2.1.2.2.1, z2.1.2.2.2.1, z2.1.2.2.2.2.1, z2.1.2.2.2.2.2.1, z2.1.2.2.2.2.2.2)] : List (Int × Int × Int × Int × Int × Int × Int)) hs.le hf (by kernel_rfl) (by kernel_rfl) (by kernel_rfl) rfl (by kernel_rfl) (reps_flat _) rfl ?_
              clear hf; clear a; intro w7 a ho hx hf
              replace hs : Sep w F R w7 F6 [.row 25 ty24 (.slice (some ⟨w6.heap.size, 0, none⟩) ([(z2.1.1, z2.1.2.1, z2.1.2.2.1, z2.1.2.2.2.1, z2.1.2.2.2.2.1, z2.1.2.2.2.2.2.1, z2.1.2.2.2.2.2.2)] : List (Int × Int × Int × Int × Int × Int × Int)).length ([(z2.1.1, z2.1.2.1, z2.1.2.2.1, z2.1.2.2.2.1, z2.1.2.2.2.2.1, z2.1.2.2.2.2.2.1, z2.1.2.2.2.2.2.2)] : List (Int × Int × Int × Int × Int × Int × Int)).length) ([(z2.1.1, z2.1.2.1, z2.1.2.2.1, z2.1.2.2.2.1, z2.1.2.2.2.2.1, z2.1.2.2.2.2.2.1, z2.1.2.2.2.2.2.2)] : List (Int × Int × Int × Int × Int × Int × Int)), .row 25 ty24 (.slice ao4 s4.1.length cp4) s4.1, .ro (tI .u8) (.slice ao2 z1.1.length cp2) z1.1] := hs.newRow ho hx
              clear ho hx
              replace hf := Fr.keep (ks := [2, 8, 11, 51, 53]) (L' := [(2, .int .i64 n), (8, .slice ao2 z1.1.length cp2), (11, .int .i64 s4.2), (51, .slice ao4 s4.1.length cp4), (53, .slice (some ⟨w6.heap.size, 0, none⟩) ([(z2.1.1, z2.1.2.1, z2.1.2.2.1, z2.1.2.2.2.1, z2.1.2.2.2.2.1, z2.1.2.2.2.2.2.1, z2.1.2.2.2.2.2.2)] : List (Int × Int × Int × Int × Int × Int × Int)).length ([(z2.1.1, z2.1.2.1, z2.1.2.2.1, z2.1.2.2.2.1, z2.1.2.2.2.2.1, z2.1.2.2.2.2.2.1, z2.1.2.2.2.2.2.2)] : List (Int × Int × Int × Int × Int × Int × Int)).length)]) hf (by kernel_rfl)
              have hT := of_gd hS; clear hS; obtain ⟨hc2, hS⟩ := hT
              refine apR tbOk u33 i25 rfl rfl rfl rfl hs.le (hs.own 1 rfl) (hs.raW 0 rfl) hc2 hf (by kernel_rfl) (by kernel_rfl) (by kernel_rfl) (by kernel_rfl) ?_
              clear hf; clear a; intro ao6 cp6 w8 a ho hg hl hf
              replace hs : Sep w F R w8 F6 [.row 25 ty24 (.slice (some ⟨w6.heap.size, 0, none⟩) ([(z2.1.1, z2.1.2.1, z2.1.2.2.1, z2.1.2.2.2.1, z2.1.2.2.2.2.1, z2.1.2.2.2.2.2.1, z2.1.2.2.2.2.2.2)] : List (Int × Int × Int × Int × Int × Int × Int)).length ([(z2.1.1, z2.1.2.1, z2.1.2.2.1, z2.1.2.2.2.1, z2.1.2.2.2.2.1, z2.1.2.2.2.2.2.1, z2.1.2.2.2.2.2.2)] : List (Int × Int × Int × Int × Int × Int × Int)).length) ([(z2.1.1, z2.1.2.1, z2.1.2.2.1, z2.1.2.2.2.1, z2.1.2.2.2.2.1, z2.1.2.2.2.2.2.1, z2.1.2.2.2.2.2.2)] : List (Int × Int × Int × Int × Int × Int × Int)), .row 25 ty24 (.slice ao6 (s4.1 ++ ([(z2.1.1, z2.1.2.1, z2.1.2.2.1, z2.1.2.2.2.1, z2.1.2.2.2.2.1, z2.1.2.2.2.2.2.1, z2.1.2.2.2.2.2.2)] : List (Int × Int × Int × Int × Int × Int × Int))).length cp6) (s4.1 ++ ([(z2.1.1, z2.1.2.1, z2.1.2.2.1, z2.1.2.2.2.1, z2.1.2.2.2.2.1, z2.1.2.2.2.2.2.1, z2.1.2.2.2.2.2.2)] : List (Int × Int × Int × Int × Int × Int × Int))), .ro (tI .u8) (.slice ao2 z1.1.length cp2) z1.1] := hs.updRow 1 rfl ho hg hl
              clear ho hg hl
              replace hs : Sep w F R w8 F6 [.row 25 ty24 (.slice ao6 (s4.1 ++ ([(z2.1.1, z2.1.2.1, z2.1.2.2.1, z2.1.2.2.2.1, z2.1.2.2.2.2.1, z2.1.2.2.2.2.2.1, z2.1.2.2.2.2.2.2)] : List (Int × Int × Int × Int × Int × Int × Int))).length cp6) (s4.1 ++ ([(z2.1.1, z2.1.2.1, z2.1.2.2.1, z2.1.2.2.2.1, z2.1.2.2.2.2.1, z2.1.2.2.2.2.2.1, z2.1.2.2.2.2.2.2)] : List (Int × Int × Int × Int × Int × Int × Int))), .ro (tI .u8) (.slice ao2 z1.1.length cp2) z1.1] := hs.sel [1, 2] rfl rfl
              replace hf := Fr.keep (ks := [2, 8, 11, 54]) (L' := [(2, .int .i64 n), (8, .slice ao2 z1.1.length cp2), (11, .int .i64 s4.2), (54, .slice ao6 (s4.1 ++ ([(z2.1.1, z2.1.2.1, z2.1.2.2.1, z2.1.2.2.2.1, z2.1.2.2.2.2.1, z2.1.2.2.2.2.2.1, z2.1.2.2.2.2.2.2)] : List (Int × Int × Int × Int × Int × Int × Int))).length cp6)]) hf (by kernel_rfl)
              refine st tbOk 1 [2, 8, 10, 11] (L' := [(2, .int .i64 n), (8, .slice ao2 z1.1.length cp2), (10, .slice ao6 (s4.1 ++ ([(z2.1.1, z2.1.2.1, z2.1.2.2.1, z2.1.2.2.2.1, z2.1.2.2.2.2.1, z2.1.2.2.2.2.2.1, z2.1.2.2.2.2.2.2)] : List (Int × Int × Int × Int × Int × Int × Int))).length cp6), (11, .int .i64 s4.2)]) hf (by kernel_rfl) ?_
              clear hf; clear a; intro a hf
              refine wpList_nil ?_
              refine reg ?_
              have hT := of_let hS; clear hS; obtain ⟨i_1, hl1, hS⟩ := hT
              refine st tbOk 3 [2, 8, 10, 11] (L' := [(2, .int .i64 n), (8, .slice ao2 z1.1.length cp2), (10, .slice ao6 (s4.1 ++ ([(z2.1.1, z2.1.2.1, z2.1.2.2.1, z2.1.2.2.2.1, z2.1.2.2.2.2.1, z2.1.2.2.2.2.2.1, z2.1.2.2.2.2.2.2)] : List (Int × Int × Int × Int × Int × Int × Int))).length cp6), (11, .int .i64 i_1)]) hf (by subst hl1; kernel_rfl) ?_
              clear hf; clear a; intro a hf
              refine wpList_nil ?_
              exact hK3 ((s4.1 ++ ([(z2.1.1, z2.1.2.1, z2.1.2.2.1, z2.1.2.2.2.1, z2.1.2.2.2.2.1, z2.1.2.2.2.2.2.1, z2.1.2.2.2.2.2.2)] : List (Int × Int × Int × Int × Int × Int × Int))), i_1) _ _ ⟨ao6, cp6, _, hs.sel [0, 1] rfl rfl, hf.keep (ks := [2, 8, 10, 11]) (by kernel_rfl)⟩ hS
          · replace hS := of_f hb4 hS
            refine wp_exit ?_
            exact hK2 s4.1 _ _ ⟨ao4, cp4, _, hs.sel [0] rfl rfl, hf.keep (ks := [10]) (by kernel_rfl)⟩ hS
  · clear hS; intro KK1 k1 hK1 hS
    refine reg ?_
    refine st tbOk 3 [0, 1, 2, 16] (L' := [(0, .slice ao1 b.length cp1), (1, .int .u64 p_from), (2, .int .i64 n), (16, .bool (decide (n < 0)))]) hf (by kernel_rfl) ?_
    clear hf; clear a; intro a hf
    rcases Bool.eq_false_or_eq_true (decide (n < 0)) with hb1 | hb1
    · replace hS := of_t hb1 hS
      replace hf := Fr.cast (L' := [(0, .slice ao1 b.length cp1), (1, .int .u64 p_from), (2, .int .i64 n), (16, .bool true)]) hf (by rw [hb1])
      refine st tbOk 3 [0, 1, 2, 19] (L' := [(0, .slice ao1 b.length cp1), (1, .int .u64 p_from), (2, .int .i64 n), (19, .bool true)]) hf (by kernel_rfl) ?_
      clear hf; clear a; intro a hf
      refine wpList_nil ?_
      exact hK1 true _ _ ⟨_, hs.sel [0] rfl rfl, hf.keep (ks := [0, 1, 2, 19]) (by kernel_rfl)⟩ hS
    · replace hS := of_f hb1 hS
      replace hf := Fr.cast (L' := [(0, .slice ao1 b.length cp1), (1, .int .u64 p_from), (2, .int .i64 n), (16, .bool false)]) hf (by rw [hb1])
      refine st tbOk 3 [0, 1, 2, 19] (L' := [(0, .slice ao1 b.length cp1), (1, .int .u64 p_from), (2, .int .i64 n), (19, .bool (decide (n > 64)))]) hf (by kernel_rfl) ?_
      clear hf; clear a; intro a hf
      refine wpList_nil ?_
      exact hK1 (decide (n > 64)) _ _ ⟨_, hs.sel [0] rfl rfl, hf.keep (ks := [0, 1, 2, 19]) (by kernel_rfl)⟩ hS

end Dm
