/-
  The walks: a call of each Go function gives what its shallow form gives, where that form gives something; printed by a program of this repo. No condition.
-/
import Derived.Test.YtmocofbneblccaaWT
namespace Dm
open Go Go.RowKit Go.Proofs

set_option maxHeartbeats 4000000 in
theorem ref01_width_ok {w : World} {F : SH} {n : Int}  (hs : Sep w F (blks []) w F []) {r : Bool} (hS : ref01_width n = some r) :
    Calls Try.prog 51 [.int .i64 n].toArray w (Gives (fun u w' => ∃ (F' : SH), u = .bool r ∧ Sep w F (blks []) w' F' [])) := by
  generalize (blks []) = R at hs ⊢
  unfold ref01_width at hS
  refine fn_ok (vs := [.int .i64 n]) Try.func51 rfl 17 Try.ntmps51 (Nat.le_of_ble_eq_true rfl) ?_
  intro a hf
  replace hf := Fr.cast (L' := [(0, .int .i64 n)]) hf (by kernel_rfl)
  refine sq ?_
  refine reg ?_
  refine st tbOk 1 [0] (L' := [(0, .int .i64 n)]) hf (by kernel_rfl) ?_
  clear hf; clear a; intro a hf
  refine wpList_nil ?_
  refine sq ?_
  refine ctj (fun (s1 : Bool) (a : Act) (w' : World) => ∃ (F1 : SH), Sep w F R w' F1 [] ∧ Fr 17 [(2, .bool s1)] a) hS ?_ ?_
  · clear hS hf hs; clear a; intro s1 a w1 hM hS
    obtain ⟨F1, hs, hf⟩ := hM
    have hr := Option.some.inj hS; subst hr
    refine wp_ret ?_
    exact ret_ok hf (vs := [.bool s1]) (by kernel_rfl) ⟨_, rfl, hs.sel [] rfl rfl⟩
  · clear hS; intro KK1 k1 hK1 hS
    refine reg ?_
    refine st tbOk 3 [0, 5] (L' := [(0, .int .i64 n), (5, .bool (n == 1))]) hf (by kernel_rfl) ?_
    clear hf; clear a; intro a hf
    rcases Bool.eq_false_or_eq_true (n == 1) with hb1 | hb1
    · replace hS := of_t hb1 hS
      replace hf := Fr.cast (L' := [(0, .int .i64 n), (5, .bool true)]) hf (by rw [hb1])
      refine st tbOk 12 [2] (L' := [(2, .bool true)]) hf (by kernel_rfl) ?_
      clear hf; clear a; intro a hf
      refine wpList_nil ?_
      exact hK1 true _ _ ⟨_, hs.sel [] rfl rfl, hf.keep (ks := [2]) (by kernel_rfl)⟩ hS
    · replace hS := of_f hb1 hS
      replace hf := Fr.cast (L' := [(0, .int .i64 n), (5, .bool false)]) hf (by rw [hb1])
      refine st tbOk 4 [0, 9] (L' := [(0, .int .i64 n), (9, .bool (n == 2))]) hf (by kernel_rfl) ?_
      clear hf; clear a; intro a hf
      rcases Bool.eq_false_or_eq_true (n == 2) with hb2 | hb2
      · replace hS := of_t hb2 hS
        replace hf := Fr.cast (L' := [(0, .int .i64 n), (9, .bool true)]) hf (by rw [hb2])
        refine st tbOk 8 [2] (L' := [(2, .bool true)]) hf (by kernel_rfl) ?_
        clear hf; clear a; intro a hf
        refine wpList_nil ?_
        exact hK1 true _ _ ⟨_, hs.sel [] rfl rfl, hf.keep (ks := [2]) (by kernel_rfl)⟩ hS
      · replace hS := of_f hb2 hS
        replace hf := Fr.cast (L' := [(0, .int .i64 n), (9, .bool false)]) hf (by rw [hb2])
        refine st tbOk 4 [0, 13] (L' := [(0, .int .i64 n), (13, .bool (n == 4))]) hf (by kernel_rfl) ?_
        clear hf; clear a; intro a hf
        rcases Bool.eq_false_or_eq_true (n == 4) with hb3 | hb3
        · replace hS := of_t hb3 hS
          replace hf := Fr.cast (L' := [(0, .int .i64 n), (13, .bool true)]) hf (by rw [hb3])
          refine st tbOk 4 [2] (L' := [(2, .bool true)]) hf (by kernel_rfl) ?_
          clear hf; clear a; intro a hf
          refine wpList_nil ?_
          exact hK1 true _ _ ⟨_, hs.sel [] rfl rfl, hf.keep (ks := [2]) (by kernel_rfl)⟩ hS
        · replace hS := of_f hb3 hS
          replace hf := Fr.cast (L' := [(0, .int .i64 n), (13, .bool false)]) hf (by rw [hb3])
          refine st tbOk 4 [2] (L' := [(2, .bool (n == 8))]) hf (by kernel_rfl) ?_
          clear hf; clear a; intro a hf
          refine wpList_nil ?_
          exact hK1 (n == 8) _ _ ⟨_, hs.sel [] rfl rfl, hf.keep (ks := [2]) (by kernel_rfl)⟩ hS

set_option maxHeartbeats 4000000 in
theorem ref01_Inside_ok {w : World} {F : SH} {p_many : Int} {p_at : Int} {size : Int}  (hs : Sep w F (blks []) w F []) {r : Bool} (hS : ref01_Inside p_many p_at size = some r) :
    Calls Try.prog 52 [.int .i64 p_many, .int .u64 p_at, .int .u64 size].toArray w (Gives (fun u w' => ∃ (F' : SH), u = .bool r ∧ Sep w F (blks []) w' F' [])) := by
  generalize (blks []) = R at hs ⊢
  unfold ref01_Inside at hS
  refine fn_ok (vs := [.int .i64 p_many, .int .u64 p_at, .int .u64 size]) Try.func52 rfl 17 Try.ntmps52 (Nat.le_of_ble_eq_true rfl) ?_
  intro a hf
  replace hf := Fr.cast (L' := [(0, .int .i64 p_many), (1, .int .u64 p_at), (2, .int .u64 size)]) hf (by kernel_rfl)
  refine sq ?_
  refine reg ?_
  refine st tbOk 1 [0, 1, 2] (L' := [(0, .int .i64 p_many), (1, .int .u64 p_at), (2, .int .u64 size)]) hf (by kernel_rfl) ?_
  clear hf; clear a; intro a hf
  refine wpList_nil ?_
  refine sq ?_
  refine sq ?_
  refine reg ?_
  refine st tbOk 4 [0, 1, 2, 10] (L' := [(0, .int .i64 p_many), (1, .int .u64 p_at), (2, .int .u64 size), (10, .bool (decide (p_at > (IntKind.u64.wrap p_many))))]) hf (by kernel_rfl) ?_
  clear hf; clear a; intro a hf
  refine wpList_nil ?_
  refine cnd (b := decide (p_at > (IntKind.u64.wrap p_many))) hf (by kernel_rfl) (fun hb1 => ?_) (fun hb1 => ?_)
  · replace hS := of_t hb1 hS
    refine sq ?_
    refine reg ?_
    refine st tbOk 1 [6] (L' := [(6, .bool false)]) hf (by kernel_rfl) ?_
    clear hf; clear a; intro a hf
    refine wpList_nil ?_
    have hr := Option.some.inj hS; subst hr
    refine wp_ret ?_
    exact ret_ok hf (vs := [.bool false]) (by kernel_rfl) ⟨_, rfl, hs.sel [] rfl rfl⟩
  · replace hS := of_f hb1 hS
    refine wp_skip ?_
    refine sq ?_
    refine reg ?_
    refine st tbOk 7 [6] (L' := [(6, .bool (decide (size ≤ (IntKind.u64.wrap ((IntKind.u64.wrap p_many) - p_at)))))]) hf (by kernel_rfl) ?_
    clear hf; clear a; intro a hf
    refine wpList_nil ?_
    have hr := Option.some.inj hS; subst hr
    refine wp_ret ?_
    exact ret_ok hf (vs := [.bool (decide (size ≤ (IntKind.u64.wrap ((IntKind.u64.wrap p_many) - p_at))))]) (by kernel_rfl) ⟨_, rfl, hs.sel [] rfl rfl⟩

set_option maxHeartbeats 4000000 in
theorem ref01_Get_ok {w : World} {F : SH} {b : List Int} {p_at : Int} {n : Int} {ao1 : Option Addr} {cp1 : Nat} (hs : Sep w F (blks [.ro (tI .u8) (.slice ao1 b.length cp1) b]) w F [.ro (tI .u8) (.slice ao1 b.length cp1) b]) {r : Int × Int} (hS : ref01_Get b p_at n = some r) :
    Calls Try.prog 45 [.slice ao1 b.length cp1, .int .u64 p_at, .int .i64 n].toArray w (Gives (fun u w' => ∃ (F' : SH), u = .tuple #[.int .u64 r.1, .int .i64 r.2] ∧ Sep w F (blks [.ro (tI .u8) (.slice ao1 b.length cp1) b]) w' F' [])) := by
  generalize (blks [.ro (tI .u8) (.slice ao1 b.length cp1) b]) = R at hs ⊢
  unfold ref01_Get at hS
  refine fn_ok (vs := [.slice ao1 b.length cp1, .int .u64 p_at, .int .i64 n]) Try.func45 rfl 41 Try.ntmps45 (Nat.le_of_ble_eq_true rfl) ?_
  intro a hf
  replace hf := Fr.cast (L' := [(0, .slice ao1 b.length cp1), (1, .int .u64 p_at), (2, .int .i64 n)]) hf (by kernel_rfl)
  refine sq ?_
  refine reg ?_
  refine st tbOk 2 [0, 1, 2] (L' := [(0, .slice ao1 b.length cp1), (1, .int .u64 p_at), (2, .int .i64 n)]) hf (by kernel_rfl) ?_
  clear hf; clear a; intro a hf
  refine wpList_nil ?_
  refine sq ?_
  refine reg ?_
  refine st tbOk 1 [0, 1, 2, 11] (L' := [(0, .slice ao1 b.length cp1), (1, .int .u64 p_at), (2, .int .i64 n), (11, .int .i64 n)]) hf (by kernel_rfl) ?_
  clear hf; clear a; intro a hf
  have hT := of_bd hS; clear hS; obtain ⟨z1, hz1, hS⟩ := hT
  refine clV ent51 (vs := [.int .i64 n]) (caps := []) hf (by kernel_rfl) (by kernel_rfl) (by kernel_rfl) (by kernel_rfl) (ref01_width_ok (n := n) (hs.enter [] rfl rfl) hz1) ?_
  clear hf; clear a; intro v w1 a hT hf; obtain ⟨F1, rfl, hr⟩ := hT
  replace hs : Sep w F R w1 F1 [.ro (tI .u8) (.slice ao1 b.length cp1) b] := hs.back [] [0] rfl rfl rfl rfl hr
  clear hr
  replace hf := Fr.keep (ks := [0, 1, 2, 12]) (L' := [(0, .slice ao1 b.length cp1), (1, .int .u64 p_at), (2, .int .i64 n), (12, .bool z1)]) hf (by kernel_rfl)
  refine st tbOk 1 [0, 1, 2, 8] (L' := [(0, .slice ao1 b.length cp1), (1, .int .u64 p_at), (2, .int .i64 n), (8, .bool z1)]) hf (by kernel_rfl) ?_
  clear hf; clear a; intro a hf
  refine wpList_nil ?_
  refine sq ?_
  refine sq ?_
  refine reg ?_
  refine st tbOk 2 [0, 1, 2, 14] (L' := [(0, .slice ao1 b.length cp1), (1, .int .u64 p_at), (2, .int .i64 n), (14, .bool (!z1))]) hf (by kernel_rfl) ?_
  clear hf; clear a; intro a hf
  refine wpList_nil ?_
  refine cnd (b := !z1) hf (by kernel_rfl) (fun hb1 => ?_) (fun hb1 => ?_)
  · replace hS := of_t hb1 hS
    refine sq ?_
    refine reg ?_
    refine st tbOk 2 [6, 7] (L' := [(6, .int .u64 0), (7, .int .i64 1)]) hf (by kernel_rfl) ?_
    clear hf; clear a; intro a hf
    refine wpList_nil ?_
    have hr := Option.some.inj hS; subst hr
    refine wp_ret ?_
    exact ret_ok hf (vs := [.int .u64 0, .int .i64 1]) (by kernel_rfl) ⟨_, rfl, hs.sel [] rfl rfl⟩
  · replace hS := of_f hb1 hS
    refine wp_skip ?_
    refine sq ?_
    refine reg ?_
    refine st tbOk 5 [0, 1, 2, 16, 17, 19] (L' := [(0, .slice ao1 b.length cp1), (1, .int .u64 p_at), (2, .int .i64 n), (16, .int .i64 ((b.length : Nat) : Int)), (17, .int .u64 p_at), (19, .int .u64 (IntKind.u64.wrap n))]) hf (by kernel_rfl) ?_
    clear hf; clear a; intro a hf
    have hT := of_bd hS; clear hS; obtain ⟨z2, hz2, hS⟩ := hT
    refine clV ent52 (vs := [.int .i64 ((b.length : Nat) : Int), .int .u64 p_at, .int .u64 (IntKind.u64.wrap n)]) (caps := []) hf (by kernel_rfl) (by kernel_rfl) (by kernel_rfl) (by kernel_rfl) (ref01_Inside_ok (p_many := ((b.length : Nat) : Int)) (p_at := p_at) (size := IntKind.u64.wrap n) (hs.enter [] rfl rfl) hz2) ?_
    clear hf; clear a; intro v w2 a hT hf; obtain ⟨F2, rfl, hr⟩ := hT
    replace hs : Sep w F R w2 F2 [.ro (tI .u8) (.slice ao1 b.length cp1) b] := hs.back [] [0] rfl rfl rfl rfl hr
    clear hr
    replace hf := Fr.keep (ks := [0, 1, 2, 20]) (L' := [(0, .slice ao1 b.length cp1), (1, .int .u64 p_at), (2, .int .i64 n), (20, .bool z2)]) hf (by kernel_rfl)
    refine st tbOk 1 [0, 1, 2, 8] (L' := [(0, .slice ao1 b.length cp1), (1, .int .u64 p_at), (2, .int .i64 n), (8, .bool z2)]) hf (by kernel_rfl) ?_
    clear hf; clear a; intro a hf
    refine wpList_nil ?_
    refine sq ?_
    refine sq ?_
    refine reg ?_
    refine st tbOk 2 [0, 1, 2, 22] (L' := [(0, .slice ao1 b.length cp1), (1, .int .u64 p_at), (2, .int .i64 n), (22, .bool (!z2))]) hf (by kernel_rfl) ?_
    clear hf; clear a; intro a hf
    refine wpList_nil ?_
    refine cnd (b := !z2) hf (by kernel_rfl) (fun hb2 => ?_) (fun hb2 => ?_)
    · replace hS := of_t hb2 hS
      refine sq ?_
      refine reg ?_
      refine st tbOk 2 [6, 7] (L' := [(6, .int .u64 0), (7, .int .i64 10)]) hf (by kernel_rfl) ?_
      clear hf; clear a; intro a hf
      refine wpList_nil ?_
      have hr := Option.some.inj hS; subst hr
      refine wp_ret ?_
      exact ret_ok hf (vs := [.int .u64 0, .int .i64 10]) (by kernel_rfl) ⟨_, rfl, hs.sel [] rfl rfl⟩
    · replace hS := of_f hb2 hS
      refine wp_skip ?_
      refine sq ?_
      refine reg ?_
      refine st tbOk 1 [0, 1, 2, 9] (L' := [(0, .slice ao1 b.length cp1), (1, .int .u64 p_at), (2, .int .i64 n), (9, .int .u64 0)]) hf (by kernel_rfl) ?_
      clear hf; clear a; intro a hf
      refine wpList_nil ?_
      refine sq ?_
      refine sq ?_
      refine reg ?_
      have hT := of_let hS; clear hS; obtain ⟨i_1, hl1, hS⟩ := hT
      refine st tbOk 3 [0, 1, 9, 10] (L' := [(0, .slice ao1 b.length cp1), (1, .int .u64 p_at), (9, .int .u64 0), (10, .int .i64 i_1)]) hf (by subst hl1; kernel_rfl) ?_
      clear hf; clear a; intro a hf
      refine wpList_nil ?_
      refine ctj (fun (s1 : Int) (a : Act) (w' : World) => ∃ (F3 : SH), Sep w F R w' F3 [] ∧ Fr 41 [(9, .int .u64 s1)] a) hS ?_ ?_
      · clear hS hf hs; clear a; intro s1 a w4 hM hS
        obtain ⟨F3, hs, hf⟩ := hM
        refine sq ?_
        refine reg ?_
        refine st tbOk 3 [6, 7] (L' := [(6, .int .u64 s1), (7, .int .i64 0)]) hf (by kernel_rfl) ?_
        clear hf; clear a; intro a hf
        refine wpList_nil ?_
        have hr := Option.some.inj hS; subst hr
        refine wp_ret ?_
        exact ret_ok hf (vs := [.int .u64 s1, .int .i64 0]) (by kernel_rfl) ⟨_, rfl, hs.sel [] rfl rfl⟩
      · clear hS; intro KK1 k1 hK1 hS
        refine blk ?_
        refine lp (st := (0, i_1)) (fun (s2 : Int × Int) (a : Act) (w' : World) => ∃ (F4 : SH), Sep w F R w' F4 [.ro (tI .u8) (.slice ao1 b.length cp1) b] ∧ Fr 41 [(0, .slice ao1 b.length cp1), (1, .int .u64 p_at), (9, .int .u64 s2.1), (10, .int .i64 s2.2)] a) ?_ ⟨_, hs.sel [0] rfl rfl, hf.keep (ks := [0, 1, 9, 10]) (by kernel_rfl)⟩ hS
        clear hS hf hs; clear a
        intro rec1 KK2 hK2 s2 a w3 hM hS
        obtain ⟨F4, hs, hf⟩ := hM
        refine sq ?_
        refine sq ?_
        refine reg ?_
        refine st tbOk 2 [0, 1, 9, 10, 26] (L' := [(0, .slice ao1 b.length cp1), (1, .int .u64 p_at), (9, .int .u64 s2.1), (10, .int .i64 s2.2), (26, .bool (decide (s2.2 ≥ 0)))]) hf (by kernel_rfl) ?_
        clear hf; clear a; intro a hf
        refine wpList_nil ?_
        refine cnd (b := decide (s2.2 ≥ 0)) hf (by kernel_rfl) (fun hb3 => ?_) (fun hb3 => ?_)
        · replace hS := of_t hb3 hS
          refine wp_skip ?_
          refine sq ?_
          refine blk ?_
          refine reg ?_
          refine st tbOk 7 [0, 1, 10, 30, 31, 35] (L' := [(0, .slice ao1 b.length cp1), (1, .int .u64 p_at), (10, .int .i64 s2.2), (30, .int .u64 (IntKind.u64.wrap (s2.1 * 256))), (31, .slice ao1 b.length cp1), (35, .int .i64 (IntKind.i64.wrap ((IntKind.i64.wrap p_at) + s2.2)))]) hf (by kernel_rfl) ?_
          clear hf; clear a; intro a hf
          have hT := of_gd hS; clear hS; obtain ⟨hc1, hS⟩ := hT
          refine ixR tbOk u22 i5 rfl rfl ((hs.ro 0 rfl).ra (LeH.refl _)) (k := .i64) (n := IntKind.i64.wrap ((IntKind.i64.wrap p_at) + s2.2)) hc1 hf (by kernel_rfl) (by kernel_rfl) (by kernel_rfl) (by kernel_rfl) ?_
          clear hf; clear a; intro pb1 po1 c1 a hp1 hr1 hf
          obtain rfl : c1 = [.int .u8 (gt b (IntKind.i64.wrap ((IntKind.i64.wrap p_at) + s2.2)))] := hr1
          replace hs : Sep w F R w3 F4 [.cel pb1 po1 [.int .u8 (gt b (IntKind.i64.wrap ((IntKind.i64.wrap p_at) + s2.2)))], .ro (tI .u8) (.slice ao1 b.length cp1) b] := hs.addCel hp1
          replace hf := Fr.keep (ks := [0, 1, 10, 30, 36]) (L' := [(0, .slice ao1 b.length cp1), (1, .int .u64 p_at), (10, .int .i64 s2.2), (30, .int .u64 (IntKind.u64.wrap (s2.1 * 256))), (36, .pointer (some ⟨pb1, po1, none⟩))]) hf (by kernel_rfl)
          refine ldC tbOk (T := 5) (hs.ccel 0 rfl) (LeH.refl _) 0 (.int .u8 (gt b (IntKind.i64.wrap ((IntKind.i64.wrap p_at) + s2.2)))) hf (by kernel_rfl) (by kernel_rfl) (by kernel_rfl) (by kernel_rfl) ?_
          clear hf; clear a; intro a hf
          replace hs : Sep w F R w3 F4 [.ro (tI .u8) (.slice ao1 b.length cp1) b] := hs.sel [1] rfl rfl
          replace hf := Fr.keep (ks := [0, 1, 10, 30, 37]) (L' := [(0, .slice ao1 b.length cp1), (1, .int .u64 p_at), (10, .int .i64 s2.2), (30, .int .u64 (IntKind.u64.wrap (s2.1 * 256))), (37, .int .u8 (gt b (IntKind.i64.wrap ((IntKind.i64.wrap p_at) + s2.2))))]) hf (by kernel_rfl)
          have hT := of_let hS; clear hS; obtain ⟨x_1, hl2, hS⟩ := hT
          refine st tbOk 3 [0, 1, 9, 10] (L' := [(0, .slice ao1 b.length cp1), (1, .int .u64 p_at), (9, .int .u64 x_1), (10, .int .i64 s2.2)]) hf (by subst hl2; kernel_rfl) ?_
          clear hf; clear a; intro a hf
          refine wpList_nil ?_
          refine reg ?_
          have hT := of_let hS; clear hS; obtain ⟨i_2, hl3, hS⟩ := hT
          refine st tbOk 3 [0, 1, 9, 10] (L' := [(0, .slice ao1 b.length cp1), (1, .int .u64 p_at), (9, .int .u64 x_1), (10, .int .i64 i_2)]) hf (by subst hl3; kernel_rfl) ?_
          clear hf; clear a; intro a hf
          refine wpList_nil ?_
          exact hK2 (x_1, i_2) _ _ ⟨_, hs.sel [0] rfl rfl, hf.keep (ks := [0, 1, 9, 10]) (by kernel_rfl)⟩ hS
        · replace hS := of_f hb3 hS
          refine wp_exit ?_
          exact hK1 s2.1 _ _ ⟨_, hs.sel [] rfl rfl, hf.keep (ks := [9]) (by kernel_rfl)⟩ hS

set_option maxHeartbeats 4000000 in
theorem ref06_Table_ok {w : World} {F : SH} {b : List Int} {ao1 : Option Addr} {cp1 : Nat} (hs : Sep w F (blks [.ro (tI .u8) (.slice ao1 b.length cp1) b]) w F [.ro (tI .u8) (.slice ao1 b.length cp1) b]) {r : (List (Int × Int × Int × Int × Int × Int)) × Int} (hS : ref06_Table b = some r) :
    Calls Try.prog 32 [.slice ao1 b.length cp1].toArray w (Gives (fun u w' => ∃ (ao6 : Option Addr) (cp6 : Nat) (F' : SH), u = .tuple #[.slice ao6 r.1.length cp6, .int .i64 r.2] ∧ Sep w F (blks [.ro (tI .u8) (.slice ao1 b.length cp1) b]) w' F' [.row 65 ty64 (.slice ao6 r.1.length cp6) r.1])) := by
  generalize (blks [.ro (tI .u8) (.slice ao1 b.length cp1) b]) = R at hs ⊢
  unfold ref06_Table at hS
  refine fn_ok (vs := [.slice ao1 b.length cp1]) Try.func32 rfl 76 Try.ntmps32 (Nat.le_of_ble_eq_true rfl) ?_
  intro a hf
  replace hf := Fr.cast (L' := [(0, .slice ao1 b.length cp1)]) hf (by kernel_rfl)
  refine sq ?_
  refine reg ?_
  refine st tbOk 2 [0] (L' := [(0, .slice ao1 b.length cp1)]) hf (by kernel_rfl) ?_
  clear hf; clear a; intro a hf
  refine wpList_nil ?_
  refine sq ?_
  refine sq ?_
  refine reg ?_
  refine st tbOk 4 [0, 17] (L' := [(0, .slice ao1 b.length cp1), (17, .bool ((Int.tmod ((b.length : Nat) : Int) 24) != 0))]) hf (by kernel_rfl) ?_
  clear hf; clear a; intro a hf
  refine wpList_nil ?_
  refine cnd (b := (Int.tmod ((b.length : Nat) : Int) 24) != 0) hf (by kernel_rfl) (fun hb1 => ?_) (fun hb1 => ?_)
  · replace hS := of_t hb1 hS
    refine sq ?_
    refine reg ?_
    refine st tbOk 2 [2, 3] (L' := [(2, .slice none 0 0), (3, .int .i64 10)]) hf (by kernel_rfl) ?_
    clear hf; clear a; intro a hf
    refine wpList_nil ?_
    have hr := Option.some.inj hS; subst hr
    refine wp_ret ?_
    replace hs : Sep w F R w F [.row 65 ty64 (.slice none 0 0) ([] : List (Int × Int × Int × Int × Int × Int)), .ro (tI .u8) (.slice ao1 b.length cp1) b] := hs.addNil 65 ty64
    exact ret_ok hf (vs := [.slice none 0 0, .int .i64 10]) (by kernel_rfl) ⟨none, 0, _, rfl, hs.sel [0] rfl rfl⟩
  · replace hS := of_f hb1 hS
    refine wp_skip ?_
    refine sq ?_
    refine reg ?_
    refine st tbOk 1 [0, 4] (L' := [(0, .slice ao1 b.length cp1), (4, .slice none 0 0)]) hf (by kernel_rfl) ?_
    clear hf; clear a; intro a hf
    refine wpList_nil ?_
    refine sq ?_
    refine sq ?_
    refine reg ?_
    refine st tbOk 1 [0, 4, 5] (L' := [(0, .slice ao1 b.length cp1), (4, .slice none 0 0), (5, .int .i64 0)]) hf (by kernel_rfl) ?_
    clear hf; clear a; intro a hf
    refine wpList_nil ?_
    refine ctj (fun (s1 : List (Int × Int × Int × Int × Int × Int)) (a : Act) (w' : World) => ∃ (ao2 : Option Addr) (cp2 : Nat) (F1 : SH), Sep w F R w' F1 [.row 65 ty64 (.slice ao2 s1.length cp2) s1] ∧ Fr 76 [(4, .slice ao2 s1.length cp2)] a) hS ?_ ?_
    · clear hS hf hs; clear a; intro s1 a w9 hM hS
      obtain ⟨ao2, cp2, F1, hs, hf⟩ := hM
      refine sq ?_
      refine reg ?_
      refine st tbOk 3 [2, 3] (L' := [(2, .slice ao2 s1.length cp2), (3, .int .i64 0)]) hf (by kernel_rfl) ?_
      clear hf; clear a; intro a hf
      refine wpList_nil ?_
      have hr := Option.some.inj hS; subst hr
      refine wp_ret ?_
      exact ret_ok hf (vs := [.slice ao2 s1.length cp2, .int .i64 0]) (by kernel_rfl) ⟨ao2, cp2, _, rfl, hs.sel [0] rfl rfl⟩
    · clear hS; intro KK1 k1 hK1 hS
      refine blk ?_
      replace hs : Sep w F R w F [.row 65 ty64 (.slice none 0 0) ([] : List (Int × Int × Int × Int × Int × Int)), .ro (tI .u8) (.slice ao1 b.length cp1) b] := hs.addNil 65 ty64
      refine lp (st := ([], 0)) (fun (s2 : (List (Int × Int × Int × Int × Int × Int)) × Int) (a : Act) (w' : World) => ∃ (ao3 : Option Addr) (cp3 : Nat) (F2 : SH), Sep w F R w' F2 [.row 65 ty64 (.slice ao3 s2.1.length cp3) s2.1, .ro (tI .u8) (.slice ao1 b.length cp1) b] ∧ Fr 76 [(0, .slice ao1 b.length cp1), (4, .slice ao3 s2.1.length cp3), (5, .int .i64 s2.2)] a) ?_ ⟨none, 0, _, hs.sel [0, 1] rfl rfl, hf.keep (ks := [0, 4, 5]) (by kernel_rfl)⟩ hS
      clear hS hf hs; clear a
      intro rec1 KK2 hK2 s2 a w1 hM hS
      obtain ⟨ao3, cp3, F2, hs, hf⟩ := hM
      refine sq ?_
      refine sq ?_
      refine reg ?_
      refine st tbOk 4 [0, 4, 5, 21] (L' := [(0, .slice ao1 b.length cp1), (4, .slice ao3 s2.1.length cp3), (5, .int .i64 s2.2), (21, .bool (decide (s2.2 < ((b.length : Nat) : Int))))]) hf (by kernel_rfl) ?_
      clear hf; clear a; intro a hf
      refine wpList_nil ?_
      refine cnd (b := decide (s2.2 < ((b.length : Nat) : Int))) hf (by kernel_rfl) (fun hb2 => ?_) (fun hb2 => ?_)
      · replace hS := of_t hb2 hS
        refine wp_skip ?_
        refine sq ?_
        refine blk ?_
        refine sq ?_
        refine reg ?_
        refine st tbOk 3 [0, 4, 5, 25, 27] (L' := [(0, .slice ao1 b.length cp1), (4, .slice ao3 s2.1.length cp3), (5, .int .i64 s2.2), (25, .slice ao1 b.length cp1), (27, .int .u64 (IntKind.u64.wrap s2.2))]) hf (by kernel_rfl) ?_
        clear hf; clear a; intro a hf
        have hT := of_bd hS; clear hS; obtain ⟨z1, hz1, hS⟩ := hT
        refine clV ent45 (vs := [.slice ao1 b.length cp1, .int .u64 (IntKind.u64.wrap s2.2), .int .i64 4]) (caps := []) hf (by kernel_rfl) (by kernel_rfl) (by kernel_rfl) (by kernel_rfl) (ref01_Get_ok (b := b) (p_at := IntKind.u64.wrap s2.2) (n := 4) (hs.enter [1] rfl rfl) hz1) ?_
        clear hf; clear a; intro v w2 a hT hf; obtain ⟨F3, rfl, hr⟩ := hT
        replace hs : Sep w F R w2 F3 [.row 65 ty64 (.slice ao3 s2.1.length cp3) s2.1, .ro (tI .u8) (.slice ao1 b.length cp1) b] := hs.back [1] [0, 1] rfl rfl rfl rfl hr
        clear hr
        replace hf := Fr.keep (ks := [0, 4, 5, 28]) (L' := [(0, .slice ao1 b.length cp1), (4, .slice ao3 s2.1.length cp3), (5, .int .i64 s2.2), (28, .tuple #[.int .u64 z1.1, .int .i64 z1.2])]) hf (by kernel_rfl)
        refine st tbOk 5 [0, 4, 5, 6] (L' := [(0, .slice ao1 b.length cp1), (4, .slice ao3 s2.1.length cp3), (5, .int .i64 s2.2), (6, .int .u64 z1.1)]) hf (by kernel_rfl) ?_
        clear hf; clear a; intro a hf
        refine wpList_nil ?_
        refine sq ?_
        refine reg ?_
        refine st tbOk 4 [0, 4, 5, 6, 32, 35] (L' := [(0, .slice ao1 b.length cp1), (4, .slice ao3 s2.1.length cp3), (5, .int .i64 s2.2), (6, .int .u64 z1.1), (32, .slice ao1 b.length cp1), (35, .int .u64 (IntKind.u64.wrap (IntKind.i64.wrap (s2.2 + 6))))]) hf (by kernel_rfl) ?_
        clear hf; clear a; intro a hf
        have hT := of_bd hS; clear hS; obtain ⟨z2, hz2, hS⟩ := hT
        refine clV ent45 (vs := [.slice ao1 b.length cp1, .int .u64 (IntKind.u64.wrap (IntKind.i64.wrap (s2.2 + 6))), .int .i64 2]) (caps := []) hf (by kernel_rfl) (by kernel_rfl) (by kernel_rfl) (by kernel_rfl) (ref01_Get_ok (b := b) (p_at := IntKind.u64.wrap (IntKind.i64.wrap (s2.2 + 6))) (n := 2) (hs.enter [1] rfl rfl) hz2) ?_
        clear hf; clear a; intro v w3 a hT hf; obtain ⟨F4, rfl, hr⟩ := hT
        replace hs : Sep w F R w3 F4 [.row 65 ty64 (.slice ao3 s2.1.length cp3) s2.1, .ro (tI .u8) (.slice ao1 b.length cp1) b] := hs.back [1] [0, 1] rfl rfl rfl rfl hr
        clear hr
        replace hf := Fr.keep (ks := [0, 4, 5, 6, 36]) (L' := [(0, .slice ao1 b.length cp1), (4, .slice ao3 s2.1.length cp3), (5, .int .i64 s2.2), (6, .int .u64 z1.1), (36, .tuple #[.int .u64 z2.1, .int .i64 z2.2])]) hf (by kernel_rfl)
        refine st tbOk 5 [0, 4, 5, 6, 8] (L' := [(0, .slice ao1 b.length cp1), (4, .slice ao3 s2.1.length cp3), (5, .int .i64 s2.2), (6, .int .u64 z1.1), (8, .int .u64 z2.1)]) hf (by kernel_rfl) ?_
        clear hf; clear a; intro a hf
        refine wpList_nil ?_
        refine sq ?_
        refine reg ?_
        refine st tbOk 4 [0, 4, 5, 6, 8, 40, 43] (L' := [(0, .slice ao1 b.length cp1), (4, .slice ao3 s2.1.length cp3), (5, .int .i64 s2.2), (6, .int .u64 z1.1), (8, .int .u64 z2.1), (40, .slice ao1 b.length cp1), (43, .int .u64 (IntKind.u64.wrap (IntKind.i64.wrap (s2.2 + 8))))]) hf (by kernel_rfl) ?_
        clear hf; clear a; intro a hf
        have hT := of_bd hS; clear hS; obtain ⟨z3, hz3, hS⟩ := hT
        refine clV ent45 (vs := [.slice ao1 b.length cp1, .int .u64 (IntKind.u64.wrap (IntKind.i64.wrap (s2.2 + 8))), .int .i64 8]) (caps := []) hf (by kernel_rfl) (by kernel_rfl) (by kernel_rfl) (by kernel_rfl) (ref01_Get_ok (b := b) (p_at := IntKind.u64.wrap (IntKind.i64.wrap (s2.2 + 8))) (n := 8) (hs.enter [1] rfl rfl) hz3) ?_
        clear hf; clear a; intro v w4 a hT hf; obtain ⟨F5, rfl, hr⟩ := hT
        replace hs : Sep w F R w4 F5 [.row 65 ty64 (.slice ao3 s2.1.length cp3) s2.1, .ro (tI .u8) (.slice ao1 b.length cp1) b] := hs.back [1] [0, 1] rfl rfl rfl rfl hr
        clear hr
        replace hf := Fr.keep (ks := [0, 4, 5, 6, 8, 44]) (L' := [(0, .slice ao1 b.length cp1), (4, .slice ao3 s2.1.length cp3), (5, .int .i64 s2.2), (6, .int .u64 z1.1), (8, .int .u64 z2.1), (44, .tuple #[.int .u64 z3.1, .int .i64 z3.2])]) hf (by kernel_rfl)
        refine st tbOk 5 [0, 4, 5, 6, 8, 10] (L' := [(0, .slice ao1 b.length cp1), (4, .slice ao3 s2.1.length cp3), (5, .int .i64 s2.2), (6, .int .u64 z1.1), (8, .int .u64 z2.1), (10, .int .u64 z3.1)]) hf (by kernel_rfl) ?_
        clear hf; clear a; intro a hf
        refine wpList_nil ?_
        refine sq ?_
        refine reg ?_
        refine st tbOk 4 [0, 4, 5, 6, 8, 10, 48, 51] (L' := [(0, .slice ao1 b.length cp1), (4, .slice ao3 s2.1.length cp3), (5, .int .i64 s2.2), (6, .int .u64 z1.1), (8, .int .u64 z2.1), (10, .int .u64 z3.1), (48, .slice ao1 b.length cp1), (51, .int .u64 (IntKind.u64.wrap (IntKind.i64.wrap (s2.2 + 16))))]) hf (by kernel_rfl) ?_
        clear hf; clear a; intro a hf
        have hT := of_bd hS; clear hS; obtain ⟨z4, hz4, hS⟩ := hT
        refine clV ent45 (vs := [.slice ao1 b.length cp1, .int .u64 (IntKind.u64.wrap (IntKind.i64.wrap (s2.2 + 16))), .int .i64 8]) (caps := []) hf (by kernel_rfl) (by kernel_rfl) (by kernel_rfl) (by kernel_rfl) (ref01_Get_ok (b := b) (p_at := IntKind.u64.wrap (IntKind.i64.wrap (s2.2 + 16))) (n := 8) (hs.enter [1] rfl rfl) hz4) ?_
        clear hf; clear a; intro v w5 a hT hf; obtain ⟨F6, rfl, hr⟩ := hT
        replace hs : Sep w F R w5 F6 [.row 65 ty64 (.slice ao3 s2.1.length cp3) s2.1, .ro (tI .u8) (.slice ao1 b.length cp1) b] := hs.back [1] [0, 1] rfl rfl rfl rfl hr
        clear hr
        replace hf := Fr.keep (ks := [0, 4, 5, 6, 8, 10, 52]) (L' := [(0, .slice ao1 b.length cp1), (4, .slice ao3 s2.1.length cp3), (5, .int .i64 s2.2), (6, .int .u64 z1.1), (8, .int .u64 z2.1), (10, .int .u64 z3.1), (52, .tuple #[.int .u64 z4.1, .int .i64 z4.2])]) hf (by kernel_rfl)
        refine st tbOk 5 [0, 4, 5, 6, 8, 10, 12] (L' := [(0, .slice ao1 b.length cp1), (4, .slice ao3 s2.1.length cp3), (5, .int .i64 s2.2), (6, .int .u64 z1.1), (8, .int .u64 z2.1), (10, .int .u64 z3.1), (12, .int .u64 z4.1)]) hf (by kernel_rfl) ?_
        clear hf; clear a; intro a hf
        refine wpList_nil ?_
        have hT := of_gd hS; clear hS; obtain ⟨hc1, hS⟩ := hT
        have hT := of_gd hS; clear hS; obtain ⟨hc2, hS⟩ := hT
        have hs0 := hs
        refine regF 19 [fun u uw => u = .slice ao3 s2.1.length cp3,
    fun u uw => u = .int .u64 z1.1,
    fun u uw => u = .int .u32 (IntKind.u32.wrap z1.1),
    fun u uw => u = .slice ao1 b.length cp1,
    fun u uw => u = .int .i64 s2.2,
    fun u uw => u = .int .i64 (IntKind.i64.wrap (s2.2 + 4)),
    fun u uw => ∃ (pb2 : Nat) (po2 : Nat) (F' : SH), u = .pointer (some ⟨pb2, po2, none⟩) ∧ Sep w5 F6 noR uw F' [.cel pb2 po2 [.int .u8 (gt b (IntKind.i64.wrap (s2.2 + 4)))]],
    fun u uw => u = .int .u8 (gt b (IntKind.i64.wrap (s2.2 + 4))),
    fun u uw => u = .slice ao1 b.length cp1,
    fun u uw => u = .int .i64 s2.2,
    fun u uw => u = .int .i64 (IntKind.i64.wrap (s2.2 + 5)),
    fun u uw => ∃ (pb4 : Nat) (po4 : Nat) (F' : SH), u = .pointer (some ⟨pb4, po4, none⟩) ∧ Sep w5 F6 noR uw F' [.cel pb4 po4 [.int .u8 (gt b (IntKind.i64.wrap (s2.2 + 5)))]],
    fun u uw => u = .int .u8 (gt b (IntKind.i64.wrap (s2.2 + 5))),
    fun u uw => u = .int .u64 z2.1,
    fun u uw => u = .int .u16 (IntKind.u16.wrap z2.1),
    fun u uw => u = .int .u64 z3.1,
    fun u uw => u = .int .u64 z4.1,
    fun u uw => u = .agg #[.int .u32 (IntKind.u32.wrap z1.1), .int .u8 (gt b (IntKind.i64.wrap (s2.2 + 4))), .int .u8 (gt b (IntKind.i64.wrap (s2.2 + 5))), .int .u16 (IntKind.u16.wrap z2.1), .int .u64 z3.1, .int .u64 z4.1],
    fun u uw => ∃ (ao4 : Option Addr) (cp4 : Nat) (F' : SH), u = .slice ao4 ([(IntKind.u32.wrap z1.1, gt b (IntKind.i64.wrap (s2.2 + 4)), gt b (IntKind.i64.wrap (s2.2 + 5)), IntKind.u16.wrap z2.1, z3.1, z4.1)] : List (Int × Int × Int × Int × Int × Int)).length cp4 ∧ Sep w5 F6 noR uw F' [.row 65 ty64 (.slice ao4 ([(IntKind.u32.wrap z1.1, gt b (IntKind.i64.wrap (s2.2 + 4)), gt b (IntKind.i64.wrap (s2.2 + 5)), IntKind.u16.wrap z2.1, z3.1, z4.1)] : List (Int × Int × Int × Int × Int × Int)).length cp4) ([(IntKind.u32.wrap z1.1, gt b (IntKind.i64.wrap (s2.2 + 4)), gt b (IntKind.i64.wrap (s2.2 + 5)), IntKind.u16.wrap z2.1, z3.1, z4.1)] : List (Int × Int × Int × Int × Int × Int))]] mixed (Fr.keep (ks := [0, 4, 5, 6, 8, 10, 12]) (L' := [(0, .slice ao1 b.length cp1), (4, .slice ao3 s2.1.length cp3), (5, .int .i64 s2.2), (6, .int .u64 z1.1), (8, .int .u64 z2.1), (10, .int .u64 z3.1), (12, .int .u64 z4.1)]) hf (by kernel_rfl)) (by kernel_rfl) rfl ?_ ?_ ?_
        · exact ⟨fun _ _ _ h _ => h, fun _ _ _ h _ => h, fun _ _ _ h _ => h, fun _ _ _ h _ => h, fun _ _ _ h _ => h, fun _ _ _ h _ => h, fun _ _ _ ⟨pb2, po2, F', e, h⟩ hx => ⟨pb2, po2, F', e, h.ext hx⟩, fun _ _ _ h _ => h, fun _ _ _ h _ => h, fun _ _ _ h _ => h, fun _ _ _ h _ => h, fun _ _ _ ⟨pb4, po4, F', e, h⟩ hx => ⟨pb4, po4, F', e, h.ext hx⟩, fun _ _ _ h _ => h, fun _ _ _ h _ => h, fun _ _ _ h _ => h, fun _ _ _ h _ => h, fun _ _ _ h _ => h, fun _ _ _ h _ => h, fun _ _ _ ⟨ao4, cp4, F', e, h⟩ hx => ⟨ao4, cp4, F', e, h.ext hx⟩, trivial⟩
        · clear hS hf hs; clear a
          refine ⟨?_, ?_, ?_, ?_, ?_, ?_, ?_, ?_, ?_, ?_, ?_, ?_, ?_, ?_, ?_, ?_, ?_, ?_, ?_, trivial⟩
          · intro a wf hX hf hd
            clear hd
            have hs : Sep wf (star F6 w5 wf) noR wf (star F6 w5 wf) [.ro (tI .u8) (.slice ao1 b.length cp1) b] := hs0.fstart hX [1] rfl rfl
            refine st tbOk 1 [55] (L' := [(55, .slice ao3 s2.1.length cp3)]) hf (by kernel_rfl) ?_
            clear hf; clear a; intro a hf
            exact fq_ok (d := 55) rfl hf (hs.ex fun _ h => h) hf.1
          · intro a wf hX hf hd
            clear hd
            have hs : Sep wf (star F6 w5 wf) noR wf (star F6 w5 wf) [.ro (tI .u8) (.slice ao1 b.length cp1) b] := hs0.fstart hX [1] rfl rfl
            refine st tbOk 1 [56] (L' := [(56, .int .u64 z1.1)]) hf (by kernel_rfl) ?_
            clear hf; clear a; intro a hf
            exact fq_ok (d := 56) rfl hf (hs.ex fun _ h => h) hf.1
          · intro a wf hX hf hd
            have e_56 : a.tmps.getD 56 undef = .int .u64 z1.1 := hd 1 56 (by kernel_rfl) (by kernel_rfl)
            replace hf : Fr 76 [(56, .int .u64 z1.1), (0, .slice ao1 b.length cp1), (4, .slice ao3 s2.1.length cp3), (5, .int .i64 s2.2), (6, .int .u64 z1.1), (8, .int .u64 z2.1), (10, .int .u64 z3.1), (12, .int .u64 z4.1)] a := ⟨e_56, hf⟩; clear e_56
            clear hd
            have hs : Sep wf (star F6 w5 wf) noR wf (star F6 w5 wf) [.ro (tI .u8) (.slice ao1 b.length cp1) b] := hs0.fstart hX [1] rfl rfl
            refine st tbOk 1 [57] (L' := [(57, .int .u32 (IntKind.u32.wrap z1.1))]) hf (by kernel_rfl) ?_
            clear hf; clear a; intro a hf
            exact fq_ok (d := 57) rfl hf (hs.ex fun _ h => h) hf.1
          · intro a wf hX hf hd
            clear hd
            have hs : Sep wf (star F6 w5 wf) noR wf (star F6 w5 wf) [.ro (tI .u8) (.slice ao1 b.length cp1) b] := hs0.fstart hX [1] rfl rfl
            refine st tbOk 1 [58] (L' := [(58, .slice ao1 b.length cp1)]) hf (by kernel_rfl) ?_
            clear hf; clear a; intro a hf
            exact fq_ok (d := 58) rfl hf (hs.ex fun _ h => h) hf.1
          · intro a wf hX hf hd
            clear hd
            have hs : Sep wf (star F6 w5 wf) noR wf (star F6 w5 wf) [.ro (tI .u8) (.slice ao1 b.length cp1) b] := hs0.fstart hX [1] rfl rfl
            refine st tbOk 1 [59] (L' := [(59, .int .i64 s2.2)]) hf (by kernel_rfl) ?_
            clear hf; clear a; intro a hf
            exact fq_ok (d := 59) rfl hf (hs.ex fun _ h => h) hf.1
          · intro a wf hX hf hd
            have e_59 : a.tmps.getD 59 undef = .int .i64 s2.2 := hd 4 59 (by kernel_rfl) (by kernel_rfl)
            replace hf : Fr 76 [(59, .int .i64 s2.2), (0, .slice ao1 b.length cp1), (4, .slice ao3 s2.1.length cp3), (5, .int .i64 s2.2), (6, .int .u64 z1.1), (8, .int .u64 z2.1), (10, .int .u64 z3.1), (12, .int .u64 z4.1)] a := ⟨e_59, hf⟩; clear e_59
            clear hd
            have hs : Sep wf (star F6 w5 wf) noR wf (star F6 w5 wf) [.ro (tI .u8) (.slice ao1 b.length cp1) b] := hs0.fstart hX [1] rfl rfl
            refine st tbOk 1 [60] (L' := [(60, .int .i64 (IntKind.i64.wrap (s2.2 + 4)))]) hf (by kernel_rfl) ?_
            clear hf; clear a; intro a hf
            exact fq_ok (d := 60) rfl hf (hs.ex fun _ h => h) hf.1
          · intro a wf hX hf hd
            have e_58 : a.tmps.getD 58 undef = .slice ao1 b.length cp1 := hd 3 58 (by kernel_rfl) (by kernel_rfl)
            have e_60 : a.tmps.getD 60 undef = .int .i64 (IntKind.i64.wrap (s2.2 + 4)) := hd 5 60 (by kernel_rfl) (by kernel_rfl)
            replace hf : Fr 76 [(58, .slice ao1 b.length cp1), (60, .int .i64 (IntKind.i64.wrap (s2.2 + 4))), (0, .slice ao1 b.length cp1), (4, .slice ao3 s2.1.length cp3), (5, .int .i64 s2.2), (6, .int .u64 z1.1), (8, .int .u64 z2.1), (10, .int .u64 z3.1), (12, .int .u64 z4.1)] a := ⟨e_58, e_60, hf⟩; clear e_58 e_60
            clear hd
            have hs : Sep wf (star F6 w5 wf) noR wf (star F6 w5 wf) [.ro (tI .u8) (.slice ao1 b.length cp1) b] := hs0.fstart hX [1] rfl rfl
            refine ixR tbOk u22 i5 rfl rfl ((hs.ro 0 rfl).ra (LeH.refl _)) (k := .i64) (n := IntKind.i64.wrap (s2.2 + 4)) hc1 hf (by kernel_rfl) (by kernel_rfl) (by kernel_rfl) (by kernel_rfl) ?_
            clear hf; clear a; intro pb1 po1 c1 a hp1 hr1 hf
            obtain rfl : c1 = [.int .u8 (gt b (IntKind.i64.wrap (s2.2 + 4)))] := hr1
            replace hs : Sep wf (star F6 w5 wf) noR wf (star F6 w5 wf) [.cel pb1 po1 [.int .u8 (gt b (IntKind.i64.wrap (s2.2 + 4)))], .ro (tI .u8) (.slice ao1 b.length cp1) b] := hs.addCel hp1
            exact fq_ok (d := 61) rfl hf (hs.ex fun _ h => h) ⟨pb1, po1, _, hf.1, (hs.sel [0] rfl rfl).rebase hX⟩
          · intro a wf hX hf hd
            obtain ⟨pb2, po2, F_61, e_61, h_61⟩ : ∃ (pb2 : Nat) (po2 : Nat) (F' : SH), a.tmps.getD 61 undef = .pointer (some ⟨pb2, po2, none⟩) ∧ Sep w5 F6 noR wf F' [.cel pb2 po2 [.int .u8 (gt b (IntKind.i64.wrap (s2.2 + 4)))]] := hd 6 61 (by kernel_rfl) (by kernel_rfl)
            replace hf : Fr 76 [(61, .pointer (some ⟨pb2, po2, none⟩)), (0, .slice ao1 b.length cp1), (4, .slice ao3 s2.1.length cp3), (5, .int .i64 s2.2), (6, .int .u64 z1.1), (8, .int .u64 z2.1), (10, .int .u64 z3.1), (12, .int .u64 z4.1)] a := ⟨e_61, hf⟩; clear e_61
            clear hd
            have hs : Sep wf (star F6 w5 wf) noR wf (star F6 w5 wf) [.ro (tI .u8) (.slice ao1 b.length cp1) b] := hs0.fstart hX [1] rfl rfl
            replace hs : Sep wf (star F6 w5 wf) noR wf (star F6 w5 wf) [.cel pb2 po2 [.int .u8 (gt b (IntKind.i64.wrap (s2.2 + 4)))], .ro (tI .u8) (.slice ao1 b.length cp1) b] := hs.addStar h_61 0 rfl rfl
            clear h_61
            refine ldC tbOk (T := 5) (hs.ccel 0 rfl) (LeH.refl _) 0 (.int .u8 (gt b (IntKind.i64.wrap (s2.2 + 4)))) hf (by kernel_rfl) (by kernel_rfl) (by kernel_rfl) (by kernel_rfl) ?_
            clear hf; clear a; intro a hf
            exact fq_ok (d := 62) rfl hf (hs.ex fun _ h => h) hf.1
          · intro a wf hX hf hd
            clear hd
            have hs : Sep wf (star F6 w5 wf) noR wf (star F6 w5 wf) [.ro (tI .u8) (.slice ao1 b.length cp1) b] := hs0.fstart hX [1] rfl rfl
            refine st tbOk 1 [63] (L' := [(63, .slice ao1 b.length cp1)]) hf (by kernel_rfl) ?_
            clear hf; clear a; intro a hf
            exact fq_ok (d := 63) rfl hf (hs.ex fun _ h => h) hf.1
          · intro a wf hX hf hd
            clear hd
            have hs : Sep wf (star F6 w5 wf) noR wf (star F6 w5 wf) [.ro (tI .u8) (.slice ao1 b.length cp1) b] := hs0.fstart hX [1] rfl rfl
            refine st tbOk 1 [64] (L' := [(64, .int .i64 s2.2)]) hf (by kernel_rfl) ?_
            clear hf; clear a; intro a hf
            exact fq_ok (d := 64) rfl hf (hs.ex fun _ h => h) hf.1
          · intro a wf hX hf hd
            have e_64 : a.tmps.getD 64 undef = .int .i64 s2.2 := hd 9 64 (by kernel_rfl) (by kernel_rfl)
            replace hf : Fr 76 [(64, .int .i64 s2.2), (0, .slice ao1 b.length cp1), (4, .slice ao3 s2.1.length cp3), (5, .int .i64 s2.2), (6, .int .u64 z1.1), (8, .int .u64 z2.1), (10, .int .u64 z3.1), (12, .int .u64 z4.1)] a := ⟨e_64, hf⟩; clear e_64
            clear hd
            have hs : Sep wf (star F6 w5 wf) noR wf (star F6 w5 wf) [.ro (tI .u8) (.slice ao1 b.length cp1) b] := hs0.fstart hX [1] rfl rfl
            refine st tbOk 1 [65] (L' := [(65, .int .i64 (IntKind.i64.wrap (s2.2 + 5)))]) hf (by kernel_rfl) ?_
            clear hf; clear a; intro a hf
            exact fq_ok (d := 65) rfl hf (hs.ex fun _ h => h) hf.1
          · intro a wf hX hf hd
            have e_63 : a.tmps.getD 63 undef = .slice ao1 b.length cp1 := hd 8 63 (by kernel_rfl) (by kernel_rfl)
            have e_65 : a.tmps.getD 65 undef = .int .i64 (IntKind.i64.wrap (s2.2 + 5)) := hd 10 65 (by kernel_rfl) (by kernel_rfl)
            replace hf : Fr 76 [(63, .slice ao1 b.length cp1), (65, .int .i64 (IntKind.i64.wrap (s2.2 + 5))), (0, .slice ao1 b.length cp1), (4, .slice ao3 s2.1.length cp3), (5, .int .i64 s2.2), (6, .int .u64 z1.1), (8, .int .u64 z2.1), (10, .int .u64 z3.1), (12, .int .u64 z4.1)] a := ⟨e_63, e_65, hf⟩; clear e_63 e_65
            clear hd
            have hs : Sep wf (star F6 w5 wf) noR wf (star F6 w5 wf) [.ro (tI .u8) (.slice ao1 b.length cp1) b] := hs0.fstart hX [1] rfl rfl
            refine ixR tbOk u22 i5 rfl rfl ((hs.ro 0 rfl).ra (LeH.refl _)) (k := .i64) (n := IntKind.i64.wrap (s2.2 + 5)) hc2 hf (by kernel_rfl) (by kernel_rfl) (by kernel_rfl) (by kernel_rfl) ?_
            clear hf; clear a; intro pb3 po3 c2 a hp2 hr2 hf
            obtain rfl : c2 = [.int .u8 (gt b (IntKind.i64.wrap (s2.2 + 5)))] := hr2
            replace hs : Sep wf (star F6 w5 wf) noR wf (star F6 w5 wf) [.cel pb3 po3 [.int .u8 (gt b (IntKind.i64.wrap (s2.2 + 5)))], .ro (tI .u8) (.slice ao1 b.length cp1) b] := hs.addCel hp2
            exact fq_ok (d := 66) rfl hf (hs.ex fun _ h => h) ⟨pb3, po3, _, hf.1, (hs.sel [0] rfl rfl).rebase hX⟩
          · intro a wf hX hf hd
            obtain ⟨pb4, po4, F_66, e_66, h_66⟩ : ∃ (pb4 : Nat) (po4 : Nat) (F' : SH), a.tmps.getD 66 undef = .pointer (some ⟨pb4, po4, none⟩) ∧ Sep w5 F6 noR wf F' [.cel pb4 po4 [.int .u8 (gt b (IntKind.i64.wrap (s2.2 + 5)))]] := hd 11 66 (by kernel_rfl) (by kernel_rfl)
            replace hf : Fr 76 [(66, .pointer (some ⟨pb4, po4, none⟩)), (0, .slice ao1 b.length cp1), (4, .slice ao3 s2.1.length cp3), (5, .int .i64 s2.2), (6, .int .u64 z1.1), (8, .int .u64 z2.1), (10, .int .u64 z3.1), (12, .int .u64 z4.1)] a := ⟨e_66, hf⟩; clear e_66
            clear hd
            have hs : Sep wf (star F6 w5 wf) noR wf (star F6 w5 wf) [.ro (tI .u8) (.slice ao1 b.length cp1) b] := hs0.fstart hX [1] rfl rfl
            replace hs : Sep wf (star F6 w5 wf) noR wf (star F6 w5 wf) [.cel pb4 po4 [.int .u8 (gt b (IntKind.i64.wrap (s2.2 + 5)))], .ro (tI .u8) (.slice ao1 b.length cp1) b] := hs.addStar h_66 0 rfl rfl
            clear h_66
            refine ldC tbOk (T := 5) (hs.ccel 0 rfl) (LeH.refl _) 0 (.int .u8 (gt b (IntKind.i64.wrap (s2.2 + 5)))) hf (by kernel_rfl) (by kernel_rfl) (by kernel_rfl) (by kernel_rfl) ?_
            clear hf; clear a; intro a hf
            exact fq_ok (d := 67) rfl hf (hs.ex fun _ h => h) hf.1
          · intro a wf hX hf hd
            clear hd
            have hs : Sep wf (star F6 w5 wf) noR wf (star F6 w5 wf) [.ro (tI .u8) (.slice ao1 b.length cp1) b] := hs0.fstart hX [1] rfl rfl
            refine st tbOk 1 [68] (L' := [(68, .int .u64 z2.1)]) hf (by kernel_rfl) ?_
            clear hf; clear a; intro a hf
            exact fq_ok (d := 68) rfl hf (hs.ex fun _ h => h) hf.1
          · intro a wf hX hf hd
            have e_68 : a.tmps.getD 68 undef = .int .u64 z2.1 := hd 13 68 (by kernel_rfl) (by kernel_rfl)
            replace hf : Fr 76 [(68, .int .u64 z2.1), (0, .slice ao1 b.length cp1), (4, .slice ao3 s2.1.length cp3), (5, .int .i64 s2.2), (6, .int .u64 z1.1), (8, .int .u64 z2.1), (10, .int .u64 z3.1), (12, .int .u64 z4.1)] a := ⟨e_68, hf⟩; clear e_68
            clear hd
            have hs : Sep wf (star F6 w5 wf) noR wf (star F6 w5 wf) [.ro (tI .u8) (.slice ao1 b.length cp1) b] := hs0.fstart hX [1] rfl rfl
            refine st tbOk 1 [69] (L' := [(69, .int .u16 (IntKind.u16.wrap z2.1))]) hf (by kernel_rfl) ?_
            clear hf; clear a; intro a hf
            exact fq_ok (d := 69) rfl hf (hs.ex fun _ h => h) hf.1
          · intro a wf hX hf hd
            clear hd
            have hs : Sep wf (star F6 w5 wf) noR wf (star F6 w5 wf) [.ro (tI .u8) (.slice ao1 b.length cp1) b] := hs0.fstart hX [1] rfl rfl
            refine st tbOk 1 [70] (L' := [(70, .int .u64 z3.1)]) hf (by kernel_rfl) ?_
            clear hf; clear a; intro a hf
            exact fq_ok (d := 70) rfl hf (hs.ex fun _ h => h) hf.1
          · intro a wf hX hf hd
            clear hd
            have hs : Sep wf (star F6 w5 wf) noR wf (star F6 w5 wf) [.ro (tI .u8) (.slice ao1 b.length cp1) b] := hs0.fstart hX [1] rfl rfl
            refine st tbOk 1 [71] (L' := [(71, .int .u64 z4.1)]) hf (by kernel_rfl) ?_
            clear hf; clear a; intro a hf
            exact fq_ok (d := 71) rfl hf (hs.ex fun _ h => h) hf.1
          · intro a wf hX hf hd
            have e_57 : a.tmps.getD 57 undef = .int .u32 (IntKind.u32.wrap z1.1) := hd 2 57 (by kernel_rfl) (by kernel_rfl)
            have e_62 : a.tmps.getD 62 undef = .int .u8 (gt b (IntKind.i64.wrap (s2.2 + 4))) := hd 7 62 (by kernel_rfl) (by kernel_rfl)
            have e_67 : a.tmps.getD 67 undef = .int .u8 (gt b (IntKind.i64.wrap (s2.2 + 5))) := hd 12 67 (by kernel_rfl) (by kernel_rfl)
            have e_69 : a.tmps.getD 69 undef = .int .u16 (IntKind.u16.wrap z2.1) := hd 14 69 (by kernel_rfl) (by kernel_rfl)
            have e_70 : a.tmps.getD 70 undef = .int .u64 z3.1 := hd 15 70 (by kernel_rfl) (by kernel_rfl)
            have e_71 : a.tmps.getD 71 undef = .int .u64 z4.1 := hd 16 71 (by kernel_rfl) (by kernel_rfl)
            replace hf : Fr 76 [(57, .int .u32 (IntKind.u32.wrap z1.1)), (62, .int .u8 (gt b (IntKind.i64.wrap (s2.2 + 4)))), (67, .int .u8 (gt b (IntKind.i64.wrap (s2.2 + 5)))), (69, .int .u16 (IntKind.u16.wrap z2.1)), (70, .int .u64 z3.1), (71, .int .u64 z4.1), (0, .slice ao1 b.length cp1), (4, .slice ao3 s2.1.length cp3), (5, .int .i64 s2.2), (6, .int .u64 z1.1), (8, .int .u64 z2.1), (10, .int .u64 z3.1), (12, .int .u64 z4.1)] a := ⟨e_57, e_62, e_67, e_69, e_70, e_71, hf⟩; clear e_57 e_62 e_67 e_69 e_70 e_71
            clear hd
            have hs : Sep wf (star F6 w5 wf) noR wf (star F6 w5 wf) [.ro (tI .u8) (.slice ao1 b.length cp1) b] := hs0.fstart hX [1] rfl rfl
            refine st tbOk 1 [72] (L' := [(72, .agg #[.int .u32 (IntKind.u32.wrap z1.1), .int .u8 (gt b (IntKind.i64.wrap (s2.2 + 4))), .int .u8 (gt b (IntKind.i64.wrap (s2.2 + 5))), .int .u16 (IntKind.u16.wrap z2.1), .int .u64 z3.1, .int .u64 z4.1])]) hf (by kernel_rfl) ?_
            clear hf; clear a; intro a hf
            exact fq_ok (d := 72) rfl hf (hs.ex fun _ h => h) hf.1
          · intro a wf hX hf hd
            have e_72 : a.tmps.getD 72 undef = .agg #[.int .u32 (IntKind.u32.wrap z1.1), .int .u8 (gt b (IntKind.i64.wrap (s2.2 + 4))), .int .u8 (gt b (IntKind.i64.wrap (s2.2 + 5))), .int .u16 (IntKind.u16.wrap z2.1), .int .u64 z3.1, .int .u64 z4.1] := hd 17 72 (by kernel_rfl) (by kernel_rfl)
            replace hf : Fr 76 [(72, .agg #[.int .u32 (IntKind.u32.wrap z1.1), .int .u8 (gt b (IntKind.i64.wrap (s2.2 + 4))), .int .u8 (gt b (IntKind.i64.wrap (s2.2 + 5))), .int .u16 (IntKind.u16.wrap z2.1), .int .u64 z3.1, .int .u64 z4.1]), (0, .slice ao1 b.length cp1), (4, .slice ao3 s2.1.length cp3), (5, .int .i64 s2.2), (6, .int .u64 z1.1), (8, .int .u64 z2.1), (10, .int .u64 z3.1), (12, .int .u64 z4.1)] a := ⟨e_72, hf⟩; clear e_72
            clear hd
            have hs : Sep wf (star F6 w5 wf) noR wf (star F6 w5 wf) [.ro (tI .u8) (.slice ao1 b.length cp1) b] := hs0.fstart hX [1] rfl rfl
            refine bsR tbOk u69 i65 rfl (t := ty64) (vs := [(0, .agg #[.int .u32 (IntKind.u32.wrap z1.1), .int .u8 (gt b (IntKind.i64.wrap (s2.2 + 4))), .int .u8 (gt b (IntKind.i64.wrap (s2.2 + 5))), .int .u16 (IntKind.u16.wrap z2.1), .int .u64 z3.1, .int .u64 z4.1])]) (cells := #[.int .u32 (IntKind.u32.wrap z1.1), .int .u8 (gt b (IntKind.i64.wrap (s2.2 + 4))), .int .u8 (gt b (IntKind.i64.wrap (s2.2 + 5))), .int .u16 (IntKind.u16.wrap z2.1), .int .u64 z3.1, .int .u64 z4.1]) ([(IntKind.u32.wrap z1.1, gt b (IntKind.i64.wrap (s2.2 + 4)), gt b (IntKind.i64.wrap (s2.2 + 5)), IntKind.u16.wrap z2.1, z3.1, z4.1)] : List (Int × Int × Int × Int × Int × Int)) hs.le hf (by kernel_rfl) (by kernel_rfl) (by kernel_rfl) rfl (by kernel_rfl) (reps_flat _) rfl ?_
            clear hf; clear a; intro w6 a ho hx hf
            replace hs : Sep wf (star F6 w5 wf) noR w6 (star F6 w5 wf) [.row 65 ty64 (.slice (some ⟨wf.heap.size, 0, none⟩) ([(IntKind.u32.wrap z1.1, gt b (IntKind.i64.wrap (s2.2 + 4)), gt b (IntKind.i64.wrap (s2.2 + 5)), IntKind.u16.wrap z2.1, z3.1, z4.1)] : List (Int × Int × Int × Int × Int × Int)).length ([(IntKind.u32.wrap z1.1, gt b (IntKind.i64.wrap (s2.2 + 4)), gt b (IntKind.i64.wrap (s2.2 + 5)), IntKind.u16.wrap z2.1, z3.1, z4.1)] : List (Int × Int × Int × Int × Int × Int)).length) ([(IntKind.u32.wrap z1.1, gt b (IntKind.i64.wrap (s2.2 + 4)), gt b (IntKind.i64.wrap (s2.2 + 5)), IntKind.u16.wrap z2.1, z3.1, z4.1)] : List (Int × Int × Int × Int × Int × Int)), .ro (tI .u8) (.slice ao1 b.length cp1) b] := hs.newRow ho hx
            clear ho hx
            exact fq_ok (d := 73) rfl hf (hs.ex fun _ h => h) ⟨(some ⟨wf.heap.size, 0, none⟩), ([(IntKind.u32.wrap z1.1, gt b (IntKind.i64.wrap (s2.2 + 4)), gt b (IntKind.i64.wrap (s2.2 + 5)), IntKind.u16.wrap z2.1, z3.1, z4.1)] : List (Int × Int × Int × Int × Int × Int)).length, _, hf.1, (hs.sel [0] rfl rfl).rebase hX⟩
        · clear hf hs; clear a; intro a w7 hx hf hd
          have e_55 : a.tmps.getD 55 undef = .slice ao3 s2.1.length cp3 := hd 0 55 (by kernel_rfl) (by kernel_rfl)
          obtain ⟨ao4, cp4, F_73, e_73, h_73⟩ : ∃ (ao4 : Option Addr) (cp4 : Nat) (F' : SH), a.tmps.getD 73 undef = .slice ao4 ([(IntKind.u32.wrap z1.1, gt b (IntKind.i64.wrap (s2.2 + 4)), gt b (IntKind.i64.wrap (s2.2 + 5)), IntKind.u16.wrap z2.1, z3.1, z4.1)] : List (Int × Int × Int × Int × Int × Int)).length cp4 ∧ Sep w5 F6 noR w7 F' [.row 65 ty64 (.slice ao4 ([(IntKind.u32.wrap z1.1, gt b (IntKind.i64.wrap (s2.2 + 4)), gt b (IntKind.i64.wrap (s2.2 + 5)), IntKind.u16.wrap z2.1, z3.1, z4.1)] : List (Int × Int × Int × Int × Int × Int)).length cp4) ([(IntKind.u32.wrap z1.1, gt b (IntKind.i64.wrap (s2.2 + 4)), gt b (IntKind.i64.wrap (s2.2 + 5)), IntKind.u16.wrap z2.1, z3.1, z4.1)] : List (Int × Int × Int × Int × Int × Int))] := hd 18 73 (by kernel_rfl) (by kernel_rfl)
          have hs : Sep w F R w7 F6 [.row 65 ty64 (.slice ao4 ([(IntKind.u32.wrap z1.1, gt b (IntKind.i64.wrap (s2.2 + 4)), gt b (IntKind.i64.wrap (s2.2 + 5)), IntKind.u16.wrap z2.1, z3.1, z4.1)] : List (Int × Int × Int × Int × Int × Int)).length cp4) ([(IntKind.u32.wrap z1.1, gt b (IntKind.i64.wrap (s2.2 + 4)), gt b (IntKind.i64.wrap (s2.2 + 5)), IntKind.u16.wrap z2.1, z3.1, z4.1)] : List (Int × Int × Int × Int × Int × Int)), .row 65 ty64 (.slice ao3 s2.1.length cp3) s2.1, .ro (tI .u8) (.slice ao1 b.length cp1) b] := hs0.addFlat hx h_73 ⟨flat64, trivial⟩
          clear h_73
          clear hd hx
          clear hs0
          replace hf : Fr 76 [(55, .slice ao3 s2.1.length cp3), (73, .slice ao4 ([(IntKind.u32.wrap z1.1, gt b (IntKind.i64.wrap (s2.2 + 4)), gt b (IntKind.i64.wrap (s2.2 + 5)), IntKind.u16.wrap z2.1, z3.1, z4.1)] : List (Int × Int × Int × Int × Int × Int)).length cp4), (0, .slice ao1 b.length cp1), (4, .slice ao3 s2.1.length cp3), (5, .int .i64 s2.2), (6, .int .u64 z1.1), (8, .int .u64 z2.1), (10, .int .u64 z3.1), (12, .int .u64 z4.1)] a := ⟨e_55, e_73, hf⟩
          clear e_55 e_73
          replace hf := Fr.keep (ks := [0, 5, 55, 73]) (L' := [(0, .slice ao1 b.length cp1), (5, .int .i64 s2.2), (55, .slice ao3 s2.1.length cp3), (73, .slice ao4 ([(IntKind.u32.wrap z1.1, gt b (IntKind.i64.wrap (s2.2 + 4)), gt b (IntKind.i64.wrap (s2.2 + 5)), IntKind.u16.wrap z2.1, z3.1, z4.1)] : List (Int × Int × Int × Int × Int × Int)).length cp4)]) hf (by kernel_rfl)
          have hT := of_gd hS; clear hS; obtain ⟨hc3, hS⟩ := hT
          refine apR tbOk u69 i65 rfl rfl rfl rfl hs.le (hs.own 1 rfl) (hs.raW 0 rfl) hc3 hf (by kernel_rfl) (by kernel_rfl) (by kernel_rfl) (by kernel_rfl) ?_
          clear hf; clear a; intro ao5 cp5 w8 a ho hg hl hf
          replace hs : Sep w F R w8 F6 [.row 65 ty64 (.slice ao4 ([(IntKind.u32.wrap z1.1, gt b (IntKind.i64.wrap (s2.2 + 4)), gt b (IntKind.i64.wrap (s2.2 + 5)), IntKind.u16.wrap z2.1, z3.1, z4.1)] : List (Int × Int × Int × Int × Int × Int)).length cp4) ([(IntKind.u32.wrap z1.1, gt b (IntKind.i64.wrap (s2.2 + 4)), gt b (IntKind.i64.wrap (s2.2 + 5)), IntKind.u16.wrap z2.1, z3.1, z4.1)] : List (Int × Int × Int × Int × Int × Int)), .row 65 ty64 (.slice ao5 (s2.1 ++ ([(IntKind.u32.wrap z1.1, gt b (IntKind.i64.wrap (s2.2 + 4)), gt b (IntKind.i64.wrap (s2.2 + 5)), IntKind.u16.wrap z2.1, z3.1, z4.1)] : List (Int × Int × Int × Int × Int × Int))).length cp5) (s2.1 ++ ([(IntKind.u32.wrap z1.1, gt b (IntKind.i64.wrap (s2.2 + 4)), gt b (IntKind.i64.wrap (s2.2 + 5)), IntKind.u16.wrap z2.1, z3.1, z4.1)] : List (Int × Int × Int × Int × Int × Int))), .ro (tI .u8) (.slice ao1 b.length cp1) b] := hs.updRow 1 rfl ho hg hl
          clear ho hg hl
          replace hs : Sep w F R w8 F6 [.row 65 ty64 (.slice ao5 (s2.1 ++ ([(IntKind.u32.wrap z1.1, gt b (IntKind.i64.wrap (s2.2 + 4)), gt b (IntKind.i64.wrap (s2.2 + 5)), IntKind.u16.wrap z2.1, z3.1, z4.1)] : List (Int × Int × Int × Int × Int × Int))).length cp5) (s2.1 ++ ([(IntKind.u32.wrap z1.1, gt b (IntKind.i64.wrap (s2.2 + 4)), gt b (IntKind.i64.wrap (s2.2 + 5)), IntKind.u16.wrap z2.1, z3.1, z4.1)] : List (Int × Int × Int × Int × Int × Int))), .ro (tI .u8) (.slice ao1 b.length cp1) b] := hs.sel [1, 2] rfl rfl
          replace hf := Fr.keep (ks := [0, 5, 74]) (L' := [(0, .slice ao1 b.length cp1), (5, .int .i64 s2.2), (74, .slice ao5 (s2.1 ++ ([(IntKind.u32.wrap z1.1, gt b (IntKind.i64.wrap (s2.2 + 4)), gt b (IntKind.i64.wrap (s2.2 + 5)), IntKind.u16.wrap z2.1, z3.1, z4.1)] : List (Int × Int × Int × Int × Int × Int))).length cp5)]) hf (by kernel_rfl)
          refine st tbOk 1 [0, 4, 5] (L' := [(0, .slice ao1 b.length cp1), (4, .slice ao5 (s2.1 ++ ([(IntKind.u32.wrap z1.1, gt b (IntKind.i64.wrap (s2.2 + 4)), gt b (IntKind.i64.wrap (s2.2 + 5)), IntKind.u16.wrap z2.1, z3.1, z4.1)] : List (Int × Int × Int × Int × Int × Int))).length cp5), (5, .int .i64 s2.2)]) hf (by kernel_rfl) ?_
          clear hf; clear a; intro a hf
          refine wpList_nil ?_
          refine reg ?_
          have hT := of_let hS; clear hS; obtain ⟨i_1, hl1, hS⟩ := hT
          refine st tbOk 3 [0, 4, 5] (L' := [(0, .slice ao1 b.length cp1), (4, .slice ao5 (s2.1 ++ ([(IntKind.u32.wrap z1.1, gt b (IntKind.i64.wrap (s2.2 + 4)), gt b (IntKind.i64.wrap (s2.2 + 5)), IntKind.u16.wrap z2.1, z3.1, z4.1)] : List (Int × Int × Int × Int × Int × Int))).length cp5), (5, .int .i64 i_1)]) hf (by subst hl1; kernel_rfl) ?_
          clear hf; clear a; intro a hf
          refine wpList_nil ?_
          exact hK2 ((s2.1 ++ ([(IntKind.u32.wrap z1.1, gt b (IntKind.i64.wrap (s2.2 + 4)), gt b (IntKind.i64.wrap (s2.2 + 5)), IntKind.u16.wrap z2.1, z3.1, z4.1)] : List (Int × Int × Int × Int × Int × Int))), i_1) _ _ ⟨ao5, cp5, _, hs.sel [0, 1] rfl rfl, hf.keep (ks := [0, 4, 5]) (by kernel_rfl)⟩ hS
      · replace hS := of_f hb2 hS
        refine wp_exit ?_
        exact hK1 s2.1 _ _ ⟨ao3, cp3, _, hs.sel [0] rfl rfl, hf.keep (ks := [4]) (by kernel_rfl)⟩ hS

end Dm
