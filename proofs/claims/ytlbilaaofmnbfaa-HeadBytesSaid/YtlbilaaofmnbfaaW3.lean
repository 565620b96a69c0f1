/-
  The walks: a call of each Go function gives what its shallow form gives, where that form gives something; printed by a program of this repo. No condition.
-/
import Derived.Test.YtlbilaaofmnbfaaWT
namespace Dm
open Go Go.RowKit Go.Proofs

set_option maxHeartbeats 4000000 in
theorem ref01_width_ok {w : World} {F : SH} {n : Int}  (hs : Sep w F (blks []) w F []) {r : Bool} (hS : ref01_width n = some r) :
    Calls Try.prog 38 [.int .i64 n].toArray w (Gives (fun u w' => ∃ (F' : SH), u = .bool r ∧ Sep w F (blks []) w' F' [])) := by
  generalize (blks []) = R at hs ⊢
  unfold ref01_width at hS
  refine fn_ok (vs := [.int .i64 n]) Try.func38 rfl 17 Try.ntmps38 (Nat.le_of_ble_eq_true rfl) ?_
  intro a hf
  replace hf := Fr.cast (L' := [(0, .int .i64 n)]) hf (by kernel_rfl)
  refine sq ?_
  refine reg ?_
  refine st tbOk 1 [0] (L' := [(0, .int .i64 n)]) hf (by kernel_rfl) ?_
  clear hf; clear a; intro a hf
  refine wpList_nil ?_
  refine sq ?_
  refine ctj (fun (s1 : Bool) (a : Act) (w' : World) => ∃ (F1 : SH), Sep w F R w' F1 [] ∧ Fr 17 [(2, .bool s1)] a) hS ?_ ?_
  · clear hS hf hs; clear a; intro s1 a w1 hM hS
    obtain ⟨F1, hs, hf⟩ := hM
    have hr := Option.some.inj hS; subst hr
    refine wp_ret ?_
    exact ret_ok hf (vs := [.bool s1]) (by kernel_rfl) ⟨_, rfl, hs.sel [] rfl rfl⟩
  · clear hS; intro KK1 k1 hK1 hS
    refine reg ?_
    refine st tbOk 3 [0, 5] (L' := [(0, .int .i64 n), (5, .bool (n == 1))]) hf (by kernel_rfl) ?_
    clear hf; clear a; intro a hf
    rcases Bool.eq_false_or_eq_true (n == 1) with hb1 | hb1
    · replace hS := of_t hb1 hS
      replace hf := Fr.cast (L' := [(0, .int .i64 n), (5, .bool true)]) hf (by rw [hb1])
      refine st tbOk 12 [2] (L' := [(2, .bool true)]) hf (by kernel_rfl) ?_
      clear hf; clear a; intro a hf
      refine wpList_nil ?_
      exact hK1 true _ _ ⟨_, hs.sel [] rfl rfl, hf.keep (ks := [2]) (by kernel_rfl)⟩ hS
    · replace hS := of_f hb1 hS
      replace hf := Fr.cast (L' := [(0, .int .i64 n), (5, .bool false)]) hf (by rw [hb1])
      refine st tbOk 4 [0, 9] (L' := [(0, .int .i64 n), (9, .bool (n == 2))]) hf (by kernel_rfl) ?_
      clear hf; clear a; intro a hf
      rcases Bool.eq_false_or_eq_true (n == 2) with hb2 | hb2
      · replace hS := of_t hb2 hS
        replace hf := Fr.cast (L' := [(0, .int .i64 n), (9, .bool true)]) hf (by rw [hb2])
        refine st tbOk 8 [2] (L' := [(2, .bool true)]) hf (by kernel_rfl) ?_
        clear hf; clear a; intro a hf
        refine wpList_nil ?_
        exact hK1 true _ _ ⟨_, hs.sel [] rfl rfl, hf.keep (ks := [2]) (by kernel_rfl)⟩ hS
      · replace hS := of_f hb2 hS
        replace hf := Fr.cast (L' := [(0, .int .i64 n), (9, .bool false)]) hf (by rw [hb2])
        refine st tbOk 4 [0, 13] (L' := [(0, .int .i64 n), (13, .bool (n == 4))]) hf (by kernel_rfl) ?_
        clear hf; clear a; intro a hf
        rcases Bool.eq_false_or_eq_true (n == 4) with hb3 | hb3
        · replace hS := of_t hb3 hS
          replace hf := Fr.cast (L' := [(0, .int .i64 n), (13, .bool true)]) hf (by rw [hb3])
          refine st tbOk 4 [2] (L' := [(2, .bool true)]) hf (by kernel_rfl) ?_
          clear hf; clear a; intro a hf
          refine wpList_nil ?_
          exact hK1 true _ _ ⟨_, hs.sel [] rfl rfl, hf.keep (ks := [2]) (by kernel_rfl)⟩ hS
        · replace hS := of_f hb3 hS
          replace hf := Fr.cast (L' := [(0, .int .i64 n), (13, .bool false)]) hf (by rw [hb3])
          refine st tbOk 4 [2] (L' := [(2, .bool (n == 8))]) hf (by kernel_rfl) ?_
          clear hf; clear a; intro a hf
          refine wpList_nil ?_
          exact hK1 (n == 8) _ _ ⟨_, hs.sel [] rfl rfl, hf.keep (ks := [2]) (by kernel_rfl)⟩ hS

set_option maxHeartbeats 4000000 in
theorem ref01_Inside_ok {w : World} {F : SH} {p_many : Int} {p_at : Int} {size : Int}  (hs : Sep w F (blks []) w F []) {r : Bool} (hS : ref01_Inside p_many p_at size = some r) :
    Calls Try.prog 39 [.int .i64 p_many, .int .u64 p_at, .int .u64 size].toArray w (Gives (fun u w' => ∃ (F' : SH), u = .bool r ∧ Sep w F (blks []) w' F' [])) := by
  generalize (blks []) = R at hs ⊢
  unfold ref01_Inside at hS
  refine fn_ok (vs := [.int .i64 p_many, .int .u64 p_at, .int .u64 size]) Try.func39 rfl 17 Try.ntmps39 (Nat.le_of_ble_eq_true rfl) ?_
  intro a hf
  replace hf := Fr.cast (L' := [(0, .int .i64 p_many), (1, .int .u64 p_at), (2, .int .u64 size)]) hf (by kernel_rfl)
  refine sq ?_
  refine reg ?_
  refine st tbOk 1 [0, 1, 2] (L' := [(0, .int .i64 p_many), (1, .int .u64 p_at), (2, .int .u64 size)]) hf (by kernel_rfl) ?_
  clear hf; clear a; intro a hf
  refine wpList_nil ?_
  refine sq ?_
  refine sq ?_
  refine reg ?_
  refine st tbOk 4 [0, 1, 2, 10] (L' := [(0, .int .i64 p_many), (1, .int .u64 p_at), (2, .int .u64 size), (10, .bool (decide (p_at > (IntKind.u64.wrap p_many))))]) hf (by kernel_rfl) ?_
  clear hf; clear a; intro a hf
  refine wpList_nil ?_
  refine cnd (b := decide (p_at > (IntKind.u64.wrap p_many))) hf (by kernel_rfl) (fun hb1 => ?_) (fun hb1 => ?_)
  · replace hS := of_t hb1 hS
    refine sq ?_
    refine reg ?_
    refine st tbOk 1 [6] (L' := [(6, .bool false)]) hf (by kernel_rfl) ?_
    clear hf; clear a; intro a hf
    refine wpList_nil ?_
    have hr := Option.some.inj hS; subst hr
    refine wp_ret ?_
    exact ret_ok hf (vs := [.bool false]) (by kernel_rfl) ⟨_, rfl, hs.sel [] rfl rfl⟩
  · replace hS := of_f hb1 hS
    refine wp_skip ?_
    refine sq ?_
    refine reg ?_
    refine st tbOk 7 [6] (L' := [(6, .bool (decide (size ≤ (IntKind.u64.wrap ((IntKind.u64.wrap p_many) - p_at)))))]) hf (by kernel_rfl) ?_
    clear hf; clear a; intro a hf
    refine wpList_nil ?_
    have hr := Option.some.inj hS; subst hr
    refine wp_ret ?_
    exact ret_ok hf (vs := [.bool (decide (size ≤ (IntKind.u64.wrap ((IntKind.u64.wrap p_many) - p_at))))]) (by kernel_rfl) ⟨_, rfl, hs.sel [] rfl rfl⟩

set_option maxHeartbeats 4000000 in
theorem ref01_Get_ok {w : World} {F : SH} {b : List Int} {p_at : Int} {n : Int} {ao1 : Option Addr} {cp1 : Nat} (hs : Sep w F (blks [.ro (tI .u8) (.slice ao1 b.length cp1) b]) w F [.ro (tI .u8) (.slice ao1 b.length cp1) b]) {r : Int × Int} (hS : ref01_Get b p_at n = some r) :
    Calls Try.prog 33 [.slice ao1 b.length cp1, .int .u64 p_at, .int .i64 n].toArray w (Gives (fun u w' => ∃ (F' : SH), u = .tuple #[.int .u64 r.1, .int .i64 r.2] ∧ Sep w F (blks [.ro (tI .u8) (.slice ao1 b.length cp1) b]) w' F' [])) := by
  generalize (blks [.ro (tI .u8) (.slice ao1 b.length cp1) b]) = R at hs ⊢
  unfold ref01_Get at hS
  refine fn_ok (vs := [.slice ao1 b.length cp1, .int .u64 p_at, .int .i64 n]) Try.func33 rfl 41 Try.ntmps33 (Nat.le_of_ble_eq_true rfl) ?_
  intro a hf
  replace hf := Fr.cast (L' := [(0, .slice ao1 b.length cp1), (1, .int .u64 p_at), (2, .int .i64 n)]) hf (by kernel_rfl)
  refine sq ?_
  refine reg ?_
  refine st tbOk 2 [0, 1, 2] (L' := [(0, .slice ao1 b.length cp1), (1, .int .u64 p_at), (2, .int .i64 n)]) hf (by kernel_rfl) ?_
  clear hf; clear a; intro a hf
  refine wpList_nil ?_
  refine sq ?_
  refine reg ?_
  refine st tbOk 1 [0, 1, 2, 11] (L' := [(0, .slice ao1 b.length cp1), (1, .int .u64 p_at), (2, .int .i64 n), (11, .int .i64 n)]) hf (by kernel_rfl) ?_
  clear hf; clear a; intro a hf
  have hT := of_bd hS; clear hS; obtain ⟨z1, hz1, hS⟩ := hT
  refine clV ent38 (vs := [.int .i64 n]) (caps := []) hf (by kernel_rfl) (by kernel_rfl) (by kernel_rfl) (by kernel_rfl) (ref01_width_ok (n := n) (hs.enter [] rfl rfl) hz1) ?_
  clear hf; clear a; intro v w1 a hT hf; obtain ⟨F1, rfl, hr⟩ := hT
  replace hs : Sep w F R w1 F1 [.ro (tI .u8) (.slice ao1 b.length cp1) b] := hs.back [] [0] rfl rfl rfl rfl hr
  clear hr
  replace hf := Fr.keep (ks := [0, 1, 2, 12]) (L' := [(0, .slice ao1 b.length cp1), (1, .int .u64 p_at), (2, .int .i64 n), (12, .bool z1)]) hf (by kernel_rfl)
  refine st tbOk 1 [0, 1, 2, 8] (L' := [(0, .slice ao1 b.length cp1), (1, .int .u64 p_at), (2, .int .i64 n), (8, .bool z1)]) hf (by kernel_rfl) ?_
  clear hf; clear a; intro a hf
  refine wpList_nil ?_
  refine sq ?_
  refine sq ?_
  refine reg ?_
  refine st tbOk 2 [0, 1, 2, 14] (L' := [(0, .slice ao1 b.length cp1), (1, .int .u64 p_at), (2, .int .i64 n), (14, .bool (!z1))]) hf (by kernel_rfl) ?_
  clear hf; clear a; intro a hf
  refine wpList_nil ?_
  refine cnd (b := !z1) hf (by kernel_rfl) (fun hb1 => ?_) (fun hb1 => ?_)
  · replace hS := of_t hb1 hS
    refine sq ?_
    refine reg ?_
    refine st tbOk 2 [6, 7] (L' := [(6, .int .u64 0), (7, .int .i64 1)]) hf (by kernel_rfl) ?_
    clear hf; clear a; intro a hf
    refine wpList_nil ?_
    have hr := Option.some.inj hS; subst hr
    refine wp_ret ?_
    exact ret_ok hf (vs := [.int .u64 0, .int .i64 1]) (by kernel_rfl) ⟨_, rfl, hs.sel [] rfl rfl⟩
  · replace hS := of_f hb1 hS
    refine wp_skip ?_
    refine sq ?_
    refine reg ?_
    refine st tbOk 5 [0, 1, 2, 16, 17, 19] (L' := [(0, .slice ao1 b.length cp1), (1, .int .u64 p_at), (2, .int .i64 n), (16, .int .i64 ((b.length : Nat) : Int)), (17, .int .u64 p_at), (19, .int .u64 (IntKind.u64.wrap n))]) hf (by kernel_rfl) ?_
    clear hf; clear a; intro a hf
    have hT := of_bd hS; clear hS; obtain ⟨z2, hz2, hS⟩ := hT
    refine clV ent39 (vs := [.int .i64 ((b.length : Nat) : Int), .int .u64 p_at, .int .u64 (IntKind.u64.wrap n)]) (caps := []) hf (by kernel_rfl) (by kernel_rfl) (by kernel_rfl) (by kernel_rfl) (ref01_Inside_ok (p_many := ((b.length : Nat) : Int)) (p_at := p_at) (size := IntKind.u64.wrap n) (hs.enter [] rfl rfl) hz2) ?_
    clear hf; clear a; intro v w2 a hT hf; obtain ⟨F2, rfl, hr⟩ := hT
    replace hs : Sep w F R w2 F2 [.ro (tI .u8) (.slice ao1 b.length cp1) b] := hs.back [] [0] rfl rfl rfl rfl hr
    clear hr
    replace hf := Fr.keep (ks := [0, 1, 2, 20]) (L' := [(0, .slice ao1 b.length cp1), (1, .int .u64 p_at), (2, .int .i64 n), (20, .bool z2)]) hf (by kernel_rfl)
    refine st tbOk 1 [0, 1, 2, 8] (L' := [(0, .slice ao1 b.length cp1), (1, .int .u64 p_at), (2, .int .i64 n), (8, .bool z2)]) hf (by kernel_rfl) ?_
    clear hf; clear a; intro a hf
    refine wpList_nil ?_
    refine sq ?_
    refine sq ?_
    refine reg ?_
    refine st tbOk 2 [0, 1, 2, 22] (L' := [(0, .slice ao1 b.length cp1), (1, .int .u64 p_at), (2, .int .i64 n), (22, .bool (!z2))]) hf (by kernel_rfl) ?_
    clear hf; clear a; intro a hf
    refine wpList_nil ?_
    refine cnd (b := !z2) hf (by kernel_rfl) (fun hb2 => ?_) (fun hb2 => ?_)
    · replace hS := of_t hb2 hS
      refine sq ?_
      refine reg ?_
      refine st tbOk 2 [6, 7] (L' := [(6, .int .u64 0), (7, .int .i64 10)]) hf (by kernel_rfl) ?_
      clear hf; clear a; intro a hf
      refine wpList_nil ?_
      have hr := Option.some.inj hS; subst hr
      refine wp_ret ?_
      exact ret_ok hf (vs := [.int .u64 0, .int .i64 10]) (by kernel_rfl) ⟨_, rfl, hs.sel [] rfl rfl⟩
    · replace hS := of_f hb2 hS
      refine wp_skip ?_
      refine sq ?_
      refine reg ?_
      refine st tbOk 1 [0, 1, 2, 9] (L' := [(0, .slice ao1 b.length cp1), (1, .int .u64 p_at), (2, .int .i64 n), (9, .int .u64 0)]) hf (by kernel_rfl) ?_
      clear hf; clear a; intro a hf
      refine wpList_nil ?_
      refine sq ?_
      refine sq ?_
      refine reg ?_
      have hT := of_let hS; clear hS; obtain ⟨i_1, hl1, hS⟩ := hT
      refine st tbOk 3 [0, 1, 9, 10] (L' := [(0, .slice ao1 b.length cp1), (1, .int .u64 p_at), (9, .int .u64 0), (10, .int .i64 i_1)]) hf (by subst hl1; kernel_rfl) ?_
      clear hf; clear a; intro a hf
      refine wpList_nil ?_
      refine ctj (fun (s1 : Int) (a : Act) (w' : World) => ∃ (F3 : SH), Sep w F R w' F3 [] ∧ Fr 41 [(9, .int .u64 s1)] a) hS ?_ ?_
      · clear hS hf hs; clear a; intro s1 a w4 hM hS
        obtain ⟨F3, hs, hf⟩ := hM
        refine sq ?_
        refine reg ?_
        refine st tbOk 3 [6, 7] (L' := [(6, .int .u64 s1), (7, .int .i64 0)]) hf (by kernel_rfl) ?_
        clear hf; clear a; intro a hf
        refine wpList_nil ?_
        have hr := Option.some.inj hS; subst hr
        refine wp_ret ?_
        exact ret_ok hf (vs := [.int .u64 s1, .int .i64 0]) (by kernel_rfl) ⟨_, rfl, hs.sel [] rfl rfl⟩
      · clear hS; intro KK1 k1 hK1 hS
        refine blk ?_
        refine lp (st := (0, i_1)) (fun (s2 : Int × Int) (a : Act) (w' : World) => ∃ (F4 : SH), Sep w F R w' F4 [.ro (tI .u8) (.slice ao1 b.length cp1) b] ∧ Fr 41 [(0, .slice ao1 b.length cp1), (1, .int .u64 p_at), (9, .int .u64 s2.1), (10, .int .i64 s2.2)] a) ?_ ⟨_, hs.sel [0] rfl rfl, hf.keep (ks := [0, 1, 9, 10]) (by kernel_rfl)⟩ hS
        clear hS hf hs; clear a
        intro rec1 KK2 hK2 s2 a w3 hM hS
        obtain ⟨F4, hs, hf⟩ := hM
        refine sq ?_
        refine sq ?_
        refine reg ?_
        refine st tbOk 2 [0, 1, 9, 10, 26] (L' := [(0, .slice ao1 b.length cp1), (1, .int .u64 p_at), (9, .int .u64 s2.1), (10, .int .i64 s2.2), (26, .bool (decide (s2.2 ≥ 0)))]) hf (by kernel_rfl) ?_
        clear hf; clear a; intro a hf
        refine wpList_nil ?_
        refine cnd (b := decide (s2.2 ≥ 0)) hf (by kernel_rfl) (fun hb3 => ?_) (fun hb3 => ?_)
        · replace hS := of_t hb3 hS
          refine wp_skip ?_
          refine sq ?_
          refine blk ?_
          refine reg ?_
          refine st tbOk 7 [0, 1, 10, 30, 31, 35] (L' := [(0, .slice ao1 b.length cp1), (1, .int .u64 p_at), (10, .int .i64 s2.2), (30, .int .u64 (IntKind.u64.wrap (s2.1 * 256))), (31, .slice ao1 b.length cp1), (35, .int .i64 (IntKind.i64.wrap ((IntKind.i64.wrap p_at) + s2.2)))]) hf (by kernel_rfl) ?_
          clear hf; clear a; intro a hf
          have hT := of_gd hS; clear hS; obtain ⟨hc1, hS⟩ := hT
          refine ixR tbOk u26 i5 rfl rfl ((hs.ro 0 rfl).ra (LeH.refl _)) (k := .i64) (n := IntKind.i64.wrap ((IntKind.i64.wrap p_at) + s2.2)) hc1 hf (by kernel_rfl) (by kernel_rfl) (by kernel_rfl) (by kernel_rfl) ?_
          clear hf; clear a; intro pb1 po1 c1 a hp1 hr1 hf
          obtain rfl : c1 = [.int .u8 (gt b (IntKind.i64.wrap ((IntKind.i64.wrap p_at) + s2.2)))] := hr1
          replace hs : Sep w F R w3 F4 [.cel pb1 po1 [.int .u8 (gt b (IntKind.i64.wrap ((IntKind.i64.wrap p_at) + s2.2)))], .ro (tI .u8) (.slice ao1 b.length cp1) b] := hs.addCel hp1
          replace hf := Fr.keep (ks := [0, 1, 10, 30, 36]) (L' := [(0, .slice ao1 b.length cp1), (1, .int .u64 p_at), (10, .int .i64 s2.2), (30, .int .u64 (IntKind.u64.wrap (s2.1 * 256))), (36, .pointer (some ⟨pb1, po1, none⟩))]) hf (by kernel_rfl)
          refine ldC tbOk (T := 5) (hs.ccel 0 rfl) (LeH.refl _) 0 (.int .u8 (gt b (IntKind.i64.wrap ((IntKind.i64.wrap p_at) + s2.2)))) hf (by kernel_rfl) (by kernel_rfl) (by kernel_rfl) (by kernel_rfl) ?_
          clear hf; clear a; intro a hf
          replace hs : Sep w F R w3 F4 [.ro (tI .u8) (.slice ao1 b.length cp1) b] := hs.sel [1] rfl rfl
          replace hf := Fr.keep (ks := [0, 1, 10, 30, 37]) (L' := [(0, .slice ao1 b.length cp1), (1, .int .u64 p_at), (10, .int .i64 s2.2), (30, .int .u64 (IntKind.u64.wrap (s2.1 * 256))), (37, .int .u8 (gt b (IntKind.i64.wrap ((IntKind.i64.wrap p_at) + s2.2))))]) hf (by kernel_rfl)
          have hT := of_let hS; clear hS; obtain ⟨x_1, hl2, hS⟩ := hT
          refine st tbOk 3 [0, 1, 9, 10] (L' := [(0, .slice ao1 b.length cp1), (1, .int .u64 p_at), (9, .int .u64 x_1), (10, .int .i64 s2.2)]) hf (by subst hl2; kernel_rfl) ?_
          clear hf; clear a; intro a hf
          refine wpList_nil ?_
          refine reg ?_
          have hT := of_let hS; clear hS; obtain ⟨i_2, hl3, hS⟩ := hT
          refine st tbOk 3 [0, 1, 9, 10] (L' := [(0, .slice ao1 b.length cp1), (1, .int .u64 p_at), (9, .int .u64 x_1), (10, .int .i64 i_2)]) hf (by subst hl3; kernel_rfl) ?_
          clear hf; clear a; intro a hf
          refine wpList_nil ?_
          exact hK2 (x_1, i_2) _ _ ⟨_, hs.sel [0] rfl rfl, hf.keep (ks := [0, 1, 9, 10]) (by kernel_rfl)⟩ hS
        · replace hS := of_f hb3 hS
          refine wp_exit ?_
          exact hK1 s2.1 _ _ ⟨_, hs.sel [] rfl rfl, hf.keep (ks := [9]) (by kernel_rfl)⟩ hS

end Dm
