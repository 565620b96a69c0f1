/-
  The walks: a call of each Go function gives what its shallow form gives, where that form gives something; printed by a program of this repo. No condition.
-/
import Derived.Test.YtdigooncdjnfbaaWT
namespace Dm
open Go Go.RowKit Go.Proofs

set_option maxHeartbeats 4000000 in
theorem octets_width_ok {w : World} {F : SH} {n : Int}  (hs : Sep w F (blks []) w F []) {r : Bool} (hS : octets_width n = some r) :
    Calls Try.prog 30 [.int .i64 n].toArray w (Gives (fun u w' => ∃ (F' : SH), u = .bool r ∧ Sep w F (blks []) w' F' [])) := by
  generalize (blks []) = R at hs ⊢
  unfold octets_width at hS
  refine fn_ok (vs := [.int .i64 n]) Try.func30 rfl 17 Try.ntmps30 (Nat.le_of_ble_eq_true rfl) ?_
  intro a hf
  replace hf := Fr.cast (L' := [(0, .int .i64 n)]) hf (by kernel_rfl)
  refine sq ?_
  refine reg ?_
  refine st tbOk 1 [0] (L' := [(0, .int .i64 n)]) hf (by kernel_rfl) ?_
  clear hf; clear a; intro a hf
  refine wpList_nil ?_
  refine sq ?_
  refine ctj (fun (s1 : Bool) (a : Act) (w' : World) => ∃ (F1 : SH), Sep w F R w' F1 [] ∧ Fr 17 [(2, .bool s1)] a) hS ?_ ?_
  · clear hS hf hs; clear a; intro s1 a w1 hM hS
    obtain ⟨F1, hs, hf⟩ := hM
    have hr := Option.some.inj hS; subst hr
    refine wp_ret ?_
    exact ret_ok hf (vs := [.bool s1]) (by kernel_rfl) ⟨_, rfl, hs.sel [] rfl rfl⟩
  · clear hS; intro KK1 k1 hK1 hS
    refine reg ?_
    refine st tbOk 3 [0, 5] (L' := [(0, .int .i64 n), (5, .bool (n == 1))]) hf (by kernel_rfl) ?_
    clear hf; clear a; intro a hf
    rcases Bool.eq_false_or_eq_true (n == 1) with hb1 | hb1
    · replace hS := of_t hb1 hS
      replace hf := Fr.cast (L' := [(0, .int .i64 n), (5, .bool true)]) hf (by rw [hb1])
      refine st tbOk 12 [2] (L' := [(2, .bool true)]) hf (by kernel_rfl) ?_
      clear hf; clear a; intro a hf
      refine wpList_nil ?_
      exact hK1 true _ _ ⟨_, hs.sel [] rfl rfl, hf.keep (ks := [2]) (by kernel_rfl)⟩ hS
    · replace hS := of_f hb1 hS
      replace hf := Fr.cast (L' := [(0, .int .i64 n), (5, .bool false)]) hf (by rw [hb1])
      refine st tbOk 4 [0, 9] (L' := [(0, .int .i64 n), (9, .bool (n == 2))]) hf (by kernel_rfl) ?_
      clear hf; clear a; intro a hf
      rcases Bool.eq_false_or_eq_true (n == 2) with hb2 | hb2
      · replace hS := of_t hb2 hS
        replace hf := Fr.cast (L' := [(0, .int .i64 n), (9, .bool true)]) hf (by rw [hb2])
        refine st tbOk 8 [2] (L' := [(2, .bool true)]) hf (by kernel_rfl) ?_
        clear hf; clear a; intro a hf
        refine wpList_nil ?_
        exact hK1 true _ _ ⟨_, hs.sel [] rfl rfl, hf.keep (ks := [2]) (by kernel_rfl)⟩ hS
      · replace hS := of_f hb2 hS
        replace hf := Fr.cast (L' := [(0, .int .i64 n), (9, .bool false)]) hf (by rw [hb2])
        refine st tbOk 4 [0, 13] (L' := [(0, .int .i64 n), (13, .bool (n == 4))]) hf (by kernel_rfl) ?_
        clear hf; clear a; intro a hf
        rcases Bool.eq_false_or_eq_true (n == 4) with hb3 | hb3
        · replace hS := of_t hb3 hS
          replace hf := Fr.cast (L' := [(0, .int .i64 n), (13, .bool true)]) hf (by rw [hb3])
          refine st tbOk 4 [2] (L' := [(2, .bool true)]) hf (by kernel_rfl) ?_
          clear hf; clear a; intro a hf
          refine wpList_nil ?_
          exact hK1 true _ _ ⟨_, hs.sel [] rfl rfl, hf.keep (ks := [2]) (by kernel_rfl)⟩ hS
        · replace hS := of_f hb3 hS
          replace hf := Fr.cast (L' := [(0, .int .i64 n), (13, .bool false)]) hf (by rw [hb3])
          refine st tbOk 4 [2] (L' := [(2, .bool (n == 8))]) hf (by kernel_rfl) ?_
          clear hf; clear a; intro a hf
          refine wpList_nil ?_
          exact hK1 (n == 8) _ _ ⟨_, hs.sel [] rfl rfl, hf.keep (ks := [2]) (by kernel_rfl)⟩ hS

set_option maxHeartbeats 4000000 in
theorem octets_has_ok {w : World} {F : SH} {p_many : Int} {p_at : Int} {size : Int}  (hs : Sep w F (blks []) w F []) {r : Bool} (hS : octets_has p_many p_at size = some r) :
    Calls Try.prog 28 [.int .i64 p_many, .int .u64 p_at, .int .u64 size].toArray w (Gives (fun u w' => ∃ (F' : SH), u = .bool r ∧ Sep w F (blks []) w' F' [])) := by
  generalize (blks []) = R at hs ⊢
  unfold octets_has at hS
  refine fn_ok (vs := [.int .i64 p_many, .int .u64 p_at, .int .u64 size]) Try.func28 rfl 20 Try.ntmps28 (Nat.le_of_ble_eq_true rfl) ?_
  intro a hf
  replace hf := Fr.cast (L' := [(0, .int .i64 p_many), (1, .int .u64 p_at), (2, .int .u64 size)]) hf (by kernel_rfl)
  refine sq ?_
  refine reg ?_
  refine st tbOk 1 [0, 1, 2] (L' := [(0, .int .i64 p_many), (1, .int .u64 p_at), (2, .int .u64 size)]) hf (by kernel_rfl) ?_
  clear hf; clear a; intro a hf
  refine wpList_nil ?_
  refine sq ?_
  refine reg ?_
  have hT := of_let hS; clear hS; obtain ⟨all_1, hl1, hS⟩ := hT
  refine st tbOk 3 [1, 2, 7] (L' := [(1, .int .u64 p_at), (2, .int .u64 size), (7, .int .u64 all_1)]) hf (by subst hl1; kernel_rfl) ?_
  clear hf; clear a; intro a hf
  refine wpList_nil ?_
  refine sq ?_
  refine ctj (fun (s1 : Bool) (a : Act) (w' : World) => ∃ (F1 : SH), Sep w F R w' F1 [] ∧ Fr 20 [(6, .bool s1)] a) hS ?_ ?_
  · clear hS hf hs; clear a; intro s1 a w1 hM hS
    obtain ⟨F1, hs, hf⟩ := hM
    have hr := Option.some.inj hS; subst hr
    refine wp_ret ?_
    exact ret_ok hf (vs := [.bool s1]) (by kernel_rfl) ⟨_, rfl, hs.sel [] rfl rfl⟩
  · clear hS; intro KK1 k1 hK1 hS
    refine reg ?_
    refine st tbOk 4 [1, 2, 7, 13] (L' := [(1, .int .u64 p_at), (2, .int .u64 size), (7, .int .u64 all_1), (13, .bool (decide (p_at ≤ all_1)))]) hf (by kernel_rfl) ?_
    clear hf; clear a; intro a hf
    rcases Bool.eq_false_or_eq_true (decide (p_at ≤ all_1)) with hb1 | hb1
    · replace hS := of_t hb1 hS
      replace hf := Fr.cast (L' := [(1, .int .u64 p_at), (2, .int .u64 size), (7, .int .u64 all_1), (13, .bool true)]) hf (by rw [hb1])
      refine st tbOk 7 [6] (L' := [(6, .bool (decide (size ≤ (IntKind.u64.wrap (all_1 - p_at)))))]) hf (by kernel_rfl) ?_
      clear hf; clear a; intro a hf
      refine wpList_nil ?_
      exact hK1 (decide (size ≤ (IntKind.u64.wrap (all_1 - p_at)))) _ _ ⟨_, hs.sel [] rfl rfl, hf.keep (ks := [6]) (by kernel_rfl)⟩ hS
    · replace hS := of_f hb1 hS
      replace hf := Fr.cast (L' := [(1, .int .u64 p_at), (2, .int .u64 size), (7, .int .u64 all_1), (13, .bool false)]) hf (by rw [hb1])
      refine st tbOk 7 [6] (L' := [(6, .bool false)]) hf (by kernel_rfl) ?_
      clear hf; clear a; intro a hf
      refine wpList_nil ?_
      exact hK1 false _ _ ⟨_, hs.sel [] rfl rfl, hf.keep (ks := [6]) (by kernel_rfl)⟩ hS

set_option maxHeartbeats 4000000 in
theorem octets_fits_ok {w : World} {F : SH} {b : List Int} {p_at : Int} {n : Int} {ao1 : Option Addr} {cp1 : Nat} (hs : Sep w F (blks [.ro (tI .u8) (.slice ao1 b.length cp1) b]) w F [.ro (tI .u8) (.slice ao1 b.length cp1) b]) {r : Int} (hS : octets_fits b p_at n = some r) :
    Calls Try.prog 24 [.slice ao1 b.length cp1, .int .u64 p_at, .int .i64 n].toArray w (Gives (fun u w' => ∃ (F' : SH), u = .int .i64 r ∧ Sep w F (blks [.ro (tI .u8) (.slice ao1 b.length cp1) b]) w' F' [])) := by
  generalize (blks [.ro (tI .u8) (.slice ao1 b.length cp1) b]) = R at hs ⊢
  unfold octets_fits at hS
  refine fn_ok (vs := [.slice ao1 b.length cp1, .int .u64 p_at, .int .i64 n]) Try.func24 rfl 19 Try.ntmps24 (Nat.le_of_ble_eq_true rfl) ?_
  intro a hf
  replace hf := Fr.cast (L' := [(0, .slice ao1 b.length cp1), (1, .int .u64 p_at), (2, .int .i64 n)]) hf (by kernel_rfl)
  refine sq ?_
  refine reg ?_
  refine st tbOk 1 [0, 1, 2] (L' := [(0, .slice ao1 b.length cp1), (1, .int .u64 p_at), (2, .int .i64 n)]) hf (by kernel_rfl) ?_
  clear hf; clear a; intro a hf
  refine wpList_nil ?_
  refine sq ?_
  refine blk ?_
  refine sq ?_
  refine reg ?_
  refine st tbOk 1 [0, 1, 2, 8] (L' := [(0, .slice ao1 b.length cp1), (1, .int .u64 p_at), (2, .int .i64 n), (8, .int .i64 n)]) hf (by kernel_rfl) ?_
  clear hf; clear a; intro a hf
  have hT := of_bd hS; clear hS; obtain ⟨z1, hz1, hS⟩ := hT
  refine clV ent30 (vs := [.int .i64 n]) (caps := []) hf (by kernel_rfl) (by kernel_rfl) (by kernel_rfl) (by kernel_rfl) (octets_width_ok (n := n) (hs.enter [] rfl rfl) hz1) ?_
  clear hf; clear a; intro v w1 a hT hf; obtain ⟨F1, rfl, hr⟩ := hT
  replace hs : Sep w F R w1 F1 [.ro (tI .u8) (.slice ao1 b.length cp1) b] := hs.back [] [0] rfl rfl rfl rfl hr
  clear hr
  replace hf := Fr.keep (ks := [0, 1, 2, 9]) (L' := [(0, .slice ao1 b.length cp1), (1, .int .u64 p_at), (2, .int .i64 n), (9, .bool z1)]) hf (by kernel_rfl)
  refine st tbOk 2 [0, 1, 2, 7] (L' := [(0, .slice ao1 b.length cp1), (1, .int .u64 p_at), (2, .int .i64 n), (7, .bool (!z1))]) hf (by kernel_rfl) ?_
  clear hf; clear a; intro a hf
  refine wpList_nil ?_
  refine cnd (b := !z1) hf (by kernel_rfl) (fun hb1 => ?_) (fun hb1 => ?_)
  · replace hS := of_t hb1 hS
    refine sq ?_
    refine reg ?_
    refine st tbOk 1 [6] (L' := [(6, .int .i64 1)]) hf (by kernel_rfl) ?_
    clear hf; clear a; intro a hf
    refine wpList_nil ?_
    have hr := Option.some.inj hS; subst hr
    refine wp_ret ?_
    exact ret_ok hf (vs := [.int .i64 1]) (by kernel_rfl) ⟨_, rfl, hs.sel [] rfl rfl⟩
  · replace hS := of_f hb1 hS
    refine sq ?_
    refine reg ?_
    refine st tbOk 5 [13, 14, 16] (L' := [(13, .int .i64 ((b.length : Nat) : Int)), (14, .int .u64 p_at), (16, .int .u64 (IntKind.u64.wrap n))]) hf (by kernel_rfl) ?_
    clear hf; clear a; intro a hf
    have hT := of_bd hS; clear hS; obtain ⟨z2, hz2, hS⟩ := hT
    refine clV ent28 (vs := [.int .i64 ((b.length : Nat) : Int), .int .u64 p_at, .int .u64 (IntKind.u64.wrap n)]) (caps := []) hf (by kernel_rfl) (by kernel_rfl) (by kernel_rfl) (by kernel_rfl) (octets_has_ok (p_many := ((b.length : Nat) : Int)) (p_at := p_at) (size := IntKind.u64.wrap n) (hs.enter [] rfl rfl) hz2) ?_
    clear hf; clear a; intro v w2 a hT hf; obtain ⟨F2, rfl, hr⟩ := hT
    replace hs : Sep w F R w2 F2 [.ro (tI .u8) (.slice ao1 b.length cp1) b] := hs.back [] [0] rfl rfl rfl rfl hr
    clear hr
    replace hs : Sep w F R w2 F2 [] := hs.sel [] rfl rfl
    replace hf := Fr.keep (ks := [17]) (L' := [(17, .bool z2)]) hf (by kernel_rfl)
    refine st tbOk 2 [11] (L' := [(11, .bool (!z2))]) hf (by kernel_rfl) ?_
    clear hf; clear a; intro a hf
    refine wpList_nil ?_
    refine cnd (b := !z2) hf (by kernel_rfl) (fun hb2 => ?_) (fun hb2 => ?_)
    · replace hS := of_t hb2 hS
      refine sq ?_
      refine reg ?_
      refine st tbOk 1 [6] (L' := [(6, .int .i64 10)]) hf (by kernel_rfl) ?_
      clear hf; clear a; intro a hf
      refine wpList_nil ?_
      have hr := Option.some.inj hS; subst hr
      refine wp_ret ?_
      exact ret_ok hf (vs := [.int .i64 10]) (by kernel_rfl) ⟨_, rfl, hs.sel [] rfl rfl⟩
    · replace hS := of_f hb2 hS
      refine wp_skip ?_
      refine sq ?_
      refine reg ?_
      refine st tbOk 1 [6] (L' := [(6, .int .i64 0)]) hf (by kernel_rfl) ?_
      clear hf; clear a; intro a hf
      refine wpList_nil ?_
      have hr := Option.some.inj hS; subst hr
      refine wp_ret ?_
      exact ret_ok hf (vs := [.int .i64 0]) (by kernel_rfl) ⟨_, rfl, hs.sel [] rfl rfl⟩

set_option maxHeartbeats 4000000 in
theorem octets_Get_ok {w : World} {F : SH} {b : List Int} {p_at : Int} {n : Int} {ao1 : Option Addr} {cp1 : Nat} (hs : Sep w F (blks [.ro (tI .u8) (.slice ao1 b.length cp1) b]) w F [.ro (tI .u8) (.slice ao1 b.length cp1) b]) {r : Int × Int} (hS : octets_Get b p_at n = some r) :
    Calls Try.prog 12 [.slice ao1 b.length cp1, .int .u64 p_at, .int .i64 n].toArray w (Gives (fun u w' => ∃ (F' : SH), u = .tuple #[.int .u64 r.1, .int .i64 r.2] ∧ Sep w F (blks [.ro (tI .u8) (.slice ao1 b.length cp1) b]) w' F' [])) := by
  generalize (blks [.ro (tI .u8) (.slice ao1 b.length cp1) b]) = R at hs ⊢
  unfold octets_Get at hS
  refine fn_ok (vs := [.slice ao1 b.length cp1, .int .u64 p_at, .int .i64 n]) Try.func12 rfl 38 Try.ntmps12 (Nat.le_of_ble_eq_true rfl) ?_
  intro a hf
  replace hf := Fr.cast (L' := [(0, .slice ao1 b.length cp1), (1, .int .u64 p_at), (2, .int .i64 n)]) hf (by kernel_rfl)
  refine sq ?_
  refine reg ?_
  refine st tbOk 2 [0, 1, 2] (L' := [(0, .slice ao1 b.length cp1), (1, .int .u64 p_at), (2, .int .i64 n)]) hf (by kernel_rfl) ?_
  clear hf; clear a; intro a hf
  refine wpList_nil ?_
  refine sq ?_
  refine sq ?_
  refine reg ?_
  refine st tbOk 3 [0, 1, 2, 11, 12, 13] (L' := [(0, .slice ao1 b.length cp1), (1, .int .u64 p_at), (2, .int .i64 n), (11, .slice ao1 b.length cp1), (12, .int .u64 p_at), (13, .int .i64 n)]) hf (by kernel_rfl) ?_
  clear hf; clear a; intro a hf
  have hT := of_bd hS; clear hS; obtain ⟨z1, hz1, hS⟩ := hT
  refine clV ent24 (vs := [.slice ao1 b.length cp1, .int .u64 p_at, .int .i64 n]) (caps := []) hf (by kernel_rfl) (by kernel_rfl) (by kernel_rfl) (by kernel_rfl) (octets_fits_ok (b := b) (p_at := p_at) (n := n) (hs.enter [0] rfl rfl) hz1) ?_
  clear hf; clear a; intro v w1 a hT hf; obtain ⟨F1, rfl, hr⟩ := hT
  replace hs : Sep w F R w1 F1 [.ro (tI .u8) (.slice ao1 b.length cp1) b] := hs.back [0] [0] rfl rfl rfl rfl hr
  clear hr
  replace hf := Fr.keep (ks := [0, 1, 2, 14]) (L' := [(0, .slice ao1 b.length cp1), (1, .int .u64 p_at), (2, .int .i64 n), (14, .int .i64 z1)]) hf (by kernel_rfl)
  refine st tbOk 1 [0, 1, 2, 8] (L' := [(0, .slice ao1 b.length cp1), (1, .int .u64 p_at), (2, .int .i64 n), (8, .int .i64 z1)]) hf (by kernel_rfl) ?_
  clear hf; clear a; intro a hf
  refine wpList_nil ?_
  refine sq ?_
  refine reg ?_
  refine st tbOk 2 [0, 1, 2, 8, 16] (L' := [(0, .slice ao1 b.length cp1), (1, .int .u64 p_at), (2, .int .i64 n), (8, .int .i64 z1), (16, .bool (z1 != 0))]) hf (by kernel_rfl) ?_
  clear hf; clear a; intro a hf
  refine wpList_nil ?_
  refine cnd (b := z1 != 0) hf (by kernel_rfl) (fun hb1 => ?_) (fun hb1 => ?_)
  · replace hS := of_t hb1 hS
    refine sq ?_
    refine reg ?_
    refine st tbOk 3 [6, 7] (L' := [(6, .int .u64 0), (7, .int .i64 z1)]) hf (by kernel_rfl) ?_
    clear hf; clear a; intro a hf
    refine wpList_nil ?_
    have hr := Option.some.inj hS; subst hr
    refine wp_ret ?_
    exact ret_ok hf (vs := [.int .u64 0, .int .i64 z1]) (by kernel_rfl) ⟨_, rfl, hs.sel [] rfl rfl⟩
  · replace hS := of_f hb1 hS
    refine wp_skip ?_
    refine sq ?_
    refine reg ?_
    refine st tbOk 1 [0, 1, 2, 9] (L' := [(0, .slice ao1 b.length cp1), (1, .int .u64 p_at), (2, .int .i64 n), (9, .int .u64 0)]) hf (by kernel_rfl) ?_
    clear hf; clear a; intro a hf
    refine wpList_nil ?_
    refine sq ?_
    refine sq ?_
    refine reg ?_
    refine st tbOk 2 [0, 1, 9, 18, 19] (L' := [(0, .slice ao1 b.length cp1), (1, .int .u64 p_at), (9, .int .u64 0), (18, .int .i64 n), (19, .int .i64 0)]) hf (by kernel_rfl) ?_
    clear hf; clear a; intro a hf
    refine wpList_nil ?_
    refine ctj (fun (s1 : Int) (a : Act) (w' : World) => ∃ (F2 : SH), Sep w F R w' F2 [] ∧ Fr 38 [(9, .int .u64 s1)] a) hS ?_ ?_
    · clear hS hf hs; clear a; intro s1 a w3 hM hS
      obtain ⟨F2, hs, hf⟩ := hM
      refine sq ?_
      refine reg ?_
      refine st tbOk 3 [6, 7] (L' := [(6, .int .u64 s1), (7, .int .i64 0)]) hf (by kernel_rfl) ?_
      clear hf; clear a; intro a hf
      refine wpList_nil ?_
      have hr := Option.some.inj hS; subst hr
      refine wp_ret ?_
      exact ret_ok hf (vs := [.int .u64 s1, .int .i64 0]) (by kernel_rfl) ⟨_, rfl, hs.sel [] rfl rfl⟩
    · clear hS; intro KK1 k1 hK1 hS
      refine blk ?_
      refine lp (st := (0, 0)) (fun (s2 : Int × Int) (a : Act) (w' : World) => ∃ (F3 : SH), Sep w F R w' F3 [.ro (tI .u8) (.slice ao1 b.length cp1) b] ∧ Fr 38 [(0, .slice ao1 b.length cp1), (1, .int .u64 p_at), (9, .int .u64 s2.1), (18, .int .i64 n), (19, .int .i64 s2.2)] a) ?_ ⟨_, hs.sel [0] rfl rfl, hf.keep (ks := [0, 1, 9, 18, 19]) (by kernel_rfl)⟩ hS
      clear hS hf hs; clear a
      intro rec1 KK2 hK2 s2 a w2 hM hS
      obtain ⟨F3, hs, hf⟩ := hM
      refine sq ?_
      refine reg ?_
      refine st tbOk 1 [0, 1, 9, 18, 19, 20] (L' := [(0, .slice ao1 b.length cp1), (1, .int .u64 p_at), (9, .int .u64 s2.1), (18, .int .i64 n), (19, .int .i64 s2.2), (20, .bool (decide (s2.2 < n)))]) hf (by kernel_rfl) ?_
      clear hf; clear a; intro a hf
      refine wpList_nil ?_
      refine sq ?_
      refine cnd (b := decide (s2.2 < n)) hf (by kernel_rfl) (fun hb2 => ?_) (fun hb2 => ?_)
      · replace hS := of_t hb2 hS
        refine wp_skip ?_
        refine sq ?_
        refine blk ?_
        refine sq ?_
        refine reg ?_
        refine st tbOk 2 [0, 1, 9, 10, 18, 19] (L' := [(0, .slice ao1 b.length cp1), (1, .int .u64 p_at), (9, .int .u64 s2.1), (10, .int .i64 s2.2), (18, .int .i64 n), (19, .int .i64 s2.2)]) hf (by kernel_rfl) ?_
        clear hf; clear a; intro a hf
        refine wpList_nil ?_
        refine reg ?_
        refine st tbOk 6 [0, 1, 10, 18, 19, 22, 23, 27] (L' := [(0, .slice ao1 b.length cp1), (1, .int .u64 p_at), (10, .int .i64 s2.2), (18, .int .i64 n), (19, .int .i64 s2.2), (22, .int .u64 s2.1), (23, .slice ao1 b.length cp1), (27, .int .i64 (IntKind.i64.wrap ((IntKind.i64.wrap p_at) + s2.2)))]) hf (by kernel_rfl) ?_
        clear hf; clear a; intro a hf
        have hT := of_gd hS; clear hS; obtain ⟨hc1, hS⟩ := hT
        refine ixR tbOk u22 i5 rfl rfl ((hs.ro 0 rfl).ra (LeH.refl _)) (k := .i64) (n := IntKind.i64.wrap ((IntKind.i64.wrap p_at) + s2.2)) hc1 hf (by kernel_rfl) (by kernel_rfl) (by kernel_rfl) (by kernel_rfl) ?_
        clear hf; clear a; intro pb1 po1 c1 a hp1 hr1 hf
        obtain rfl : c1 = [.int .u8 (gt b (IntKind.i64.wrap ((IntKind.i64.wrap p_at) + s2.2)))] := hr1
        replace hs : Sep w F R w2 F3 [.cel pb1 po1 [.int .u8 (gt b (IntKind.i64.wrap ((IntKind.i64.wrap p_at) + s2.2)))], .ro (tI .u8) (.slice ao1 b.length cp1) b] := hs.addCel hp1
        replace hf := Fr.keep (ks := [0, 1, 10, 18, 19, 22, 28]) (L' := [(0, .slice ao1 b.length cp1), (1, .int .u64 p_at), (10, .int .i64 s2.2), (18, .int .i64 n), (19, .int .i64 s2.2), (22, .int .u64 s2.1), (28, .pointer (some ⟨pb1, po1, none⟩))]) hf (by kernel_rfl)
        refine ldC tbOk (T := 5) (hs.ccel 0 rfl) (LeH.refl _) 0 (.int .u8 (gt b (IntKind.i64.wrap ((IntKind.i64.wrap p_at) + s2.2)))) hf (by kernel_rfl) (by kernel_rfl) (by kernel_rfl) (by kernel_rfl) ?_
        clear hf; clear a; intro a hf
        replace hs : Sep w F R w2 F3 [.ro (tI .u8) (.slice ao1 b.length cp1) b] := hs.sel [1] rfl rfl
        replace hf := Fr.keep (ks := [0, 1, 10, 18, 19, 22, 29]) (L' := [(0, .slice ao1 b.length cp1), (1, .int .u64 p_at), (10, .int .i64 s2.2), (18, .int .i64 n), (19, .int .i64 s2.2), (22, .int .u64 s2.1), (29, .int .u8 (gt b (IntKind.i64.wrap ((IntKind.i64.wrap p_at) + s2.2))))]) hf (by kernel_rfl)
        refine st tbOk 4 [0, 1, 18, 19, 22, 30, 33] (L' := [(0, .slice ao1 b.length cp1), (1, .int .u64 p_at), (18, .int .i64 n), (19, .int .i64 s2.2), (22, .int .u64 s2.1), (30, .int .u64 (IntKind.u64.wrap (gt b (IntKind.i64.wrap ((IntKind.i64.wrap p_at) + s2.2))))), (33, .int .u64 (IntKind.u64.wrap (IntKind.i64.wrap (8 * s2.2))))]) hf (by kernel_rfl) ?_
        clear hf; clear a; intro a hf
        have hT := of_gd hS; clear hS; obtain ⟨hc2, hS⟩ := hT
        refine bin (run_shl (k := .u64) (k' := .u64) (x := IntKind.u64.wrap (gt b (IntKind.i64.wrap ((IntKind.i64.wrap p_at) + s2.2)))) hc2 _) hf (by kernel_rfl) (by kernel_rfl) (by kernel_rfl) (by kernel_rfl) ?_
        clear hf; clear a; intro a hf
        replace hf := Fr.keep (ks := [0, 1, 18, 19, 22, 34]) (L' := [(0, .slice ao1 b.length cp1), (1, .int .u64 p_at), (18, .int .i64 n), (19, .int .i64 s2.2), (22, .int .u64 s2.1), (34, .int .u64 (shl .u64 (IntKind.u64.wrap (gt b (IntKind.i64.wrap ((IntKind.i64.wrap p_at) + s2.2)))) (IntKind.u64.wrap (IntKind.i64.wrap (8 * s2.2)))))]) hf (by kernel_rfl)
        have hT := of_let hS; clear hS; obtain ⟨x_1, hl1, hS⟩ := hT
        refine st tbOk 2 [0, 1, 9, 18, 19] (L' := [(0, .slice ao1 b.length cp1), (1, .int .u64 p_at), (9, .int .u64 x_1), (18, .int .i64 n), (19, .int .i64 s2.2)]) hf (by subst hl1; kernel_rfl) ?_
        clear hf; clear a; intro a hf
        refine wpList_nil ?_
        refine reg ?_
        refine st tbOk 2 [0, 1, 9, 18, 19] (L' := [(0, .slice ao1 b.length cp1), (1, .int .u64 p_at), (9, .int .u64 x_1), (18, .int .i64 n), (19, .int .i64 (IntKind.i64.wrap (s2.2 + 1)))]) hf (by kernel_rfl) ?_
        clear hf; clear a; intro a hf
        refine wpList_nil ?_
        exact hK2 (x_1, IntKind.i64.wrap (s2.2 + 1)) _ _ ⟨_, hs.sel [0] rfl rfl, hf.keep (ks := [0, 1, 9, 18, 19]) (by kernel_rfl)⟩ hS
      · replace hS := of_f hb2 hS
        refine wp_exit ?_
        exact hK1 s2.1 _ _ ⟨_, hs.sel [] rfl rfl, hf.keep (ks := [9]) (by kernel_rfl)⟩ hS

theorem slices_Clone_byte_byte_ok {w : World} {F : SH} {s : List Int} {ao : Option Addr} {cp : Nat} (hs : Sep w F (blks [.ro (tI .u8) (.slice ao s.length cp) s]) w F [.ro (tI .u8) (.slice ao s.length cp) s]) {r : List Int} (hS : slices_Clone_byte_byte s = some r) :
    Calls Try.prog 27 [.slice ao s.length cp].toArray w (Gives (fun u w' => ∃ (ao1 : Option Addr) (cp1 : Nat) (F' : SH), u = .slice ao1 r.length cp1 ∧ Sep w F (blks [.ro (tI .u8) (.slice ao s.length cp) s]) w' F' [.row 5 (tI .u8) (.slice ao1 r.length cp1) r])) := by
  generalize blks [.ro (tI .u8) (.slice ao s.length cp) s] = R at hs ⊢
  unfold slices_Clone_byte_byte at hS
  obtain ⟨hc1, hS⟩ := of_gd hS
  have hr := Option.some.inj hS; subst hr
  refine fn_ok (vs := [.slice ao s.length cp]) Try.func27 rfl 8 Try.ntmps27 (Nat.le_of_ble_eq_true rfl) ?_
  intro a hf
  replace hf := Fr.cast (L' := [(0, .slice ao s.length cp)]) hf (by kernel_rfl)
  refine sq ?_
  refine reg ?_
  refine st tbOk 1 [0] (L' := [(0, .slice ao s.length cp)]) hf (by kernel_rfl) ?_
  clear hf; clear a; intro a hf
  refine wpList_nil ?_
  refine sq ?_
  refine sq ?_
  refine reg ?_
  refine st tbOk 1 [0, 3] (L' := [(0, .slice ao s.length cp), (3, .slice ao s.length cp)]) hf (by kernel_rfl) ?_
  clear hf; clear a; intro a hf
  refine eqnil tbOk u22 (ao := ao) (n := s.length) (c := cp) hf (by kernel_rfl) (by kernel_rfl) (by kernel_rfl) ?_
  clear hf; clear a; intro a hf
  refine wpList_nil ?_
  refine cnd (b := ao.isNone) hf (by kernel_rfl) (fun hb => ?_) (fun hb => ?_)
  · have hao : ao = none := by simpa using hb
    subst hao
    have hnil := (hs.ro 0 rfl).none_nil (Nat.le_of_ble_eq_true rfl)
    subst hnil
    refine sq ?_
    refine reg ?_
    refine st tbOk 1 [2] (L' := [(2, .slice none 0 0)]) hf (by kernel_rfl) ?_
    clear hf; clear a; intro a hf
    refine wpList_nil ?_
    refine wp_ret ?_
    replace hs := hs.addNil 5 (tI .u8)
    exact ret_ok hf (vs := [.slice none 0 0]) (by kernel_rfl) ⟨none, 0, _, rfl, hs.sel [0] rfl rfl⟩
  · refine wp_skip ?_
    refine sq ?_
    refine reg ?_
    refine bsR tbOk u22 i5 rfl (t := (tI .u8)) (vs := []) (cells := #[]) ([] : List Int) hs.le hf (by kernel_rfl) (by kernel_rfl) (by kernel_rfl) rfl (by kernel_rfl) rfl rfl ?_
    clear hf; clear a; intro w1 a ho hx hf
    replace hs := hs.newRow ho hx
    clear ho hx
    refine st tbOk 1 [5, 6] (L' := [(5, .slice (some ⟨w.heap.size, 0, none⟩) ([] : List Int).length ([] : List Int).length), (6, .slice ao s.length cp)]) hf (by kernel_rfl) ?_
    clear hf; clear a; intro a hf
    refine apR tbOk u22 i5 rfl rfl rfl rfl hs.le (hs.own 0 rfl) (hs.raR 1 rfl) (by simpa using hc1) hf (by kernel_rfl) (by kernel_rfl) (by kernel_rfl) (by kernel_rfl) ?_
    clear hf; clear a; intro ao2 cp2 w2 a ho hg hl hf
    replace hs := hs.updRow 0 rfl ho hg hl
    clear ho hg hl
    refine st tbOk 1 [2] (L' := [(2, .slice ao2 s.length cp2)]) hf (by kernel_rfl) ?_
    clear hf; clear a; intro a hf
    refine wpList_nil ?_
    refine wp_ret ?_
    exact ret_ok hf (vs := [.slice ao2 s.length cp2]) (by kernel_rfl) ⟨ao2, cp2, _, rfl, hs.sel [0] rfl rfl⟩

set_option maxHeartbeats 4000000 in
theorem octets_Set_ok {w : World} {F : SH} {b : List Int} {p_at : Int} {n : Int} {p_x : Int} {ao1 : Option Addr} {cp1 : Nat} (hs : Sep w F (blks [.ro (tI .u8) (.slice ao1 b.length cp1) b]) w F [.ro (tI .u8) (.slice ao1 b.length cp1) b]) {r : (List Int) × Int} (hS : octets_Set b p_at n p_x = some r) :
    Calls Try.prog 14 [.slice ao1 b.length cp1, .int .u64 p_at, .int .i64 n, .int .u64 p_x].toArray w (Gives (fun u w' => ∃ (ao5 : Option Addr) (cp5 : Nat) (F' : SH), u = .tuple #[.slice ao5 r.1.length cp5, .int .i64 r.2] ∧ Sep w F (blks [.ro (tI .u8) (.slice ao1 b.length cp1) b]) w' F' [.row 5 (tI .u8) (.slice ao5 r.1.length cp5) r.1])) := by
  generalize (blks [.ro (tI .u8) (.slice ao1 b.length cp1) b]) = R at hs ⊢
  unfold octets_Set at hS
  refine fn_ok (vs := [.slice ao1 b.length cp1, .int .u64 p_at, .int .i64 n, .int .u64 p_x]) Try.func14 rfl 40 Try.ntmps14 (Nat.le_of_ble_eq_true rfl) ?_
  intro a hf
  replace hf := Fr.cast (L' := [(0, .slice ao1 b.length cp1), (1, .int .u64 p_at), (2, .int .i64 n), (3, .int .u64 p_x)]) hf (by kernel_rfl)
  refine sq ?_
  refine reg ?_
  refine st tbOk 2 [0, 1, 2, 3] (L' := [(0, .slice ao1 b.length cp1), (1, .int .u64 p_at), (2, .int .i64 n), (3, .int .u64 p_x)]) hf (by kernel_rfl) ?_
  clear hf; clear a; intro a hf
  refine wpList_nil ?_
  refine sq ?_
  refine sq ?_
  refine reg ?_
  refine st tbOk 3 [0, 1, 2, 3, 13, 14, 15] (L' := [(0, .slice ao1 b.length cp1), (1, .int .u64 p_at), (2, .int .i64 n), (3, .int .u64 p_x), (13, .slice ao1 b.length cp1), (14, .int .u64 p_at), (15, .int .i64 n)]) hf (by kernel_rfl) ?_
  clear hf; clear a; intro a hf
  have hT := of_bd hS; clear hS; obtain ⟨z1, hz1, hS⟩ := hT
  refine clV ent24 (vs := [.slice ao1 b.length cp1, .int .u64 p_at, .int .i64 n]) (caps := []) hf (by kernel_rfl) (by kernel_rfl) (by kernel_rfl) (by kernel_rfl) (octets_fits_ok (b := b) (p_at := p_at) (n := n) (hs.enter [0] rfl rfl) hz1) ?_
  clear hf; clear a; intro v w1 a hT hf; obtain ⟨F1, rfl, hr⟩ := hT
  replace hs : Sep w F R w1 F1 [.ro (tI .u8) (.slice ao1 b.length cp1) b] := hs.back [0] [0] rfl rfl rfl rfl hr
  clear hr
  replace hf := Fr.keep (ks := [0, 1, 2, 3, 16]) (L' := [(0, .slice ao1 b.length cp1), (1, .int .u64 p_at), (2, .int .i64 n), (3, .int .u64 p_x), (16, .int .i64 z1)]) hf (by kernel_rfl)
  refine st tbOk 1 [0, 1, 2, 3, 10] (L' := [(0, .slice ao1 b.length cp1), (1, .int .u64 p_at), (2, .int .i64 n), (3, .int .u64 p_x), (10, .int .i64 z1)]) hf (by kernel_rfl) ?_
  clear hf; clear a; intro a hf
  refine wpList_nil ?_
  refine sq ?_
  refine reg ?_
  refine st tbOk 2 [0, 1, 2, 3, 10, 18] (L' := [(0, .slice ao1 b.length cp1), (1, .int .u64 p_at), (2, .int .i64 n), (3, .int .u64 p_x), (10, .int .i64 z1), (18, .bool (z1 != 0))]) hf (by kernel_rfl) ?_
  clear hf; clear a; intro a hf
  refine wpList_nil ?_
  refine cnd (b := z1 != 0) hf (by kernel_rfl) (fun hb1 => ?_) (fun hb1 => ?_)
  · replace hS := of_t hb1 hS
    refine sq ?_
    refine reg ?_
    refine st tbOk 3 [8, 9] (L' := [(8, .slice none 0 0), (9, .int .i64 z1)]) hf (by kernel_rfl) ?_
    clear hf; clear a; intro a hf
    refine wpList_nil ?_
    have hr := Option.some.inj hS; subst hr
    refine wp_ret ?_
    replace hs : Sep w F R w1 F1 [.row 5 (tI .u8) (.slice none 0 0) ([] : List Int), .ro (tI .u8) (.slice ao1 b.length cp1) b] := hs.addNil 5 (tI .u8)
    exact ret_ok hf (vs := [.slice none 0 0, .int .i64 z1]) (by kernel_rfl) ⟨none, 0, _, rfl, hs.sel [0] rfl rfl⟩
  · replace hS := of_f hb1 hS
    refine wp_skip ?_
    refine sq ?_
    refine reg ?_
    refine st tbOk 1 [1, 2, 3, 20] (L' := [(1, .int .u64 p_at), (2, .int .i64 n), (3, .int .u64 p_x), (20, .slice ao1 b.length cp1)]) hf (by kernel_rfl) ?_
    clear hf; clear a; intro a hf
    have hT := of_bd hS; clear hS; obtain ⟨z2, hz2, hS⟩ := hT
    refine clV ent27 (vs := [.slice ao1 b.length cp1]) (caps := []) hf (by kernel_rfl) (by kernel_rfl) (by kernel_rfl) (by kernel_rfl) (slices_Clone_byte_byte_ok (s := b) (hs.enter [0] rfl rfl) hz2) ?_
    clear hf; clear a; intro v w2 a hT hf; obtain ⟨ao2, cp2, F2, rfl, hr⟩ := hT
    replace hs : Sep w F R w2 F2 [.row 5 (tI .u8) (.slice ao2 z2.length cp2) z2, .ro (tI .u8) (.slice ao1 b.length cp1) b] := hs.back [0] [0] rfl rfl rfl rfl hr
    clear hr
    replace hs : Sep w F R w2 F2 [.row 5 (tI .u8) (.slice ao2 z2.length cp2) z2] := hs.sel [0] rfl rfl
    replace hf := Fr.keep (ks := [1, 2, 3, 21]) (L' := [(1, .int .u64 p_at), (2, .int .i64 n), (3, .int .u64 p_x), (21, .slice ao2 z2.length cp2)]) hf (by kernel_rfl)
    refine st tbOk 1 [1, 2, 3, 11] (L' := [(1, .int .u64 p_at), (2, .int .i64 n), (3, .int .u64 p_x), (11, .slice ao2 z2.length cp2)]) hf (by kernel_rfl) ?_
    clear hf; clear a; intro a hf
    refine wpList_nil ?_
    refine sq ?_
    refine sq ?_
    refine reg ?_
    refine st tbOk 2 [1, 3, 11, 22, 23] (L' := [(1, .int .u64 p_at), (3, .int .u64 p_x), (11, .slice ao2 z2.length cp2), (22, .int .i64 n), (23, .int .i64 0)]) hf (by kernel_rfl) ?_
    clear hf; clear a; intro a hf
    refine wpList_nil ?_
    refine ctj (fun (s1 : List Int) (a : Act) (w' : World) => ∃ (ao3 : Option Addr) (cp3 : Nat) (F3 : SH), Sep w F R w' F3 [.row 5 (tI .u8) (.slice ao3 s1.length cp3) s1] ∧ Fr 40 [(11, .slice ao3 s1.length cp3)] a) hS ?_ ?_
    · clear hS hf hs; clear a; intro s1 a w5 hM hS
      obtain ⟨ao3, cp3, F3, hs, hf⟩ := hM
      refine sq ?_
      refine reg ?_
      refine st tbOk 3 [8, 9] (L' := [(8, .slice ao3 s1.length cp3), (9, .int .i64 0)]) hf (by kernel_rfl) ?_
      clear hf; clear a; intro a hf
      refine wpList_nil ?_
      have hr := Option.some.inj hS; subst hr
      refine wp_ret ?_
      exact ret_ok hf (vs := [.slice ao3 s1.length cp3, .int .i64 0]) (by kernel_rfl) ⟨ao3, cp3, _, rfl, hs.sel [0] rfl rfl⟩
    · clear hS; intro KK1 k1 hK1 hS
      refine blk ?_
      refine lp (st := (0, z2)) (fun (s2 : Int × (List Int)) (a : Act) (w' : World) => ∃ (ao4 : Option Addr) (cp4 : Nat) (F4 : SH), Sep w F R w' F4 [.row 5 (tI .u8) (.slice ao4 s2.2.length cp4) s2.2] ∧ Fr 40 [(1, .int .u64 p_at), (3, .int .u64 p_x), (11, .slice ao4 s2.2.length cp4), (22, .int .i64 n), (23, .int .i64 s2.1)] a) ?_ ⟨ao2, cp2, _, hs.sel [0] rfl rfl, hf.keep (ks := [1, 3, 11, 22, 23]) (by kernel_rfl)⟩ hS
      clear hS hf hs; clear a
      intro rec1 KK2 hK2 s2 a w3 hM hS
      obtain ⟨ao4, cp4, F4, hs, hf⟩ := hM
      refine sq ?_
      refine reg ?_
      refine st tbOk 1 [1, 3, 11, 22, 23, 24] (L' := [(1, .int .u64 p_at), (3, .int .u64 p_x), (11, .slice ao4 s2.2.length cp4), (22, .int .i64 n), (23, .int .i64 s2.1), (24, .bool (decide (s2.1 < n)))]) hf (by kernel_rfl) ?_
      clear hf; clear a; intro a hf
      refine wpList_nil ?_
      refine sq ?_
      refine cnd (b := decide (s2.1 < n)) hf (by kernel_rfl) (fun hb2 => ?_) (fun hb2 => ?_)
      · replace hS := of_t hb2 hS
        refine wp_skip ?_
        refine sq ?_
        refine blk ?_
        refine sq ?_
        refine reg ?_
        refine st tbOk 2 [1, 3, 11, 12, 22, 23] (L' := [(1, .int .u64 p_at), (3, .int .u64 p_x), (11, .slice ao4 s2.2.length cp4), (12, .int .i64 s2.1), (22, .int .i64 n), (23, .int .i64 s2.1)]) hf (by kernel_rfl) ?_
        clear hf; clear a; intro a hf
        refine wpList_nil ?_
        refine reg ?_
        refine st tbOk 9 [1, 3, 11, 22, 23, 26, 30, 31, 34] (L' := [(1, .int .u64 p_at), (3, .int .u64 p_x), (11, .slice ao4 s2.2.length cp4), (22, .int .i64 n), (23, .int .i64 s2.1), (26, .slice ao4 s2.2.length cp4), (30, .int .i64 (IntKind.i64.wrap ((IntKind.i64.wrap p_at) + s2.1))), (31, .int .u64 p_x), (34, .int .u64 (IntKind.u64.wrap (IntKind.i64.wrap (8 * s2.1))))]) hf (by kernel_rfl) ?_
        clear hf; clear a; intro a hf
        have hT := of_gd hS; clear hS; obtain ⟨hc1, hS⟩ := hT
        refine bin (run_shr (k := .u64) (k' := .u64) (x := p_x) hc1 _) hf (by kernel_rfl) (by kernel_rfl) (by kernel_rfl) (by kernel_rfl) ?_
        clear hf; clear a; intro a hf
        replace hf := Fr.keep (ks := [1, 3, 11, 22, 23, 26, 30, 35]) (L' := [(1, .int .u64 p_at), (3, .int .u64 p_x), (11, .slice ao4 s2.2.length cp4), (22, .int .i64 n), (23, .int .i64 s2.1), (26, .slice ao4 s2.2.length cp4), (30, .int .i64 (IntKind.i64.wrap ((IntKind.i64.wrap p_at) + s2.1))), (35, .int .u64 (shr .u64 p_x (IntKind.u64.wrap (IntKind.i64.wrap (8 * s2.1)))))]) hf (by kernel_rfl)
        refine st tbOk 1 [1, 3, 11, 22, 23, 26, 30, 36] (L' := [(1, .int .u64 p_at), (3, .int .u64 p_x), (11, .slice ao4 s2.2.length cp4), (22, .int .i64 n), (23, .int .i64 s2.1), (26, .slice ao4 s2.2.length cp4), (30, .int .i64 (IntKind.i64.wrap ((IntKind.i64.wrap p_at) + s2.1))), (36, .int .u8 (IntKind.u8.wrap (shr .u64 p_x (IntKind.u64.wrap (IntKind.i64.wrap (8 * s2.1))))))]) hf (by kernel_rfl) ?_
        clear hf; clear a; intro a hf
        have hT := of_gd hS; clear hS; obtain ⟨hc2, hS⟩ := hT
        refine ixW tbOk u22 i5 (hs.own 0 rfl) (k := .i64) (n := IntKind.i64.wrap ((IntKind.i64.wrap p_at) + s2.1)) hc2 hf (by kernel_rfl) (by kernel_rfl) (by kernel_rfl) (by kernel_rfl) ?_
        clear hf; clear a; intro pb1 po1 a hq1 hf
        replace hf := Fr.keep (ks := [1, 3, 11, 22, 23, 36, 37]) (L' := [(1, .int .u64 p_at), (3, .int .u64 p_x), (11, .slice ao4 s2.2.length cp4), (22, .int .i64 n), (23, .int .i64 s2.1), (36, .int .u8 (IntKind.u8.wrap (shr .u64 p_x (IntKind.u64.wrap (IntKind.i64.wrap (8 * s2.1)))))), (37, .pointer (some ⟨pb1, po1, none⟩))]) hf (by kernel_rfl)
        refine stW tbOk i5 rfl (hs.own 0 rfl) hc2 0 hq1 [.int .u8 (IntKind.u8.wrap (shr .u64 p_x (IntKind.u64.wrap (IntKind.i64.wrap (8 * s2.1)))))] (z := IntKind.u8.wrap (shr .u64 p_x (IntKind.u64.wrap (IntKind.i64.wrap (8 * s2.1))))) (fun _ e => (congrArg (fun c => spl c 0 [.int .u8 (IntKind.u8.wrap (shr .u64 p_x (IntKind.u64.wrap (IntKind.i64.wrap (8 * s2.1)))))]) e).trans rfl) (u := .int .u8 (IntKind.u8.wrap (shr .u64 p_x (IntKind.u64.wrap (IntKind.i64.wrap (8 * s2.1)))))) rfl rfl (by kernel_rfl) (by kernel_rfl) hf (by kernel_rfl) (by kernel_rfl) (by kernel_rfl) ?_
        clear hf; clear a; intro w4 a ho hg hf
        replace hs := hs.updRow 0 rfl ho hg (fun _ h => .inl h)
        clear ho hg
        replace hs : Sep w F R w4 F4 [.row 5 (tI .u8) (.slice ao4 (s2.2.set (Int.toNat (IntKind.i64.wrap ((IntKind.i64.wrap p_at) + s2.1))) (IntKind.u8.wrap (shr .u64 p_x (IntKind.u64.wrap (IntKind.i64.wrap (8 * s2.1)))))).length cp4) (s2.2.set (Int.toNat (IntKind.i64.wrap ((IntKind.i64.wrap p_at) + s2.1))) (IntKind.u8.wrap (shr .u64 p_x (IntKind.u64.wrap (IntKind.i64.wrap (8 * s2.1))))))] := Sep.cast hs (by simp only [List.length_set]; rfl)
        replace hf := Fr.cast (L' := [(1, .int .u64 p_at), (3, .int .u64 p_x), (11, .slice ao4 (s2.2.set (Int.toNat (IntKind.i64.wrap ((IntKind.i64.wrap p_at) + s2.1))) (IntKind.u8.wrap (shr .u64 p_x (IntKind.u64.wrap (IntKind.i64.wrap (8 * s2.1)))))).length cp4), (22, .int .i64 n), (23, .int .i64 s2.1), (36, .int .u8 (IntKind.u8.wrap (shr .u64 p_x (IntKind.u64.wrap (IntKind.i64.wrap (8 * s2.1)))))), (37, .pointer (some ⟨pb1, po1, none⟩))]) hf (by simp only [List.length_set])
        replace hf := Fr.keep (ks := [1, 3, 11, 22, 23]) (L' := [(1, .int .u64 p_at), (3, .int .u64 p_x), (11, .slice ao4 (s2.2.set (Int.toNat (IntKind.i64.wrap ((IntKind.i64.wrap p_at) + s2.1))) (IntKind.u8.wrap (shr .u64 p_x (IntKind.u64.wrap (IntKind.i64.wrap (8 * s2.1)))))).length cp4), (22, .int .i64 n), (23, .int .i64 s2.1)]) hf (by kernel_rfl)
        refine wpList_nil ?_
        refine reg ?_
        refine st tbOk 2 [1, 3, 11, 22, 23] (L' := [(1, .int .u64 p_at), (3, .int .u64 p_x), (11, .slice ao4 (s2.2.set (Int.toNat (IntKind.i64.wrap ((IntKind.i64.wrap p_at) + s2.1))) (IntKind.u8.wrap (shr .u64 p_x (IntKind.u64.wrap (IntKind.i64.wrap (8 * s2.1)))))).length cp4), (22, .int .i64 n), (23, .int .i64 (IntKind.i64.wrap (s2.1 + 1)))]) hf (by kernel_rfl) ?_
        clear hf; clear a; intro a hf
        refine wpList_nil ?_
        exact hK2 (IntKind.i64.wrap (s2.1 + 1), (s2.2.set (Int.toNat (IntKind.i64.wrap ((IntKind.i64.wrap p_at) + s2.1))) (IntKind.u8.wrap (shr .u64 p_x (IntKind.u64.wrap (IntKind.i64.wrap (8 * s2.1))))))) _ _ ⟨ao4, cp4, _, hs.sel [0] rfl rfl, hf.keep (ks := [1, 3, 11, 22, 23]) (by kernel_rfl)⟩ hS
      · replace hS := of_f hb2 hS
        refine wp_exit ?_
        exact hK1 s2.2 _ _ ⟨ao4, cp4, _, hs.sel [0] rfl rfl, hf.keep (ks := [11]) (by kernel_rfl)⟩ hS

set_option maxHeartbeats 4000000 in
theorem octets_Cut_ok {w : World} {F : SH} {b : List Int} {p_at : Int} {size : Int} {ao1 : Option Addr} {cp1 : Nat} (hs : Sep w F (blks [.ro (tI .u8) (.slice ao1 b.length cp1) b]) w F [.ro (tI .u8) (.slice ao1 b.length cp1) b]) {r : (List Int) × Int} (hS : octets_Cut b p_at size = some r) :
    Calls Try.prog 16 [.slice ao1 b.length cp1, .int .u64 p_at, .int .u64 size].toArray w (Gives (fun u w' => ∃ (ao4 : Option Addr) (cp4 : Nat) (F' : SH), u = .tuple #[.slice ao4 r.1.length cp4, .int .i64 r.2] ∧ Sep w F (blks [.ro (tI .u8) (.slice ao1 b.length cp1) b]) w' F' [.row 5 (tI .u8) (.slice ao4 r.1.length cp4) r.1])) := by
  generalize (blks [.ro (tI .u8) (.slice ao1 b.length cp1) b]) = R at hs ⊢
  unfold octets_Cut at hS
  refine fn_ok (vs := [.slice ao1 b.length cp1, .int .u64 p_at, .int .u64 size]) Try.func16 rfl 21 Try.ntmps16 (Nat.le_of_ble_eq_true rfl) ?_
  intro a hf
  replace hf := Fr.cast (L' := [(0, .slice ao1 b.length cp1), (1, .int .u64 p_at), (2, .int .u64 size)]) hf (by kernel_rfl)
  refine sq ?_
  refine reg ?_
  refine st tbOk 2 [0, 1, 2] (L' := [(0, .slice ao1 b.length cp1), (1, .int .u64 p_at), (2, .int .u64 size)]) hf (by kernel_rfl) ?_
  clear hf; clear a; intro a hf
  refine wpList_nil ?_
  refine sq ?_
  refine sq ?_
  refine reg ?_
  refine st tbOk 4 [0, 1, 2, 9, 10, 11] (L' := [(0, .slice ao1 b.length cp1), (1, .int .u64 p_at), (2, .int .u64 size), (9, .int .i64 ((b.length : Nat) : Int)), (10, .int .u64 p_at), (11, .int .u64 size)]) hf (by kernel_rfl) ?_
  clear hf; clear a; intro a hf
  have hT := of_bd hS; clear hS; obtain ⟨z1, hz1, hS⟩ := hT
  refine clV ent28 (vs := [.int .i64 ((b.length : Nat) : Int), .int .u64 p_at, .int .u64 size]) (caps := []) hf (by kernel_rfl) (by kernel_rfl) (by kernel_rfl) (by kernel_rfl) (octets_has_ok (p_many := ((b.length : Nat) : Int)) (p_at := p_at) (size := size) (hs.enter [] rfl rfl) hz1) ?_
  clear hf; clear a; intro v w1 a hT hf; obtain ⟨F1, rfl, hr⟩ := hT
  replace hs : Sep w F R w1 F1 [.ro (tI .u8) (.slice ao1 b.length cp1) b] := hs.back [] [0] rfl rfl rfl rfl hr
  clear hr
  replace hf := Fr.keep (ks := [0, 1, 2, 12]) (L' := [(0, .slice ao1 b.length cp1), (1, .int .u64 p_at), (2, .int .u64 size), (12, .bool z1)]) hf (by kernel_rfl)
  refine st tbOk 1 [0, 1, 2, 13] (L' := [(0, .slice ao1 b.length cp1), (1, .int .u64 p_at), (2, .int .u64 size), (13, .bool (!z1))]) hf (by kernel_rfl) ?_
  clear hf; clear a; intro a hf
  refine wpList_nil ?_
  refine cnd (b := !z1) hf (by kernel_rfl) (fun hb1 => ?_) (fun hb1 => ?_)
  · replace hS := of_t hb1 hS
    refine sq ?_
    refine reg ?_
    refine st tbOk 2 [6, 7] (L' := [(6, .slice none 0 0), (7, .int .i64 10)]) hf (by kernel_rfl) ?_
    clear hf; clear a; intro a hf
    refine wpList_nil ?_
    have hr := Option.some.inj hS; subst hr
    refine wp_ret ?_
    replace hs : Sep w F R w1 F1 [.row 5 (tI .u8) (.slice none 0 0) ([] : List Int), .ro (tI .u8) (.slice ao1 b.length cp1) b] := hs.addNil 5 (tI .u8)
    exact ret_ok hf (vs := [.slice none 0 0, .int .i64 10]) (by kernel_rfl) ⟨none, 0, _, rfl, hs.sel [0] rfl rfl⟩
  · replace hS := of_f hb1 hS
    refine wp_skip ?_
    refine sq ?_
    refine reg ?_
    refine st tbOk 5 [14, 15, 18] (L' := [(14, .slice ao1 b.length cp1), (15, .int .u64 p_at), (18, .int .u64 (IntKind.u64.wrap (p_at + size)))]) hf (by kernel_rfl) ?_
    clear hf; clear a; intro a hf
    have hT := of_gd hS; clear hS; obtain ⟨hc1, hS⟩ := hT
    refine sl tbOk u22 i5 rfl (hs.ro 0 rfl) (lo := p_at) (hi := IntKind.u64.wrap (p_at + size)) (m := 0) hc1 (.inr ⟨_, .u64, rfl, by kernel_rfl⟩) (.inr ⟨_, .u64, rfl, by kernel_rfl⟩) (.inl rfl) hf (by kernel_rfl) (by kernel_rfl) (by kernel_rfl) ?_
    clear hf; clear a; intro ao2 cp2 a hr1 hf
    replace hs : Sep w F R w1 F1 [.ro (tI .u8) (.slice ao2 (cutL b p_at (IntKind.u64.wrap (p_at + size))).length cp2) (cutL b p_at (IntKind.u64.wrap (p_at + size))), .ro (tI .u8) (.slice ao1 b.length cp1) b] := hs.addRo hr1
    replace hs : Sep w F R w1 F1 [.ro (tI .u8) (.slice ao2 (cutL b p_at (IntKind.u64.wrap (p_at + size))).length cp2) (cutL b p_at (IntKind.u64.wrap (p_at + size)))] := hs.sel [0] rfl rfl
    replace hf := Fr.keep (ks := [19]) (L' := [(19, .slice ao2 (cutL b p_at (IntKind.u64.wrap (p_at + size))).length cp2)]) hf (by kernel_rfl)
    have hT := of_bd hS; clear hS; obtain ⟨z2, hz2, hS⟩ := hT
    refine clV ent27 (vs := [.slice ao2 (cutL b p_at (IntKind.u64.wrap (p_at + size))).length cp2]) (caps := []) hf (by kernel_rfl) (by kernel_rfl) (by kernel_rfl) (by kernel_rfl) (slices_Clone_byte_byte_ok (s := (cutL b p_at (IntKind.u64.wrap (p_at + size)))) (hs.enter [0] rfl rfl) hz2) ?_
    clear hf; clear a; intro v w2 a hT hf; obtain ⟨ao3, cp3, F2, rfl, hr⟩ := hT
    replace hs : Sep w F R w2 F2 [.row 5 (tI .u8) (.slice ao3 z2.length cp3) z2, .ro (tI .u8) (.slice ao2 (cutL b p_at (IntKind.u64.wrap (p_at + size))).length cp2) (cutL b p_at (IntKind.u64.wrap (p_at + size)))] := hs.back [0] [0] rfl rfl rfl rfl hr
    clear hr
    replace hs : Sep w F R w2 F2 [.row 5 (tI .u8) (.slice ao3 z2.length cp3) z2] := hs.sel [0] rfl rfl
    replace hf := Fr.keep (ks := [20]) (L' := [(20, .slice ao3 z2.length cp3)]) hf (by kernel_rfl)
    refine st tbOk 2 [6, 7] (L' := [(6, .slice ao3 z2.length cp3), (7, .int .i64 0)]) hf (by kernel_rfl) ?_
    clear hf; clear a; intro a hf
    refine wpList_nil ?_
    have hr := Option.some.inj hS; subst hr
    refine wp_ret ?_
    exact ret_ok hf (vs := [.slice ao3 z2.length cp3, .int .i64 0]) (by kernel_rfl) ⟨ao3, cp3, _, rfl, hs.sel [0] rfl rfl⟩

set_option maxHeartbeats 4000000 in
theorem octets_Down_ok {w : World} {F : SH} {p_x : Int} {p_a : Int}  (hs : Sep w F (blks []) w F []) {r : Int × Int} (hS : octets_Down p_x p_a = some r) :
    Calls Try.prog 20 [.int .u64 p_x, .int .u64 p_a].toArray w (Gives (fun u w' => ∃ (F' : SH), u = .tuple #[.int .u64 r.1, .int .i64 r.2] ∧ Sep w F (blks []) w' F' [])) := by
  generalize (blks []) = R at hs ⊢
  unfold octets_Down at hS
  refine fn_ok (vs := [.int .u64 p_x, .int .u64 p_a]) Try.func20 rfl 19 Try.ntmps20 (Nat.le_of_ble_eq_true rfl) ?_
  intro a hf
  replace hf := Fr.cast (L' := [(0, .int .u64 p_x), (1, .int .u64 p_a)]) hf (by kernel_rfl)
  refine sq ?_
  refine reg ?_
  refine st tbOk 2 [0, 1] (L' := [(0, .int .u64 p_x), (1, .int .u64 p_a)]) hf (by kernel_rfl) ?_
  clear hf; clear a; intro a hf
  refine wpList_nil ?_
  refine sq ?_
  refine sq ?_
  refine ctj (fun (s1 : Bool) (a : Act) (w' : World) => ∃ (F1 : SH), Sep w F R w' F1 [] ∧ Fr 19 [(0, .int .u64 p_x), (1, .int .u64 p_a), (14, .bool s1)] a) hS ?_ ?_
  · clear hS hf hs; clear a; intro s1 a w1 hM hS
    obtain ⟨F1, hs, hf⟩ := hM
    refine cnd (b := s1) hf (by kernel_rfl) (fun hb2 => ?_) (fun hb2 => ?_)
    · replace hS := of_t hb2 hS
      refine sq ?_
      refine reg ?_
      refine st tbOk 2 [4, 5] (L' := [(4, .int .u64 0), (5, .int .i64 1)]) hf (by kernel_rfl) ?_
      clear hf; clear a; intro a hf
      refine wpList_nil ?_
      have hr := Option.some.inj hS; subst hr
      refine wp_ret ?_
      exact ret_ok hf (vs := [.int .u64 0, .int .i64 1]) (by kernel_rfl) ⟨_, rfl, hs.sel [] rfl rfl⟩
    · replace hS := of_f hb2 hS
      refine wp_skip ?_
      refine sq ?_
      refine reg ?_
      refine st tbOk 6 [4, 5] (L' := [(4, .int .u64 (bandn .u64 p_x (IntKind.u64.wrap (p_a - 1)))), (5, .int .i64 0)]) hf (by kernel_rfl) ?_
      clear hf; clear a; intro a hf
      refine wpList_nil ?_
      have hr := Option.some.inj hS; subst hr
      refine wp_ret ?_
      exact ret_ok hf (vs := [.int .u64 (bandn .u64 p_x (IntKind.u64.wrap (p_a - 1))), .int .i64 0]) (by kernel_rfl) ⟨_, rfl, hs.sel [] rfl rfl⟩
  · clear hS; intro KK1 k1 hK1 hS
    refine reg ?_
    refine st tbOk 3 [0, 1, 8] (L' := [(0, .int .u64 p_x), (1, .int .u64 p_a), (8, .bool (p_a == 0))]) hf (by kernel_rfl) ?_
    clear hf; clear a; intro a hf
    rcases Bool.eq_false_or_eq_true (p_a == 0) with hb1 | hb1
    · replace hS := of_t hb1 hS
      replace hf := Fr.cast (L' := [(0, .int .u64 p_x), (1, .int .u64 p_a), (8, .bool true)]) hf (by rw [hb1])
      refine st tbOk 6 [0, 1, 14] (L' := [(0, .int .u64 p_x), (1, .int .u64 p_a), (14, .bool true)]) hf (by kernel_rfl) ?_
      clear hf; clear a; intro a hf
      refine wpList_nil ?_
      exact hK1 true _ _ ⟨_, hs.sel [] rfl rfl, hf.keep (ks := [0, 1, 14]) (by kernel_rfl)⟩ hS
    · replace hS := of_f hb1 hS
      replace hf := Fr.cast (L' := [(0, .int .u64 p_x), (1, .int .u64 p_a), (8, .bool false)]) hf (by rw [hb1])
      refine st tbOk 6 [0, 1, 14] (L' := [(0, .int .u64 p_x), (1, .int .u64 p_a), (14, .bool ((band .u64 p_a (IntKind.u64.wrap (p_a - 1))) != 0))]) hf (by kernel_rfl) ?_
      clear hf; clear a; intro a hf
      refine wpList_nil ?_
      exact hK1 ((band .u64 p_a (IntKind.u64.wrap (p_a - 1))) != 0) _ _ ⟨_, hs.sel [] rfl rfl, hf.keep (ks := [0, 1, 14]) (by kernel_rfl)⟩ hS

set_option maxHeartbeats 4000000 in
theorem octets_Up_ok {w : World} {F : SH} {p_x : Int} {p_a : Int}  (hs : Sep w F (blks []) w F []) {r : Int × Int} (hS : octets_Up p_x p_a = some r) :
    Calls Try.prog 18 [.int .u64 p_x, .int .u64 p_a].toArray w (Gives (fun u w' => ∃ (F' : SH), u = .tuple #[.int .u64 r.1, .int .i64 r.2] ∧ Sep w F (blks []) w' F' [])) := by
  generalize (blks []) = R at hs ⊢
  unfold octets_Up at hS
  refine fn_ok (vs := [.int .u64 p_x, .int .u64 p_a]) Try.func18 rfl 32 Try.ntmps18 (Nat.le_of_ble_eq_true rfl) ?_
  intro a hf
  replace hf := Fr.cast (L' := [(0, .int .u64 p_x), (1, .int .u64 p_a)]) hf (by kernel_rfl)
  refine sq ?_
  refine reg ?_
  refine st tbOk 2 [0, 1] (L' := [(0, .int .u64 p_x), (1, .int .u64 p_a)]) hf (by kernel_rfl) ?_
  clear hf; clear a; intro a hf
  refine wpList_nil ?_
  refine sq ?_
  refine reg ?_
  refine st tbOk 2 [0, 1, 9, 10] (L' := [(0, .int .u64 p_x), (1, .int .u64 p_a), (9, .int .u64 p_x), (10, .int .u64 p_a)]) hf (by kernel_rfl) ?_
  clear hf; clear a; intro a hf
  have hT := of_bd hS; clear hS; obtain ⟨z1, hz1, hS⟩ := hT
  refine clV ent20 (vs := [.int .u64 p_x, .int .u64 p_a]) (caps := []) hf (by kernel_rfl) (by kernel_rfl) (by kernel_rfl) (by kernel_rfl) (octets_Down_ok (p_x := p_x) (p_a := p_a) (hs.enter [] rfl rfl) hz1) ?_
  clear hf; clear a; intro v w1 a hT hf; obtain ⟨F1, rfl, hr⟩ := hT
  replace hs : Sep w F R w1 F1 [] := hs.back [] [] rfl rfl rfl rfl hr
  clear hr
  replace hf := Fr.keep (ks := [0, 1, 11]) (L' := [(0, .int .u64 p_x), (1, .int .u64 p_a), (11, .tuple #[.int .u64 z1.1, .int .i64 z1.2])]) hf (by kernel_rfl)
  refine st tbOk 5 [0, 1, 6, 7] (L' := [(0, .int .u64 p_x), (1, .int .u64 p_a), (6, .int .u64 z1.1), (7, .int .i64 z1.2)]) hf (by kernel_rfl) ?_
  clear hf; clear a; intro a hf
  refine wpList_nil ?_
  refine sq ?_
  refine blk ?_
  refine sq ?_
  refine ctj (fun (s1 : Bool) (a : Act) (w' : World) => ∃ (F2 : SH), Sep w F R w' F2 [] ∧ Fr 32 [(1, .int .u64 p_a), (6, .int .u64 z1.1), (7, .int .i64 z1.2), (14, .bool s1)] a) hS ?_ ?_
  · clear hS hf hs; clear a; intro s1 a w2 hM hS
    obtain ⟨F2, hs, hf⟩ := hM
    refine cnd (b := s1) hf (by kernel_rfl) (fun hb2 => ?_) (fun hb2 => ?_)
    · replace hS := of_t hb2 hS
      refine sq ?_
      refine reg ?_
      refine st tbOk 4 [4, 5] (L' := [(4, .int .u64 z1.1), (5, .int .i64 z1.2)]) hf (by kernel_rfl) ?_
      clear hf; clear a; intro a hf
      refine wpList_nil ?_
      have hr := Option.some.inj hS; subst hr
      refine wp_ret ?_
      exact ret_ok hf (vs := [.int .u64 z1.1, .int .i64 z1.2]) (by kernel_rfl) ⟨_, rfl, hs.sel [] rfl rfl⟩
    · replace hS := of_f hb2 hS
      refine sq ?_
      refine reg ?_
      refine st tbOk 5 [1, 6, 24] (L' := [(1, .int .u64 p_a), (6, .int .u64 z1.1), (24, .bool ((IntKind.u64.wrap (z1.1 + p_a)) == 0))]) hf (by kernel_rfl) ?_
      clear hf; clear a; intro a hf
      refine wpList_nil ?_
      refine cnd (b := (IntKind.u64.wrap (z1.1 + p_a)) == 0) hf (by kernel_rfl) (fun hb3 => ?_) (fun hb3 => ?_)
      · replace hS := of_t hb3 hS
        refine sq ?_
        refine reg ?_
        refine st tbOk 2 [4, 5] (L' := [(4, .int .u64 0), (5, .int .i64 10)]) hf (by kernel_rfl) ?_
        clear hf; clear a; intro a hf
        refine wpList_nil ?_
        have hr := Option.some.inj hS; subst hr
        refine wp_ret ?_
        exact ret_ok hf (vs := [.int .u64 0, .int .i64 10]) (by kernel_rfl) ⟨_, rfl, hs.sel [] rfl rfl⟩
      · replace hS := of_f hb3 hS
        refine wp_skip ?_
        refine sq ?_
        refine reg ?_
        refine st tbOk 5 [4, 5] (L' := [(4, .int .u64 (IntKind.u64.wrap (z1.1 + p_a))), (5, .int .i64 0)]) hf (by kernel_rfl) ?_
        clear hf; clear a; intro a hf
        refine wpList_nil ?_
        have hr := Option.some.inj hS; subst hr
        refine wp_ret ?_
        exact ret_ok hf (vs := [.int .u64 (IntKind.u64.wrap (z1.1 + p_a)), .int .i64 0]) (by kernel_rfl) ⟨_, rfl, hs.sel [] rfl rfl⟩
  · clear hS; intro KK1 k1 hK1 hS
    refine reg ?_
    refine st tbOk 3 [0, 1, 6, 7, 17] (L' := [(0, .int .u64 p_x), (1, .int .u64 p_a), (6, .int .u64 z1.1), (7, .int .i64 z1.2), (17, .bool (z1.2 != 0))]) hf (by kernel_rfl) ?_
    clear hf; clear a; intro a hf
    rcases Bool.eq_false_or_eq_true (z1.2 != 0) with hb1 | hb1
    · replace hS := of_t hb1 hS
      replace hf := Fr.cast (L' := [(0, .int .u64 p_x), (1, .int .u64 p_a), (6, .int .u64 z1.1), (7, .int .i64 z1.2), (17, .bool true)]) hf (by rw [hb1])
      refine st tbOk 5 [1, 6, 7, 14] (L' := [(1, .int .u64 p_a), (6, .int .u64 z1.1), (7, .int .i64 z1.2), (14, .bool true)]) hf (by kernel_rfl) ?_
      clear hf; clear a; intro a hf
      refine wpList_nil ?_
      exact hK1 true _ _ ⟨_, hs.sel [] rfl rfl, hf.keep (ks := [1, 6, 7, 14]) (by kernel_rfl)⟩ hS
    · replace hS := of_f hb1 hS
      replace hf := Fr.cast (L' := [(0, .int .u64 p_x), (1, .int .u64 p_a), (6, .int .u64 z1.1), (7, .int .i64 z1.2), (17, .bool false)]) hf (by rw [hb1])
      refine st tbOk 5 [1, 6, 7, 14] (L' := [(1, .int .u64 p_a), (6, .int .u64 z1.1), (7, .int .i64 z1.2), (14, .bool (z1.1 == p_x))]) hf (by kernel_rfl) ?_
      clear hf; clear a; intro a hf
      refine wpList_nil ?_
      exact hK1 (z1.1 == p_x) _ _ ⟨_, hs.sel [] rfl rfl, hf.keep (ks := [1, 6, 7, 14]) (by kernel_rfl)⟩ hS

set_option maxHeartbeats 4000000 in
theorem octets_Meet_ok {w : World} {F : SH} {p_a : Int} {m : Int} {b : Int} {n : Int}  (hs : Sep w F (blks []) w F []) {r : Bool} (hS : octets_Meet p_a m b n = some r) :
    Calls Try.prog 23 [.int .u64 p_a, .int .u64 m, .int .u64 b, .int .u64 n].toArray w (Gives (fun u w' => ∃ (F' : SH), u = .bool r ∧ Sep w F (blks []) w' F' [])) := by
  generalize (blks []) = R at hs ⊢
  unfold octets_Meet at hS
  refine fn_ok (vs := [.int .u64 p_a, .int .u64 m, .int .u64 b, .int .u64 n]) Try.func23 rfl 25 Try.ntmps23 (Nat.le_of_ble_eq_true rfl) ?_
  intro a hf
  replace hf := Fr.cast (L' := [(0, .int .u64 p_a), (1, .int .u64 m), (2, .int .u64 b), (3, .int .u64 n)]) hf (by kernel_rfl)
  refine sq ?_
  refine reg ?_
  refine st tbOk 1 [0, 1, 2, 3] (L' := [(0, .int .u64 p_a), (1, .int .u64 m), (2, .int .u64 b), (3, .int .u64 n)]) hf (by kernel_rfl) ?_
  clear hf; clear a; intro a hf
  refine wpList_nil ?_
  refine sq ?_
  refine sq ?_
  refine reg ?_
  refine st tbOk 3 [0, 1, 2, 3, 11] (L' := [(0, .int .u64 p_a), (1, .int .u64 m), (2, .int .u64 b), (3, .int .u64 n), (11, .bool (decide (p_a > b)))]) hf (by kernel_rfl) ?_
  clear hf; clear a; intro a hf
  refine wpList_nil ?_
  refine ctj (fun (s1 : Int × Int × Int × Int) (a : Act) (w' : World) => ∃ (F1 : SH), Sep w F R w' F1 [] ∧ Fr 25 [(0, .int .u64 s1.1), (1, .int .u64 s1.2.1), (2, .int .u64 s1.2.2.1), (3, .int .u64 s1.2.2.2)] a) hS ?_ ?_
  · clear hS hf hs; clear a; intro s1 a w1 hM hS
    obtain ⟨F1, hs, hf⟩ := hM
    refine sq ?_
    refine ctj (fun (s2 : Bool) (a : Act) (w' : World) => ∃ (F2 : SH), Sep w F R w' F2 [] ∧ Fr 25 [(8, .bool s2)] a) hS ?_ ?_
    · clear hS hf hs; clear a; intro s2 a w2 hM hS
      obtain ⟨F2, hs, hf⟩ := hM
      have hr := Option.some.inj hS; subst hr
      refine wp_ret ?_
      exact ret_ok hf (vs := [.bool s2]) (by kernel_rfl) ⟨_, rfl, hs.sel [] rfl rfl⟩
    · clear hS; intro KK2 k2 hK2 hS
      refine reg ?_
      refine st tbOk 3 [0, 1, 2, 18] (L' := [(0, .int .u64 s1.1), (1, .int .u64 s1.2.1), (2, .int .u64 s1.2.2.1), (18, .bool (decide (s1.2.2.2 > 0)))]) hf (by kernel_rfl) ?_
      clear hf; clear a; intro a hf
      rcases Bool.eq_false_or_eq_true (decide (s1.2.2.2 > 0)) with hb2 | hb2
      · replace hS := of_t hb2 hS
        replace hf := Fr.cast (L' := [(0, .int .u64 s1.1), (1, .int .u64 s1.2.1), (2, .int .u64 s1.2.2.1), (18, .bool true)]) hf (by rw [hb2])
        refine st tbOk 7 [8] (L' := [(8, .bool (decide ((IntKind.u64.wrap (s1.2.2.1 - s1.1)) < s1.2.1)))]) hf (by kernel_rfl) ?_
        clear hf; clear a; intro a hf
        refine wpList_nil ?_
        exact hK2 (decide ((IntKind.u64.wrap (s1.2.2.1 - s1.1)) < s1.2.1)) _ _ ⟨_, hs.sel [] rfl rfl, hf.keep (ks := [8]) (by kernel_rfl)⟩ hS
      · replace hS := of_f hb2 hS
        replace hf := Fr.cast (L' := [(0, .int .u64 s1.1), (1, .int .u64 s1.2.1), (2, .int .u64 s1.2.2.1), (18, .bool false)]) hf (by rw [hb2])
        refine st tbOk 7 [8] (L' := [(8, .bool false)]) hf (by kernel_rfl) ?_
        clear hf; clear a; intro a hf
        refine wpList_nil ?_
        exact hK2 false _ _ ⟨_, hs.sel [] rfl rfl, hf.keep (ks := [8]) (by kernel_rfl)⟩ hS
  · clear hS; intro KK1 k1 hK1 hS
    refine cnd (b := decide (p_a > b)) hf (by kernel_rfl) (fun hb1 => ?_) (fun hb1 => ?_)
    · replace hS := of_t hb1 hS
      refine reg ?_
      refine st tbOk 8 [0, 1, 2, 3] (L' := [(0, .int .u64 b), (1, .int .u64 n), (2, .int .u64 p_a), (3, .int .u64 m)]) hf (by kernel_rfl) ?_
      clear hf; clear a; intro a hf
      refine wpList_nil ?_
      exact hK1 (b, n, p_a, m) _ _ ⟨_, hs.sel [] rfl rfl, hf.keep (ks := [0, 1, 2, 3]) (by kernel_rfl)⟩ hS
    · replace hS := of_f hb1 hS
      refine wp_skip ?_
      exact hK1 (p_a, m, b, n) _ _ ⟨_, hs.sel [] rfl rfl, hf.keep (ks := [0, 1, 2, 3]) (by kernel_rfl)⟩ hS

set_option maxHeartbeats 4000000 in
theorem law01_awake_ok {w : World} {F : SH}   (hs : Sep w F (blks []) w F []) {r : Bool} (hS : law01_awake = some r) :
    Calls Try.prog 11 [].toArray w (Gives (fun u w' => ∃ (F' : SH), u = .bool r ∧ Sep w F (blks []) w' F' [])) := by
  generalize (blks []) = R at hs ⊢
  unfold law01_awake at hS
  refine fn_ok (vs := []) Try.func11 rfl 81 Try.ntmps11 (Nat.le_of_ble_eq_true rfl) ?_
  intro a hf
  replace hf := Fr.cast (L' := []) hf (by kernel_rfl)
  refine sq ?_
  refine reg ?_
  refine st tbOk 1 [] (L' := []) hf (by kernel_rfl) ?_
  clear hf; clear a; intro a hf
  refine wpList_nil ?_
  refine sq ?_
  refine reg ?_
  refine bsR tbOk u22 i5 rfl (t := (tI .u8)) (vs := [(0, .int .u8 1), (1, .int .u8 2), (2, .int .u8 3), (3, .int .u8 4)]) (cells := #[.int .u8 1, .int .u8 2, .int .u8 3, .int .u8 4]) ([1, 2, 3, 4] : List Int) hs.le hf (by kernel_rfl) (by kernel_rfl) (by kernel_rfl) rfl (by kernel_rfl) (reps_flat _) rfl ?_
  clear hf; clear a; intro w1 a ho hx hf
  replace hs : Sep w F R w1 F [.row 5 (tI .u8) (.slice (some ⟨w.heap.size, 0, none⟩) ([1, 2, 3, 4] : List Int).length ([1, 2, 3, 4] : List Int).length) ([1, 2, 3, 4] : List Int)] := hs.newRow ho hx
  clear ho hx
  replace hf := Fr.keep (ks := [12]) (L' := [(12, .slice (some ⟨w.heap.size, 0, none⟩) ([1, 2, 3, 4] : List Int).length ([1, 2, 3, 4] : List Int).length)]) hf (by kernel_rfl)
  have hT := of_bd hS; clear hS; obtain ⟨z1, hz1, hS⟩ := hT
  refine clV ent12 (vs := [.slice (some ⟨w.heap.size, 0, none⟩) ([1, 2, 3, 4] : List Int).length ([1, 2, 3, 4] : List Int).length, .int .u64 1, .int .i64 2]) (caps := []) hf (by kernel_rfl) (by kernel_rfl) (by kernel_rfl) (by kernel_rfl) (octets_Get_ok (b := ([1, 2, 3, 4] : List Int)) (p_at := 1) (n := 2) (hs.lend [0] [] rfl rfl rfl rfl rfl) hz1) ?_
  clear hf; clear a; intro v w2 a hT hf; obtain ⟨F1, rfl, hr⟩ := hT
  replace hs : Sep w F R w2 F [.row 5 (tI .u8) (.slice (some ⟨w.heap.size, 0, none⟩) ([1, 2, 3, 4] : List Int).length ([1, 2, 3, 4] : List Int).length) ([1, 2, 3, 4] : List Int)] := hs.backL [0] [] [0] rfl rfl rfl rfl rfl rfl hr trivial
  clear hr
  replace hs : Sep w F R w2 F [] := hs.sel [] rfl rfl
  replace hf := Fr.keep (ks := [13]) (L' := [(13, .tuple #[.int .u64 z1.1, .int .i64 z1.2])]) hf (by kernel_rfl)
  refine st tbOk 5 [1, 2] (L' := [(1, .int .u64 z1.1), (2, .int .i64 z1.2)]) hf (by kernel_rfl) ?_
  clear hf; clear a; intro a hf
  refine wpList_nil ?_
  refine sq ?_
  refine reg ?_
  refine bsR tbOk u22 i5 rfl (t := (tI .u8)) (vs := [(0, .int .u8 1), (1, .int .u8 2), (2, .int .u8 3)]) (cells := #[.int .u8 1, .int .u8 2, .int .u8 3]) ([1, 2, 3] : List Int) hs.le hf (by kernel_rfl) (by kernel_rfl) (by kernel_rfl) rfl (by kernel_rfl) (reps_flat _) rfl ?_
  clear hf; clear a; intro w3 a ho hx hf
  replace hs : Sep w F R w3 F [.row 5 (tI .u8) (.slice (some ⟨w2.heap.size, 0, none⟩) ([1, 2, 3] : List Int).length ([1, 2, 3] : List Int).length) ([1, 2, 3] : List Int)] := hs.newRow ho hx
  clear ho hx
  replace hf := Fr.keep (ks := [1, 2, 17]) (L' := [(1, .int .u64 z1.1), (2, .int .i64 z1.2), (17, .slice (some ⟨w2.heap.size, 0, none⟩) ([1, 2, 3] : List Int).length ([1, 2, 3] : List Int).length)]) hf (by kernel_rfl)
  have hT := of_bd hS; clear hS; obtain ⟨z2, hz2, hS⟩ := hT
  refine clV ent14 (vs := [.slice (some ⟨w2.heap.size, 0, none⟩) ([1, 2, 3] : List Int).length ([1, 2, 3] : List Int).length, .int .u64 1, .int .i64 2, .int .u64 513]) (caps := []) hf (by kernel_rfl) (by kernel_rfl) (by kernel_rfl) (by kernel_rfl) (octets_Set_ok (b := ([1, 2, 3] : List Int)) (p_at := 1) (n := 2) (p_x := 513) (hs.lend [0] [] rfl rfl rfl rfl rfl) hz2) ?_
  clear hf; clear a; intro v w4 a hT hf; obtain ⟨ao1, cp1, F2, rfl, hr⟩ := hT
  replace hs : Sep w F R w4 F [.row 5 (tI .u8) (.slice ao1 z2.1.length cp1) z2.1, .row 5 (tI .u8) (.slice (some ⟨w2.heap.size, 0, none⟩) ([1, 2, 3] : List Int).length ([1, 2, 3] : List Int).length) ([1, 2, 3] : List Int)] := hs.backL [0] [] [0] rfl rfl rfl rfl rfl rfl hr ⟨(flat_I .u8), trivial⟩
  clear hr
  replace hs : Sep w F R w4 F [.row 5 (tI .u8) (.slice ao1 z2.1.length cp1) z2.1] := hs.sel [0] rfl rfl
  replace hf := Fr.keep (ks := [1, 2, 18]) (L' := [(1, .int .u64 z1.1), (2, .int .i64 z1.2), (18, .tuple #[.slice ao1 z2.1.length cp1, .int .i64 z2.2])]) hf (by kernel_rfl)
  refine st tbOk 5 [1, 2, 3, 4] (L' := [(1, .int .u64 z1.1), (2, .int .i64 z1.2), (3, .slice ao1 z2.1.length cp1), (4, .int .i64 z2.2)]) hf (by kernel_rfl) ?_
  clear hf; clear a; intro a hf
  refine wpList_nil ?_
  refine sq ?_
  refine reg ?_
  refine bsR tbOk u22 i5 rfl (t := (tI .u8)) (vs := [(0, .int .u8 1), (1, .int .u8 2), (2, .int .u8 3)]) (cells := #[.int .u8 1, .int .u8 2, .int .u8 3]) ([1, 2, 3] : List Int) hs.le hf (by kernel_rfl) (by kernel_rfl) (by kernel_rfl) rfl (by kernel_rfl) (reps_flat _) rfl ?_
  clear hf; clear a; intro w5 a ho hx hf
  replace hs : Sep w F R w5 F [.row 5 (tI .u8) (.slice (some ⟨w4.heap.size, 0, none⟩) ([1, 2, 3] : List Int).length ([1, 2, 3] : List Int).length) ([1, 2, 3] : List Int), .row 5 (tI .u8) (.slice ao1 z2.1.length cp1) z2.1] := hs.newRow ho hx
  clear ho hx
  replace hf := Fr.keep (ks := [1, 2, 3, 4, 22]) (L' := [(1, .int .u64 z1.1), (2, .int .i64 z1.2), (3, .slice ao1 z2.1.length cp1), (4, .int .i64 z2.2), (22, .slice (some ⟨w4.heap.size, 0, none⟩) ([1, 2, 3] : List Int).length ([1, 2, 3] : List Int).length)]) hf (by kernel_rfl)
  have hT := of_bd hS; clear hS; obtain ⟨z3, hz3, hS⟩ := hT
  refine clV ent16 (vs := [.slice (some ⟨w4.heap.size, 0, none⟩) ([1, 2, 3] : List Int).length ([1, 2, 3] : List Int).length, .int .u64 1, .int .u64 2]) (caps := []) hf (by kernel_rfl) (by kernel_rfl) (by kernel_rfl) (by kernel_rfl) (octets_Cut_ok (b := ([1, 2, 3] : List Int)) (p_at := 1) (size := 2) (hs.lend [0] [] rfl rfl rfl rfl rfl) hz3) ?_
  clear hf; clear a; intro v w6 a hT hf; obtain ⟨ao2, cp2, F3, rfl, hr⟩ := hT
  replace hs : Sep w F R w6 F [.row 5 (tI .u8) (.slice ao2 z3.1.length cp2) z3.1, .row 5 (tI .u8) (.slice (some ⟨w4.heap.size, 0, none⟩) ([1, 2, 3] : List Int).length ([1, 2, 3] : List Int).length) ([1, 2, 3] : List Int), .row 5 (tI .u8) (.slice ao1 z2.1.length cp1) z2.1] := hs.backL [0] [] [0, 1] rfl rfl rfl rfl rfl rfl hr ⟨(flat_I .u8), trivial⟩
  clear hr
  replace hs : Sep w F R w6 F [.row 5 (tI .u8) (.slice ao2 z3.1.length cp2) z3.1, .row 5 (tI .u8) (.slice ao1 z2.1.length cp1) z2.1] := hs.sel [0, 2] rfl rfl
  replace hf := Fr.keep (ks := [1, 2, 3, 4, 23]) (L' := [(1, .int .u64 z1.1), (2, .int .i64 z1.2), (3, .slice ao1 z2.1.length cp1), (4, .int .i64 z2.2), (23, .tuple #[.slice ao2 z3.1.length cp2, .int .i64 z3.2])]) hf (by kernel_rfl)
  refine st tbOk 5 [1, 2, 3, 4, 5, 6] (L' := [(1, .int .u64 z1.1), (2, .int .i64 z1.2), (3, .slice ao1 z2.1.length cp1), (4, .int .i64 z2.2), (5, .slice ao2 z3.1.length cp2), (6, .int .i64 z3.2)]) hf (by kernel_rfl) ?_
  clear hf; clear a; intro a hf
  refine wpList_nil ?_
  refine sq ?_
  refine reg ?_
  have hT := of_bd hS; clear hS; obtain ⟨z4, hz4, hS⟩ := hT
  refine clV ent18 (vs := [.int .u64 257, .int .u64 256]) (caps := []) hf (by kernel_rfl) (by kernel_rfl) (by kernel_rfl) (by kernel_rfl) (octets_Up_ok (p_x := 257) (p_a := 256) (hs.enter [] rfl rfl) hz4) ?_
  clear hf; clear a; intro v w7 a hT hf; obtain ⟨F4, rfl, hr⟩ := hT
  replace hs : Sep w F R w7 F4 [.row 5 (tI .u8) (.slice ao2 z3.1.length cp2) z3.1, .row 5 (tI .u8) (.slice ao1 z2.1.length cp1) z2.1] := hs.back [] [0, 1] rfl rfl rfl rfl hr
  clear hr
  replace hf := Fr.keep (ks := [1, 2, 3, 4, 5, 6, 27]) (L' := [(1, .int .u64 z1.1), (2, .int .i64 z1.2), (3, .slice ao1 z2.1.length cp1), (4, .int .i64 z2.2), (5, .slice ao2 z3.1.length cp2), (6, .int .i64 z3.2), (27, .tuple #[.int .u64 z4.1, .int .i64 z4.2])]) hf (by kernel_rfl)
  refine st tbOk 5 [1, 2, 3, 4, 5, 6, 7, 8] (L' := [(1, .int .u64 z1.1), (2, .int .i64 z1.2), (3, .slice ao1 z2.1.length cp1), (4, .int .i64 z2.2), (5, .slice ao2 z3.1.length cp2), (6, .int .i64 z3.2), (7, .int .u64 z4.1), (8, .int .i64 z4.2)]) hf (by kernel_rfl) ?_
  clear hf; clear a; intro a hf
  refine wpList_nil ?_
  refine sq ?_
  refine reg ?_
  have hT := of_bd hS; clear hS; obtain ⟨z5, hz5, hS⟩ := hT
  refine clV ent20 (vs := [.int .u64 257, .int .u64 256]) (caps := []) hf (by kernel_rfl) (by kernel_rfl) (by kernel_rfl) (by kernel_rfl) (octets_Down_ok (p_x := 257) (p_a := 256) (hs.enter [] rfl rfl) hz5) ?_
  clear hf; clear a; intro v w8 a hT hf; obtain ⟨F5, rfl, hr⟩ := hT
  replace hs : Sep w F R w8 F5 [.row 5 (tI .u8) (.slice ao2 z3.1.length cp2) z3.1, .row 5 (tI .u8) (.slice ao1 z2.1.length cp1) z2.1] := hs.back [] [0, 1] rfl rfl rfl rfl hr
  clear hr
  replace hf := Fr.keep (ks := [1, 2, 3, 4, 5, 6, 7, 8, 31]) (L' := [(1, .int .u64 z1.1), (2, .int .i64 z1.2), (3, .slice ao1 z2.1.length cp1), (4, .int .i64 z2.2), (5, .slice ao2 z3.1.length cp2), (6, .int .i64 z3.2), (7, .int .u64 z4.1), (8, .int .i64 z4.2), (31, .tuple #[.int .u64 z5.1, .int .i64 z5.2])]) hf (by kernel_rfl)
  refine st tbOk 5 [1, 2, 3, 4, 5, 6, 7, 8, 9, 10] (L' := [(1, .int .u64 z1.1), (2, .int .i64 z1.2), (3, .slice ao1 z2.1.length cp1), (4, .int .i64 z2.2), (5, .slice ao2 z3.1.length cp2), (6, .int .i64 z3.2), (7, .int .u64 z4.1), (8, .int .i64 z4.2), (9, .int .u64 z5.1), (10, .int .i64 z5.2)]) hf (by kernel_rfl) ?_
  clear hf; clear a; intro a hf
  refine wpList_nil ?_
  refine sq ?_
  refine ctj (fun (s1 : Bool) (a : Act) (w' : World) => ∃ (F6 : SH), Sep w F R w' F6 [] ∧ Fr 81 [(0, .bool s1)] a) hS ?_ ?_
  · clear hS hf hs; clear a; intro s1 a w11 hM hS
    obtain ⟨F6, hs, hf⟩ := hM
    have hr := Option.some.inj hS; subst hr
    refine wp_ret ?_
    exact ret_ok hf (vs := [.bool s1]) (by kernel_rfl) ⟨_, rfl, hs.sel [] rfl rfl⟩
  · clear hS; intro KK1 k1 hK1 hS
    refine reg ?_
    refine st tbOk 3 [2, 3, 4, 5, 6, 7, 8, 9, 10, 36] (L' := [(2, .int .i64 z1.2), (3, .slice ao1 z2.1.length cp1), (4, .int .i64 z2.2), (5, .slice ao2 z3.1.length cp2), (6, .int .i64 z3.2), (7, .int .u64 z4.1), (8, .int .i64 z4.2), (9, .int .u64 z5.1), (10, .int .i64 z5.2), (36, .bool (z1.1 == 770))]) hf (by kernel_rfl) ?_
    clear hf; clear a; intro a hf
    rcases Bool.eq_false_or_eq_true (z1.1 == 770) with hb1 | hb1
    · replace hS := of_t hb1 hS
      replace hf := Fr.cast (L' := [(2, .int .i64 z1.2), (3, .slice ao1 z2.1.length cp1), (4, .int .i64 z2.2), (5, .slice ao2 z3.1.length cp2), (6, .int .i64 z3.2), (7, .int .u64 z4.1), (8, .int .i64 z4.2), (9, .int .u64 z5.1), (10, .int .i64 z5.2), (36, .bool true)]) hf (by rw [hb1])
      refine st tbOk 4 [3, 4, 5, 6, 7, 8, 9, 10, 40] (L' := [(3, .slice ao1 z2.1.length cp1), (4, .int .i64 z2.2), (5, .slice ao2 z3.1.length cp2), (6, .int .i64 z3.2), (7, .int .u64 z4.1), (8, .int .i64 z4.2), (9, .int .u64 z5.1), (10, .int .i64 z5.2), (40, .bool (z1.2 == 0))]) hf (by kernel_rfl) ?_
      clear hf; clear a; intro a hf
      rcases Bool.eq_false_or_eq_true (z1.2 == 0) with hb2 | hb2
      · replace hS := of_t hb2 hS
        replace hf := Fr.cast (L' := [(3, .slice ao1 z2.1.length cp1), (4, .int .i64 z2.2), (5, .slice ao2 z3.1.length cp2), (6, .int .i64 z3.2), (7, .int .u64 z4.1), (8, .int .i64 z4.2), (9, .int .u64 z5.1), (10, .int .i64 z5.2), (40, .bool true)]) hf (by rw [hb2])
        refine st tbOk 1 [4, 5, 6, 7, 8, 9, 10, 40, 41] (L' := [(4, .int .i64 z2.2), (5, .slice ao2 z3.1.length cp2), (6, .int .i64 z3.2), (7, .int .u64 z4.1), (8, .int .i64 z4.2), (9, .int .u64 z5.1), (10, .int .i64 z5.2), (40, .bool true), (41, .slice ao1 z2.1.length cp1)]) hf (by kernel_rfl) ?_
        clear hf; clear a; intro a hf
        refine b2sR tbOk u22 u5 u9 (hs.raW 1 rfl) hf (by kernel_rfl) (by kernel_rfl) (by kernel_rfl) ?_
        clear hf; clear a; intro a hf
        replace hs : Sep w F R w8 F5 [.row 5 (tI .u8) (.slice ao2 z3.1.length cp2) z3.1] := hs.sel [0] rfl rfl
        replace hf := Fr.keep (ks := [4, 5, 6, 7, 8, 9, 10, 40, 42]) (L' := [(4, .int .i64 z2.2), (5, .slice ao2 z3.1.length cp2), (6, .int .i64 z3.2), (7, .int .u64 z4.1), (8, .int .i64 z4.2), (9, .int .u64 z5.1), (10, .int .i64 z5.2), (40, .bool true), (42, strV (toStr z2.1))]) hf (by kernel_rfl)
        refine st tbOk 3 [4, 5, 6, 7, 8, 9, 10, 45] (L' := [(4, .int .i64 z2.2), (5, .slice ao2 z3.1.length cp2), (6, .int .i64 z3.2), (7, .int .u64 z4.1), (8, .int .i64 z4.2), (9, .int .u64 z5.1), (10, .int .i64 z5.2), (45, .bool ((toStr z2.1) == [1, 1, 2]))]) hf (by kernel_rfl) ?_
        clear hf; clear a; intro a hf
        rcases Bool.eq_false_or_eq_true ((toStr z2.1) == [1, 1, 2]) with hb3 | hb3
        · replace hS := of_t hb3 hS
          replace hf := Fr.cast (L' := [(4, .int .i64 z2.2), (5, .slice ao2 z3.1.length cp2), (6, .int .i64 z3.2), (7, .int .u64 z4.1), (8, .int .i64 z4.2), (9, .int .u64 z5.1), (10, .int .i64 z5.2), (45, .bool true)]) hf (by rw [hb3])
          refine st tbOk 4 [5, 6, 7, 8, 9, 10, 49] (L' := [(5, .slice ao2 z3.1.length cp2), (6, .int .i64 z3.2), (7, .int .u64 z4.1), (8, .int .i64 z4.2), (9, .int .u64 z5.1), (10, .int .i64 z5.2), (49, .bool (z2.2 == 0))]) hf (by kernel_rfl) ?_
          clear hf; clear a; intro a hf
          rcases Bool.eq_false_or_eq_true (z2.2 == 0) with hb4 | hb4
          · replace hS := of_t hb4 hS
            replace hf := Fr.cast (L' := [(5, .slice ao2 z3.1.length cp2), (6, .int .i64 z3.2), (7, .int .u64 z4.1), (8, .int .i64 z4.2), (9, .int .u64 z5.1), (10, .int .i64 z5.2), (49, .bool true)]) hf (by rw [hb4])
            refine st tbOk 1 [6, 7, 8, 9, 10, 49, 50] (L' := [(6, .int .i64 z3.2), (7, .int .u64 z4.1), (8, .int .i64 z4.2), (9, .int .u64 z5.1), (10, .int .i64 z5.2), (49, .bool true), (50, .slice ao2 z3.1.length cp2)]) hf (by kernel_rfl) ?_
            clear hf; clear a; intro a hf
            refine b2sR tbOk u22 u5 u9 (hs.raW 0 rfl) hf (by kernel_rfl) (by kernel_rfl) (by kernel_rfl) ?_
            clear hf; clear a; intro a hf
            replace hs : Sep w F R w8 F5 [] := hs.sel [] rfl rfl
            replace hf := Fr.keep (ks := [6, 7, 8, 9, 10, 49, 51]) (L' := [(6, .int .i64 z3.2), (7, .int .u64 z4.1), (8, .int .i64 z4.2), (9, .int .u64 z5.1), (10, .int .i64 z5.2), (49, .bool true), (51, strV (toStr z3.1))]) hf (by kernel_rfl)
            refine st tbOk 3 [6, 7, 8, 9, 10, 54] (L' := [(6, .int .i64 z3.2), (7, .int .u64 z4.1), (8, .int .i64 z4.2), (9, .int .u64 z5.1), (10, .int .i64 z5.2), (54, .bool ((toStr z3.1) == [2, 3]))]) hf (by kernel_rfl) ?_
            clear hf; clear a; intro a hf
            rcases Bool.eq_false_or_eq_true ((toStr z3.1) == [2, 3]) with hb5 | hb5
            · replace hS := of_t hb5 hS
              replace hf := Fr.cast (L' := [(6, .int .i64 z3.2), (7, .int .u64 z4.1), (8, .int .i64 z4.2), (9, .int .u64 z5.1), (10, .int .i64 z5.2), (54, .bool true)]) hf (by rw [hb5])
              refine st tbOk 4 [7, 8, 9, 10, 58] (L' := [(7, .int .u64 z4.1), (8, .int .i64 z4.2), (9, .int .u64 z5.1), (10, .int .i64 z5.2), (58, .bool (z3.2 == 0))]) hf (by kernel_rfl) ?_
              clear hf; clear a; intro a hf
              rcases Bool.eq_false_or_eq_true (z3.2 == 0) with hb6 | hb6
              · replace hS := of_t hb6 hS
                replace hf := Fr.cast (L' := [(7, .int .u64 z4.1), (8, .int .i64 z4.2), (9, .int .u64 z5.1), (10, .int .i64 z5.2), (58, .bool true)]) hf (by rw [hb6])
                refine st tbOk 4 [8, 9, 10, 62] (L' := [(8, .int .i64 z4.2), (9, .int .u64 z5.1), (10, .int .i64 z5.2), (62, .bool (z4.1 == 512))]) hf (by kernel_rfl) ?_
                clear hf; clear a; intro a hf
                rcases Bool.eq_false_or_eq_true (z4.1 == 512) with hb7 | hb7
                · replace hS := of_t hb7 hS
                  replace hf := Fr.cast (L' := [(8, .int .i64 z4.2), (9, .int .u64 z5.1), (10, .int .i64 z5.2), (62, .bool true)]) hf (by rw [hb7])
                  refine st tbOk 4 [9, 10, 66] (L' := [(9, .int .u64 z5.1), (10, .int .i64 z5.2), (66, .bool (z4.2 == 0))]) hf (by kernel_rfl) ?_
                  clear hf; clear a; intro a hf
                  rcases Bool.eq_false_or_eq_true (z4.2 == 0) with hb8 | hb8
                  · replace hS := of_t hb8 hS
                    replace hf := Fr.cast (L' := [(9, .int .u64 z5.1), (10, .int .i64 z5.2), (66, .bool true)]) hf (by rw [hb8])
                    refine st tbOk 4 [10, 70] (L' := [(10, .int .i64 z5.2), (70, .bool (z5.1 == 256))]) hf (by kernel_rfl) ?_
                    clear hf; clear a; intro a hf
                    rcases Bool.eq_false_or_eq_true (z5.1 == 256) with hb9 | hb9
                    · replace hS := of_t hb9 hS
                      replace hf := Fr.cast (L' := [(10, .int .i64 z5.2), (70, .bool true)]) hf (by rw [hb9])
                      refine st tbOk 4 [74] (L' := [(74, .bool (z5.2 == 0))]) hf (by kernel_rfl) ?_
                      clear hf; clear a; intro a hf
                      rcases Bool.eq_false_or_eq_true (z5.2 == 0) with hb10 | hb10
                      · replace hS := of_t hb10 hS
                        replace hf := Fr.cast (L' := [(74, .bool true)]) hf (by rw [hb10])
                        have hT := of_bd hS; clear hS; obtain ⟨z6, hz6, hS⟩ := hT
                        refine clV ent23 (vs := [.int .u64 0, .int .u64 6, .int .u64 5, .int .u64 2]) (caps := []) hf (by kernel_rfl) (by kernel_rfl) (by kernel_rfl) (by kernel_rfl) (octets_Meet_ok (p_a := 0) (m := 6) (b := 5) (n := 2) (hs.enter [] rfl rfl) hz6) ?_
                        clear hf; clear a; intro v w9 a hT hf; obtain ⟨F7, rfl, hr⟩ := hT
                        replace hs : Sep w F R w9 F7 [] := hs.back [] [] rfl rfl rfl rfl hr
                        clear hr
                        replace hf := Fr.keep (ks := [74, 75]) (L' := [(74, .bool true), (75, .bool z6)]) hf (by kernel_rfl)
                        refine st tbOk 2 [77] (L' := [(77, .bool z6)]) hf (by kernel_rfl) ?_
                        clear hf; clear a; intro a hf
                        rcases Bool.eq_false_or_eq_true (z6) with hb11 | hb11
                        · replace hS := of_t hb11 hS
                          replace hf := Fr.cast (L' := [(77, .bool true)]) hf (by rw [hb11])
                          have hT := of_bd hS; clear hS; obtain ⟨z7, hz7, hS⟩ := hT
                          refine clV ent23 (vs := [.int .u64 0, .int .u64 5, .int .u64 5, .int .u64 2]) (caps := []) hf (by kernel_rfl) (by kernel_rfl) (by kernel_rfl) (by kernel_rfl) (octets_Meet_ok (p_a := 0) (m := 5) (b := 5) (n := 2) (hs.enter [] rfl rfl) hz7) ?_
                          clear hf; clear a; intro v w10 a hT hf; obtain ⟨F8, rfl, hr⟩ := hT
                          replace hs : Sep w F R w10 F8 [] := hs.back [] [] rfl rfl rfl rfl hr
                          clear hr
                          replace hf := Fr.keep (ks := [77, 78]) (L' := [(77, .bool true), (78, .bool z7)]) hf (by kernel_rfl)
                          refine st tbOk 3 [0] (L' := [(0, .bool (!z7))]) hf (by kernel_rfl) ?_
                          clear hf; clear a; intro a hf
                          refine wpList_nil ?_
                          exact hK1 (!z7) _ _ ⟨_, hs.sel [] rfl rfl, hf.keep (ks := [0]) (by kernel_rfl)⟩ hS
                        · have hk : ((octets_Get ([1, 2, 3, 4] : List Int) 1 2).bind fun z1 => (octets_Set ([1, 2, 3] : List Int) 1 2 513).bind fun z2 => (octets_Cut ([1, 2, 3] : List Int) 1 2).bind fun z3 => (octets_Up 257 256).bind fun z4 => (octets_Down 257 256).bind fun z5 => (octets_Meet 0 6 5 2).bind fun z6 => some (z6)) = some true := by kernel_rfl
                          rw [bdz hz1, bdz hz2, bdz hz3, bdz hz4, bdz hz5, bdz hz6] at hk
                          exact Bool.noConfusion (hb11.symm.trans (Option.some.inj hk))
                      · have hk : ((octets_Get ([1, 2, 3, 4] : List Int) 1 2).bind fun z1 => (octets_Set ([1, 2, 3] : List Int) 1 2 513).bind fun z2 => (octets_Cut ([1, 2, 3] : List Int) 1 2).bind fun z3 => (octets_Up 257 256).bind fun z4 => (octets_Down 257 256).bind fun z5 => some (z5.2 == 0)) = some true := by kernel_rfl
                        rw [bdz hz1, bdz hz2, bdz hz3, bdz hz4, bdz hz5] at hk
                        exact Bool.noConfusion (hb10.symm.trans (Option.some.inj hk))
                    · have hk : ((octets_Get ([1, 2, 3, 4] : List Int) 1 2).bind fun z1 => (octets_Set ([1, 2, 3] : List Int) 1 2 513).bind fun z2 => (octets_Cut ([1, 2, 3] : List Int) 1 2).bind fun z3 => (octets_Up 257 256).bind fun z4 => (octets_Down 257 256).bind fun z5 => some (z5.1 == 256)) = some true := by kernel_rfl
                      rw [bdz hz1, bdz hz2, bdz hz3, bdz hz4, bdz hz5] at hk
                      exact Bool.noConfusion (hb9.symm.trans (Option.some.inj hk))
                  · have hk : ((octets_Get ([1, 2, 3, 4] : List Int) 1 2).bind fun z1 => (octets_Set ([1, 2, 3] : List Int) 1 2 513).bind fun z2 => (octets_Cut ([1, 2, 3] : List Int) 1 2).bind fun z3 => (octets_Up 257 256).bind fun z4 => (octets_Down 257 256).bind fun z5 => some (z4.2 == 0)) = some true := by kernel_rfl
                    rw [bdz hz1, bdz hz2, bdz hz3, bdz hz4, bdz hz5] at hk
                    exact Bool.noConfusion (hb8.symm.trans (Option.some.inj hk))
                · have hk : ((octets_Get ([1, 2, 3, 4] : List Int) 1 2).bind fun z1 => (octets_Set ([1, 2, 3] : List Int) 1 2 513).bind fun z2 => (octets_Cut ([1, 2, 3] : List Int) 1 2).bind fun z3 => (octets_Up 257 256).bind fun z4 => (octets_Down 257 256).bind fun z5 => some (z4.1 == 512)) = some true := by kernel_rfl
                  rw [bdz hz1, bdz hz2, bdz hz3, bdz hz4, bdz hz5] at hk
                  exact Bool.noConfusion (hb7.symm.trans (Option.some.inj hk))
              · have hk : ((octets_Get ([1, 2, 3, 4] : List Int) 1 2).bind fun z1 => (octets_Set ([1, 2, 3] : List Int) 1 2 513).bind fun z2 => (octets_Cut ([1, 2, 3] : List Int) 1 2).bind fun z3 => (octets_Up 257 256).bind fun z4 => (octets_Down 257 256).bind fun z5 => some (z3.2 == 0)) = some true := by kernel_rfl
                rw [bdz hz1, bdz hz2, bdz hz3, bdz hz4, bdz hz5] at hk
                exact Bool.noConfusion (hb6.symm.trans (Option.some.inj hk))
            · have hk : ((octets_Get ([1, 2, 3, 4] : List Int) 1 2).bind fun z1 => (octets_Set ([1, 2, 3] : List Int) 1 2 513).bind fun z2 => (octets_Cut ([1, 2, 3] : List Int) 1 2).bind fun z3 => (octets_Up 257 256).bind fun z4 => (octets_Down 257 256).bind fun z5 => some ((toStr z3.1) == [2, 3])) = some true := by kernel_rfl
              rw [bdz hz1, bdz hz2, bdz hz3, bdz hz4, bdz hz5] at hk
              exact Bool.noConfusion (hb5.symm.trans (Option.some.inj hk))
          · have hk : ((octets_Get ([1, 2, 3, 4] : List Int) 1 2).bind fun z1 => (octets_Set ([1, 2, 3] : List Int) 1 2 513).bind fun z2 => (octets_Cut ([1, 2, 3] : List Int) 1 2).bind fun z3 => (octets_Up 257 256).bind fun z4 => (octets_Down 257 256).bind fun z5 => some (z2.2 == 0)) = some true := by kernel_rfl
            rw [bdz hz1, bdz hz2, bdz hz3, bdz hz4, bdz hz5] at hk
            exact Bool.noConfusion (hb4.symm.trans (Option.some.inj hk))
        · have hk : ((octets_Get ([1, 2, 3, 4] : List Int) 1 2).bind fun z1 => (octets_Set ([1, 2, 3] : List Int) 1 2 513).bind fun z2 => (octets_Cut ([1, 2, 3] : List Int) 1 2).bind fun z3 => (octets_Up 257 256).bind fun z4 => (octets_Down 257 256).bind fun z5 => some ((toStr z2.1) == [1, 1, 2])) = some true := by kernel_rfl
          rw [bdz hz1, bdz hz2, bdz hz3, bdz hz4, bdz hz5] at hk
          exact Bool.noConfusion (hb3.symm.trans (Option.some.inj hk))
      · have hk : ((octets_Get ([1, 2, 3, 4] : List Int) 1 2).bind fun z1 => (octets_Set ([1, 2, 3] : List Int) 1 2 513).bind fun z2 => (octets_Cut ([1, 2, 3] : List Int) 1 2).bind fun z3 => (octets_Up 257 256).bind fun z4 => (octets_Down 257 256).bind fun z5 => some (z1.2 == 0)) = some true := by kernel_rfl
        rw [bdz hz1, bdz hz2, bdz hz3, bdz hz4, bdz hz5] at hk
        exact Bool.noConfusion (hb2.symm.trans (Option.some.inj hk))
    · have hk : ((octets_Get ([1, 2, 3, 4] : List Int) 1 2).bind fun z1 => (octets_Set ([1, 2, 3] : List Int) 1 2 513).bind fun z2 => (octets_Cut ([1, 2, 3] : List Int) 1 2).bind fun z3 => (octets_Up 257 256).bind fun z4 => (octets_Down 257 256).bind fun z5 => some (z1.1 == 770)) = some true := by kernel_rfl
      rw [bdz hz1, bdz hz2, bdz hz3, bdz hz4, bdz hz5] at hk
      exact Bool.noConfusion (hb1.symm.trans (Option.some.inj hk))

end Dm
