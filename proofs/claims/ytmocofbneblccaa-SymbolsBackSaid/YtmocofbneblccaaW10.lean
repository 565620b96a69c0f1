/-
  The walks: a call of each Go function gives what its shallow form gives, where that form gives something; printed by a program of this repo. No condition.
-/
import Derived.Test.YtmocofbneblccaaWT
import Derived.Test.YtmocofbneblccaaW1
namespace Dm
open Go Go.RowKit Go.Proofs

set_option maxHeartbeats 4000000 in
theorem octets_width_ok {w : World} {F : SH} {n : Int}  (hs : Sep w F (blks []) w F []) {r : Bool} (hS : octets_width n = some r) :
    Calls Try.prog 54 [.int .i64 n].toArray w (Gives (fun u w' => ∃ (F' : SH), u = .bool r ∧ Sep w F (blks []) w' F' [])) := by
  generalize (blks []) = R at hs ⊢
  unfold octets_width at hS
  refine fn_ok (vs := [.int .i64 n]) Try.func54 rfl 17 Try.ntmps54 (Nat.le_of_ble_eq_true rfl) ?_
  intro a hf
  replace hf := Fr.cast (L' := [(0, .int .i64 n)]) hf (by kernel_rfl)
  refine sq ?_
  refine reg ?_
  refine st tbOk 1 [0] (L' := [(0, .int .i64 n)]) hf (by kernel_rfl) ?_
  clear hf; clear a; intro a hf
  refine wpList_nil ?_
  refine sq ?_
  refine ctj (fun (s1 : Bool) (a : Act) (w' : World) => ∃ (F1 : SH), Sep w F R w' F1 [] ∧ Fr 17 [(2, .bool s1)] a) hS ?_ ?_
  · clear hS hf hs; clear a; intro s1 a w1 hM hS
    obtain ⟨F1, hs, hf⟩ := hM
    have hr := Option.some.inj hS; subst hr
    refine wp_ret ?_
    exact ret_ok hf (vs := [.bool s1]) (by kernel_rfl) ⟨_, rfl, hs.sel [] rfl rfl⟩
  · clear hS; intro KK1 k1 hK1 hS
    refine reg ?_
    refine st tbOk 3 [0, 5] (L' := [(0, .int .i64 n), (5, .bool (n == 1))]) hf (by kernel_rfl) ?_
    clear hf; clear a; intro a hf
    rcases Bool.eq_false_or_eq_true (n == 1) with hb1 | hb1
    · replace hS := of_t hb1 hS
      replace hf := Fr.cast (L' := [(0, .int .i64 n), (5, .bool true)]) hf (by rw [hb1])
      refine st tbOk 12 [2] (L' := [(2, .bool true)]) hf (by kernel_rfl) ?_
      clear hf; clear a; intro a hf
      refine wpList_nil ?_
      exact hK1 true _ _ ⟨_, hs.sel [] rfl rfl, hf.keep (ks := [2]) (by kernel_rfl)⟩ hS
    · replace hS := of_f hb1 hS
      replace hf := Fr.cast (L' := [(0, .int .i64 n), (5, .bool false)]) hf (by rw [hb1])
      refine st tbOk 4 [0, 9] (L' := [(0, .int .i64 n), (9, .bool (n == 2))]) hf (by kernel_rfl) ?_
      clear hf; clear a; intro a hf
      rcases Bool.eq_false_or_eq_true (n == 2) with hb2 | hb2
      · replace hS := of_t hb2 hS
        replace hf := Fr.cast (L' := [(0, .int .i64 n), (9, .bool true)]) hf (by rw [hb2])
        refine st tbOk 8 [2] (L' := [(2, .bool true)]) hf (by kernel_rfl) ?_
        clear hf; clear a; intro a hf
        refine wpList_nil ?_
        exact hK1 true _ _ ⟨_, hs.sel [] rfl rfl, hf.keep (ks := [2]) (by kernel_rfl)⟩ hS
      · replace hS := of_f hb2 hS
        replace hf := Fr.cast (L' := [(0, .int .i64 n), (9, .bool false)]) hf (by rw [hb2])
        refine st tbOk 4 [0, 13] (L' := [(0, .int .i64 n), (13, .bool (n == 4))]) hf (by kernel_rfl) ?_
        clear hf; clear a; intro a hf
        rcases Bool.eq_false_or_eq_true (n == 4) with hb3 | hb3
        · replace hS := of_t hb3 hS
          replace hf := Fr.cast (L' := [(0, .int .i64 n), (13, .bool true)]) hf (by rw [hb3])
          refine st tbOk 4 [2] (L' := [(2, .bool true)]) hf (by kernel_rfl) ?_
          clear hf; clear a; intro a hf
          refine wpList_nil ?_
          exact hK1 true _ _ ⟨_, hs.sel [] rfl rfl, hf.keep (ks := [2]) (by kernel_rfl)⟩ hS
        · replace hS := of_f hb3 hS
          replace hf := Fr.cast (L' := [(0, .int .i64 n), (13, .bool false)]) hf (by rw [hb3])
          refine st tbOk 4 [2] (L' := [(2, .bool (n == 8))]) hf (by kernel_rfl) ?_
          clear hf; clear a; intro a hf
          refine wpList_nil ?_
          exact hK1 (n == 8) _ _ ⟨_, hs.sel [] rfl rfl, hf.keep (ks := [2]) (by kernel_rfl)⟩ hS

set_option maxHeartbeats 4000000 in
theorem octets_fits_ok {w : World} {F : SH} {b : List Int} {p_at : Int} {n : Int} {ao1 : Option Addr} {cp1 : Nat} (hs : Sep w F (blks [.ro (tI .u8) (.slice ao1 b.length cp1) b]) w F [.ro (tI .u8) (.slice ao1 b.length cp1) b]) {r : Int} (hS : octets_fits b p_at n = some r) :
    Calls Try.prog 48 [.slice ao1 b.length cp1, .int .u64 p_at, .int .i64 n].toArray w (Gives (fun u w' => ∃ (F' : SH), u = .int .i64 r ∧ Sep w F (blks [.ro (tI .u8) (.slice ao1 b.length cp1) b]) w' F' [])) := by
  generalize (blks [.ro (tI .u8) (.slice ao1 b.length cp1) b]) = R at hs ⊢
  unfold octets_fits at hS
  refine fn_ok (vs := [.slice ao1 b.length cp1, .int .u64 p_at, .int .i64 n]) Try.func48 rfl 19 Try.ntmps48 (Nat.le_of_ble_eq_true rfl) ?_
  intro a hf
  replace hf := Fr.cast (L' := [(0, .slice ao1 b.length cp1), (1, .int .u64 p_at), (2, .int .i64 n)]) hf (by kernel_rfl)
  refine sq ?_
  refine reg ?_
  refine st tbOk 1 [0, 1, 2] (L' := [(0, .slice ao1 b.length cp1), (1, .int .u64 p_at), (2, .int .i64 n)]) hf (by kernel_rfl) ?_
  clear hf; clear a; intro a hf
  refine wpList_nil ?_
  refine sq ?_
  refine blk ?_
  refine sq ?_
  refine reg ?_
  refine st tbOk 1 [0, 1, 2, 8] (L' := [(0, .slice ao1 b.length cp1), (1, .int .u64 p_at), (2, .int .i64 n), (8, .int .i64 n)]) hf (by kernel_rfl) ?_
  clear hf; clear a; intro a hf
  have hT := of_bd hS; clear hS; obtain ⟨z1, hz1, hS⟩ := hT
  refine clV ent54 (vs := [.int .i64 n]) (caps := []) hf (by kernel_rfl) (by kernel_rfl) (by kernel_rfl) (by kernel_rfl) (octets_width_ok (n := n) (hs.enter [] rfl rfl) hz1) ?_
  clear hf; clear a; intro v w1 a hT hf; obtain ⟨F1, rfl, hr⟩ := hT
  replace hs : Sep w F R w1 F1 [.ro (tI .u8) (.slice ao1 b.length cp1) b] := hs.back [] [0] rfl rfl rfl rfl hr
  clear hr
  replace hf := Fr.keep (ks := [0, 1, 2, 9]) (L' := [(0, .slice ao1 b.length cp1), (1, .int .u64 p_at), (2, .int .i64 n), (9, .bool z1)]) hf (by kernel_rfl)
  refine st tbOk 2 [0, 1, 2, 7] (L' := [(0, .slice ao1 b.length cp1), (1, .int .u64 p_at), (2, .int .i64 n), (7, .bool (!z1))]) hf (by kernel_rfl) ?_
  clear hf; clear a; intro a hf
  refine wpList_nil ?_
  refine cnd (b := !z1) hf (by kernel_rfl) (fun hb1 => ?_) (fun hb1 => ?_)
  · replace hS := of_t hb1 hS
    refine sq ?_
    refine reg ?_
    refine st tbOk 1 [6] (L' := [(6, .int .i64 1)]) hf (by kernel_rfl) ?_
    clear hf; clear a; intro a hf
    refine wpList_nil ?_
    have hr := Option.some.inj hS; subst hr
    refine wp_ret ?_
    exact ret_ok hf (vs := [.int .i64 1]) (by kernel_rfl) ⟨_, rfl, hs.sel [] rfl rfl⟩
  · replace hS := of_f hb1 hS
    refine sq ?_
    refine reg ?_
    refine st tbOk 5 [13, 14, 16] (L' := [(13, .int .i64 ((b.length : Nat) : Int)), (14, .int .u64 p_at), (16, .int .u64 (IntKind.u64.wrap n))]) hf (by kernel_rfl) ?_
    clear hf; clear a; intro a hf
    have hT := of_bd hS; clear hS; obtain ⟨z2, hz2, hS⟩ := hT
    refine clV ent47 (vs := [.int .i64 ((b.length : Nat) : Int), .int .u64 p_at, .int .u64 (IntKind.u64.wrap n)]) (caps := []) hf (by kernel_rfl) (by kernel_rfl) (by kernel_rfl) (by kernel_rfl) (octets_has_ok (p_many := ((b.length : Nat) : Int)) (p_at := p_at) (size := IntKind.u64.wrap n) (hs.enter [] rfl rfl) hz2) ?_
    clear hf; clear a; intro v w2 a hT hf; obtain ⟨F2, rfl, hr⟩ := hT
    replace hs : Sep w F R w2 F2 [.ro (tI .u8) (.slice ao1 b.length cp1) b] := hs.back [] [0] rfl rfl rfl rfl hr
    clear hr
    replace hs : Sep w F R w2 F2 [] := hs.sel [] rfl rfl
    replace hf := Fr.keep (ks := [17]) (L' := [(17, .bool z2)]) hf (by kernel_rfl)
    refine st tbOk 2 [11] (L' := [(11, .bool (!z2))]) hf (by kernel_rfl) ?_
    clear hf; clear a; intro a hf
    refine wpList_nil ?_
    refine cnd (b := !z2) hf (by kernel_rfl) (fun hb2 => ?_) (fun hb2 => ?_)
    · replace hS := of_t hb2 hS
      refine sq ?_
      refine reg ?_
      refine st tbOk 1 [6] (L' := [(6, .int .i64 10)]) hf (by kernel_rfl) ?_
      clear hf; clear a; intro a hf
      refine wpList_nil ?_
      have hr := Option.some.inj hS; subst hr
      refine wp_ret ?_
      exact ret_ok hf (vs := [.int .i64 10]) (by kernel_rfl) ⟨_, rfl, hs.sel [] rfl rfl⟩
    · replace hS := of_f hb2 hS
      refine wp_skip ?_
      refine sq ?_
      refine reg ?_
      refine st tbOk 1 [6] (L' := [(6, .int .i64 0)]) hf (by kernel_rfl) ?_
      clear hf; clear a; intro a hf
      refine wpList_nil ?_
      have hr := Option.some.inj hS; subst hr
      refine wp_ret ?_
      exact ret_ok hf (vs := [.int .i64 0]) (by kernel_rfl) ⟨_, rfl, hs.sel [] rfl rfl⟩

set_option maxHeartbeats 4000000 in
theorem octets_Set_ok {w : World} {F : SH} {b : List Int} {p_at : Int} {n : Int} {p_x : Int} {ao1 : Option Addr} {cp1 : Nat} (hs : Sep w F (blks [.ro (tI .u8) (.slice ao1 b.length cp1) b]) w F [.ro (tI .u8) (.slice ao1 b.length cp1) b]) {r : (List Int) × Int} (hS : octets_Set b p_at n p_x = some r) :
    Calls Try.prog 42 [.slice ao1 b.length cp1, .int .u64 p_at, .int .i64 n, .int .u64 p_x].toArray w (Gives (fun u w' => ∃ (ao5 : Option Addr) (cp5 : Nat) (F' : SH), u = .tuple #[.slice ao5 r.1.length cp5, .int .i64 r.2] ∧ Sep w F (blks [.ro (tI .u8) (.slice ao1 b.length cp1) b]) w' F' [.row 5 (tI .u8) (.slice ao5 r.1.length cp5) r.1])) := by
  generalize (blks [.ro (tI .u8) (.slice ao1 b.length cp1) b]) = R at hs ⊢
  unfold octets_Set at hS
  refine fn_ok (vs := [.slice ao1 b.length cp1, .int .u64 p_at, .int .i64 n, .int .u64 p_x]) Try.func42 rfl 40 Try.ntmps42 (Nat.le_of_ble_eq_true rfl) ?_
  intro a hf
  replace hf := Fr.cast (L' := [(0, .slice ao1 b.length cp1), (1, .int .u64 p_at), (2, .int .i64 n), (3, .int .u64 p_x)]) hf (by kernel_rfl)
  refine sq ?_
  refine reg ?_
  refine st tbOk 2 [0, 1, 2, 3] (L' := [(0, .slice ao1 b.length cp1), (1, .int .u64 p_at), (2, .int .i64 n), (3, .int .u64 p_x)]) hf (by kernel_rfl) ?_
  clear hf; clear a; intro a hf
  refine wpList_nil ?_
  refine sq ?_
  refine sq ?_
  refine reg ?_
  refine st tbOk 3 [0, 1, 2, 3, 13, 14, 15] (L' := [(0, .slice ao1 b.length cp1), (1, .int .u64 p_at), (2, .int .i64 n), (3, .int .u64 p_x), (13, .slice ao1 b.length cp1), (14, .int .u64 p_at), (15, .int .i64 n)]) hf (by kernel_rfl) ?_
  clear hf; clear a; intro a hf
  have hT := of_bd hS; clear hS; obtain ⟨z1, hz1, hS⟩ := hT
  refine clV ent48 (vs := [.slice ao1 b.length cp1, .int .u64 p_at, .int .i64 n]) (caps := []) hf (by kernel_rfl) (by kernel_rfl) (by kernel_rfl) (by kernel_rfl) (octets_fits_ok (b := b) (p_at := p_at) (n := n) (hs.enter [0] rfl rfl) hz1) ?_
  clear hf; clear a; intro v w1 a hT hf; obtain ⟨F1, rfl, hr⟩ := hT
  replace hs : Sep w F R w1 F1 [.ro (tI .u8) (.slice ao1 b.length cp1) b] := hs.back [0] [0] rfl rfl rfl rfl hr
  clear hr
  replace hf := Fr.keep (ks := [0, 1, 2, 3, 16]) (L' := [(0, .slice ao1 b.length cp1), (1, .int .u64 p_at), (2, .int .i64 n), (3, .int .u64 p_x), (16, .int .i64 z1)]) hf (by kernel_rfl)
  refine st tbOk 1 [0, 1, 2, 3, 10] (L' := [(0, .slice ao1 b.length cp1), (1, .int .u64 p_at), (2, .int .i64 n), (3, .int .u64 p_x), (10, .int .i64 z1)]) hf (by kernel_rfl) ?_
  clear hf; clear a; intro a hf
  refine wpList_nil ?_
  refine sq ?_
  refine reg ?_
  refine st tbOk 2 [0, 1, 2, 3, 10, 18] (L' := [(0, .slice ao1 b.length cp1), (1, .int .u64 p_at), (2, .int .i64 n), (3, .int .u64 p_x), (10, .int .i64 z1), (18, .bool (z1 != 0))]) hf (by kernel_rfl) ?_
  clear hf; clear a; intro a hf
  refine wpList_nil ?_
  refine cnd (b := z1 != 0) hf (by kernel_rfl) (fun hb1 => ?_) (fun hb1 => ?_)
  · replace hS := of_t hb1 hS
    refine sq ?_
    refine reg ?_
    refine st tbOk 3 [8, 9] (L' := [(8, .slice none 0 0), (9, .int .i64 z1)]) hf (by kernel_rfl) ?_
    clear hf; clear a; intro a hf
    refine wpList_nil ?_
    have hr := Option.some.inj hS; subst hr
    refine wp_ret ?_
    replace hs : Sep w F R w1 F1 [.row 5 (tI .u8) (.slice none 0 0) ([] : List Int), .ro (tI .u8) (.slice ao1 b.length cp1) b] := hs.addNil 5 (tI .u8)
    exact ret_ok hf (vs := [.slice none 0 0, .int .i64 z1]) (by kernel_rfl) ⟨none, 0, _, rfl, hs.sel [0] rfl rfl⟩
  · replace hS := of_f hb1 hS
    refine wp_skip ?_
    refine sq ?_
    refine reg ?_
    refine st tbOk 1 [1, 2, 3, 20] (L' := [(1, .int .u64 p_at), (2, .int .i64 n), (3, .int .u64 p_x), (20, .slice ao1 b.length cp1)]) hf (by kernel_rfl) ?_
    clear hf; clear a; intro a hf
    have hT := of_bd hS; clear hS; obtain ⟨z2, hz2, hS⟩ := hT
    refine clV ent40 (vs := [.slice ao1 b.length cp1]) (caps := []) hf (by kernel_rfl) (by kernel_rfl) (by kernel_rfl) (by kernel_rfl) (slices_Clone_byte_byte_ok (s := b) (hs.enter [0] rfl rfl) hz2) ?_
    clear hf; clear a; intro v w2 a hT hf; obtain ⟨ao2, cp2, F2, rfl, hr⟩ := hT
    replace hs : Sep w F R w2 F2 [.row 5 (tI .u8) (.slice ao2 z2.length cp2) z2, .ro (tI .u8) (.slice ao1 b.length cp1) b] := hs.back [0] [0] rfl rfl rfl rfl hr
    clear hr
    replace hs : Sep w F R w2 F2 [.row 5 (tI .u8) (.slice ao2 z2.length cp2) z2] := hs.sel [0] rfl rfl
    replace hf := Fr.keep (ks := [1, 2, 3, 21]) (L' := [(1, .int .u64 p_at), (2, .int .i64 n), (3, .int .u64 p_x), (21, .slice ao2 z2.length cp2)]) hf (by kernel_rfl)
    refine st tbOk 1 [1, 2, 3, 11] (L' := [(1, .int .u64 p_at), (2, .int .i64 n), (3, .int .u64 p_x), (11, .slice ao2 z2.length cp2)]) hf (by kernel_rfl) ?_
    clear hf; clear a; intro a hf
    refine wpList_nil ?_
    refine sq ?_
    refine sq ?_
    refine reg ?_
    refine st tbOk 2 [1, 3, 11, 22, 23] (L' := [(1, .int .u64 p_at), (3, .int .u64 p_x), (11, .slice ao2 z2.length cp2), (22, .int .i64 n), (23, .int .i64 0)]) hf (by kernel_rfl) ?_
    clear hf; clear a; intro a hf
    refine wpList_nil ?_
    refine ctj (fun (s1 : List Int) (a : Act) (w' : World) => ∃ (ao3 : Option Addr) (cp3 : Nat) (F3 : SH), Sep w F R w' F3 [.row 5 (tI .u8) (.slice ao3 s1.length cp3) s1] ∧ Fr 40 [(11, .slice ao3 s1.length cp3)] a) hS ?_ ?_
    · clear hS hf hs; clear a; intro s1 a w5 hM hS
      obtain ⟨ao3, cp3, F3, hs, hf⟩ := hM
      refine sq ?_
      refine reg ?_
      refine st tbOk 3 [8, 9] (L' := [(8, .slice ao3 s1.length cp3), (9, .int .i64 0)]) hf (by kernel_rfl) ?_
      clear hf; clear a; intro a hf
      refine wpList_nil ?_
      have hr := Option.some.inj hS; subst hr
      refine wp_ret ?_
      exact ret_ok hf (vs := [.slice ao3 s1.length cp3, .int .i64 0]) (by kernel_rfl) ⟨ao3, cp3, _, rfl, hs.sel [0] rfl rfl⟩
    · clear hS; intro KK1 k1 hK1 hS
      refine blk ?_
      refine lp (st := (0, z2)) (fun (s2 : Int × (List Int)) (a : Act) (w' : World) => ∃ (ao4 : Option Addr) (cp4 : Nat) (F4 : SH), Sep w F R w' F4 [.row 5 (tI .u8) (.slice ao4 s2.2.length cp4) s2.2] ∧ Fr 40 [(1, .int .u64 p_at), (3, .int .u64 p_x), (11, .slice ao4 s2.2.length cp4), (22, .int .i64 n), (23, .int .i64 s2.1)] a) ?_ ⟨ao2, cp2, _, hs.sel [0] rfl rfl, hf.keep (ks := [1, 3, 11, 22, 23]) (by kernel_rfl)⟩ hS
      clear hS hf hs; clear a
      intro rec1 KK2 hK2 s2 a w3 hM hS
      obtain ⟨ao4, cp4, F4, hs, hf⟩ := hM
      refine sq ?_
      refine reg ?_
      refine st tbOk 1 [1, 3, 11, 22, 23, 24] (L' := [(1, .int .u64 p_at), (3, .int .u64 p_x), (11, .slice ao4 s2.2.length cp4), (22, .int .i64 n), (23, .int .i64 s2.1), (24, .bool (decide (s2.1 < n)))]) hf (by kernel_rfl) ?_
      clear hf; clear a; intro a hf
      refine wpList_nil ?_
      refine sq ?_
      refine cnd (b := decide (s2.1 < n)) hf (by kernel_rfl) (fun hb2 => ?_) (fun hb2 => ?_)
      · replace hS := of_t hb2 hS
        refine wp_skip ?_
        refine sq ?_
        refine blk ?_
        refine sq ?_
        refine reg ?_
        refine st tbOk 2 [1, 3, 11, 12, 22, 23] (L' := [(1, .int .u64 p_at), (3, .int .u64 p_x), (11, .slice ao4 s2.2.length cp4), (12, .int .i64 s2.1), (22, .int .i64 n), (23, .int .i64 s2.1)]) hf (by kernel_rfl) ?_
        clear hf; clear a; intro a hf
        refine wpList_nil ?_
        refine reg ?_
        refine st tbOk 9 [1, 3, 11, 22, 23, 26, 30, 31, 34] (L' := [(1, .int .u64 p_at), (3, .int .u64 p_x), (11, .slice ao4 s2.2.length cp4), (22, .int .i64 n), (23, .int .i64 s2.1), (26, .slice ao4 s2.2.length cp4), (30, .int .i64 (IntKind.i64.wrap ((IntKind.i64.wrap p_at) + s2.1))), (31, .int .u64 p_x), (34, .int .u64 (IntKind.u64.wrap (IntKind.i64.wrap (8 * s2.1))))]) hf (by kernel_rfl) ?_
        clear hf; clear a; intro a hf
        have hT := of_gd hS; clear hS; obtain ⟨hc1, hS⟩ := hT
        refine bin (run_shr (k := .u64) (k' := .u64) (x := p_x) hc1 _) hf (by kernel_rfl) (by kernel_rfl) (by kernel_rfl) (by kernel_rfl) ?_
        clear hf; clear a; intro a hf
        replace hf := Fr.keep (ks := [1, 3, 11, 22, 23, 26, 30, 35]) (L' := [(1, .int .u64 p_at), (3, .int .u64 p_x), (11, .slice ao4 s2.2.length cp4), (22, .int .i64 n), (23, .int .i64 s2.1), (26, .slice ao4 s2.2.length cp4), (30, .int .i64 (IntKind.i64.wrap ((IntKind.i64.wrap p_at) + s2.1))), (35, .int .u64 (shr .u64 p_x (IntKind.u64.wrap (IntKind.i64.wrap (8 * s2.1)))))]) hf (by kernel_rfl)
        refine st tbOk 1 [1, 3, 11, 22, 23, 26, 30, 36] (L' := [(1, .int .u64 p_at), (3, .int .u64 p_x), (11, .slice ao4 s2.2.length cp4), (22, .int .i64 n), (23, .int .i64 s2.1), (26, .slice ao4 s2.2.length cp4), (30, .int .i64 (IntKind.i64.wrap ((IntKind.i64.wrap p_at) + s2.1))), (36, .int .u8 (IntKind.u8.wrap (shr .u64 p_x (IntKind.u64.wrap (IntKind.i64.wrap (8 * s2.1))))))]) hf (by kernel_rfl) ?_
        clear hf; clear a; intro a hf
        have hT := of_gd hS; clear hS; obtain ⟨hc2, hS⟩ := hT
        refine ixW tbOk u22 i5 (hs.own 0 rfl) (k := .i64) (n := IntKind.i64.wrap ((IntKind.i64.wrap p_at) + s2.1)) hc2 hf (by kernel_rfl) (by kernel_rfl) (by kernel_rfl) (by kernel_rfl) ?_
        clear hf; clear a; intro pb1 po1 a hq1 hf
        replace hf := Fr.keep (ks := [1, 3, 11, 22, 23, 36, 37]) (L' := [(1, .int .u64 p_at), (3, .int .u64 p_x), (11, .slice ao4 s2.2.length cp4), (22, .int .i64 n), (23, .int .i64 s2.1), (36, .int .u8 (IntKind.u8.wrap (shr .u64 p_x (IntKind.u64.wrap (IntKind.i64.wrap (8 * s2.1)))))), (37, .pointer (some ⟨pb1, po1, none⟩))]) hf (by kernel_rfl)
        refine stW tbOk i5 rfl (hs.own 0 rfl) hc2 0 hq1 [.int .u8 (IntKind.u8.wrap (shr .u64 p_x (IntKind.u64.wrap (IntKind.i64.wrap (8 * s2.1)))))] (z := IntKind.u8.wrap (shr .u64 p_x (IntKind.u64.wrap (IntKind.i64.wrap (8 * s2.1))))) (fun _ e => (congrArg (fun c => spl c 0 [.int .u8 (IntKind.u8.wrap (shr .u64 p_x (IntKind.u64.wrap (IntKind.i64.wrap (8 * s2.1)))))]) e).trans rfl) (u := .int .u8 (IntKind.u8.wrap (shr .u64 p_x (IntKind.u64.wrap (IntKind.i64.wrap (8 * s2.1)))))) rfl rfl (by kernel_rfl) (by kernel_rfl) hf (by kernel_rfl) (by kernel_rfl) (by kernel_rfl) ?_
        clear hf; clear a; intro w4 a ho hg hf
        replace hs := hs.updRow 0 rfl ho hg (fun _ h => .inl h)
        clear ho hg
        replace hs : Sep w F R w4 F4 [.row 5 (tI .u8) (.slice ao4 (s2.2.set (Int.toNat (IntKind.i64.wrap ((IntKind.i64.wrap p_at) + s2.1))) (IntKind.u8.wrap (shr .u64 p_x (IntKind.u64.wrap (IntKind.i64.wrap (8 * s2.1)))))).length cp4) (s2.2.set (Int.toNat (IntKind.i64.wrap ((IntKind.i64.wrap p_at) + s2.1))) (IntKind.u8.wrap (shr .u64 p_x (IntKind.u64.wrap (IntKind.i64.wrap (8 * s2.1))))))] := Sep.cast hs (by simp only [List.length_set]; rfl)
        replace hf := Fr.cast (L' := [(1, .int .u64 p_at), (3, .int .u64 p_x), (11, .slice ao4 (s2.2.set (Int.toNat (IntKind.i64.wrap ((IntKind.i64.wrap p_at) + s2.1))) (IntKind.u8.wrap (shr .u64 p_x (IntKind.u64.wrap (IntKind.i64.wrap (8 * s2.1)))))).length cp4), (22, .int .i64 n), (23, .int .i64 s2.1), (36, .int .u8 (IntKind.u8.wrap (shr .u64 p_x (IntKind.u64.wrap (IntKind.i64.wrap (8 * s2.1)))))), (37, .pointer (some ⟨pb1, po1, none⟩))]) hf (by simp only [List.length_set])
        replace hf := Fr.keep (ks := [1, 3, 11, 22, 23]) (L' := [(1, .int .u64 p_at), (3, .int .u64 p_x), (11, .slice ao4 (s2.2.set (Int.toNat (IntKind.i64.wrap ((IntKind.i64.wrap p_at) + s2.1))) (IntKind.u8.wrap (shr .u64 p_x (IntKind.u64.wrap (IntKind.i64.wrap (8 * s2.1)))))).length cp4), (22, .int .i64 n), (23, .int .i64 s2.1)]) hf (by kernel_rfl)
        refine wpList_nil ?_
        refine reg ?_
        refine st tbOk 2 [1, 3, 11, 22, 23] (L' := [(1, .int .u64 p_at), (3, .int .u64 p_x), (11, .slice ao4 (s2.2.set (Int.toNat (IntKind.i64.wrap ((IntKind.i64.wrap p_at) + s2.1))) (IntKind.u8.wrap (shr .u64 p_x (IntKind.u64.wrap (IntKind.i64.wrap (8 * s2.1)))))).length cp4), (22, .int .i64 n), (23, .int .i64 (IntKind.i64.wrap (s2.1 + 1)))]) hf (by kernel_rfl) ?_
        clear hf; clear a; intro a hf
        refine wpList_nil ?_
        exact hK2 (IntKind.i64.wrap (s2.1 + 1), (s2.2.set (Int.toNat (IntKind.i64.wrap ((IntKind.i64.wrap p_at) + s2.1))) (IntKind.u8.wrap (shr .u64 p_x (IntKind.u64.wrap (IntKind.i64.wrap (8 * s2.1))))))) _ _ ⟨ao4, cp4, _, hs.sel [0] rfl rfl, hf.keep (ks := [1, 3, 11, 22, 23]) (by kernel_rfl)⟩ hS
      · replace hS := of_f hb2 hS
        refine wp_exit ?_
        exact hK1 s2.2 _ _ ⟨ao4, cp4, _, hs.sel [0] rfl rfl, hf.keep (ks := [11]) (by kernel_rfl)⟩ hS

set_option maxHeartbeats 4000000 in
theorem symbols_Put_1_ok {w : World} {F : SH} {p_x : Int} {n : Int} {q_2 : List Int} {ao1 : Option Addr} {cp1 : Nat} {b1 : Nat} (hs : Sep w F (blks [.box b1 22 [.slice ao1 q_2.length cp1], .row 5 (tI .u8) (.slice ao1 q_2.length cp1) q_2]) w F [.box b1 22 [.slice ao1 q_2.length cp1], .row 5 (tI .u8) (.slice ao1 q_2.length cp1) q_2]) {r : List Int} (hS : symbols_Put_1 p_x n q_2 = some r) :
    Calls Try.prog 41 [.int .u64 p_x, .int .i64 n, .pointer (some ⟨b1, 0, none⟩)].toArray w (Gives (fun u w' => ∃ (ao4 : Option Addr) (cp4 : Nat) (F' : SH), u = .tuple #[] ∧ Sep w F (blks [.box b1 22 [.slice ao1 q_2.length cp1], .row 5 (tI .u8) (.slice ao1 q_2.length cp1) q_2]) w' F' [.box b1 22 [.slice ao4 r.length cp4], .row 5 (tI .u8) (.slice ao4 r.length cp4) r])) := by
  generalize (blks [.box b1 22 [.slice ao1 q_2.length cp1], .row 5 (tI .u8) (.slice ao1 q_2.length cp1) q_2]) = R at hs ⊢
  unfold symbols_Put_1 at hS
  refine fn_ok (vs := [.int .u64 p_x, .int .i64 n, .pointer (some ⟨b1, 0, none⟩)]) Try.func41 rfl 18 Try.ntmps41 (Nat.le_of_ble_eq_true rfl) ?_
  intro a hf
  replace hf := Fr.cast (L' := [(0, .int .u64 p_x), (1, .int .i64 n), (2, .pointer (some ⟨b1, 0, none⟩))]) hf (by kernel_rfl)
  refine sq ?_
  refine reg ?_
  refine st tbOk 1 [0, 1, 2, 8] (L' := [(0, .int .u64 p_x), (1, .int .i64 n), (2, .pointer (some ⟨b1, 0, none⟩)), (8, .int .i64 n)]) hf (by kernel_rfl) ?_
  clear hf; clear a; intro a hf
  have hT := of_gd hS; clear hS; obtain ⟨hc1, hS⟩ := hT
  refine mkR tbOk u22 i5 rfl rfl (t := (tI .u8)) rfl rfl (0 : Int) hs.le rfl (k := .i64) (k' := .i64) (n := n) hc1 hf (by kernel_rfl) (by kernel_rfl) (by kernel_rfl) (by kernel_rfl) ?_
  clear hf; clear a; intro w1 a ho hx hf
  replace hs : Sep w F R w1 F [.row 5 (tI .u8) (.slice (some ⟨w.heap.size, 0, none⟩) (List.replicate (Int.toNat n) (0 : Int)).length (Int.toNat n)) (List.replicate (Int.toNat n) (0 : Int)), .box b1 22 [.slice ao1 q_2.length cp1], .row 5 (tI .u8) (.slice ao1 q_2.length cp1) q_2] := hs.newRow ho hx
  clear ho hx
  replace hf := Fr.keep (ks := [0, 1, 2, 9]) (L' := [(0, .int .u64 p_x), (1, .int .i64 n), (2, .pointer (some ⟨b1, 0, none⟩)), (9, .slice (some ⟨w.heap.size, 0, none⟩) (List.replicate (Int.toNat n) (0 : Int)).length (Int.toNat n))]) hf (by kernel_rfl)
  refine st tbOk 2 [2, 9, 10, 11] (L' := [(2, .pointer (some ⟨b1, 0, none⟩)), (9, .slice (some ⟨w.heap.size, 0, none⟩) (List.replicate (Int.toNat n) (0 : Int)).length (Int.toNat n)), (10, .int .i64 n), (11, .int .u64 p_x)]) hf (by kernel_rfl) ?_
  clear hf; clear a; intro a hf
  have hT := of_bd hS; clear hS; obtain ⟨z1, hz1, hS⟩ := hT
  refine clV ent42 (vs := [.slice (some ⟨w.heap.size, 0, none⟩) (List.replicate (Int.toNat n) (0 : Int)).length (Int.toNat n), .int .u64 0, .int .i64 n, .int .u64 p_x]) (caps := []) hf (by kernel_rfl) (by kernel_rfl) (by kernel_rfl) (by kernel_rfl) (octets_Set_ok (b := (List.replicate (Int.toNat n) (0 : Int))) (p_at := 0) (n := n) (p_x := p_x) (hs.lend [0] [] rfl rfl rfl rfl rfl) hz1) ?_
  clear hf; clear a; intro v w2 a hT hf; obtain ⟨ao2, cp2, F1, rfl, hr⟩ := hT
  replace hs : Sep w F R w2 F [.row 5 (tI .u8) (.slice ao2 z1.1.length cp2) z1.1, .row 5 (tI .u8) (.slice (some ⟨w.heap.size, 0, none⟩) (List.replicate (Int.toNat n) (0 : Int)).length (Int.toNat n)) (List.replicate (Int.toNat n) (0 : Int)), .box b1 22 [.slice ao1 q_2.length cp1], .row 5 (tI .u8) (.slice ao1 q_2.length cp1) q_2] := hs.backL [0] [] [0, 1, 2] rfl rfl rfl rfl rfl rfl hr ⟨(flat_I .u8), trivial⟩
  clear hr
  replace hs : Sep w F R w2 F [.row 5 (tI .u8) (.slice ao2 z1.1.length cp2) z1.1, .box b1 22 [.slice ao1 q_2.length cp1], .row 5 (tI .u8) (.slice ao1 q_2.length cp1) q_2] := hs.sel [0, 2, 3] rfl rfl
  replace hf := Fr.keep (ks := [2, 12]) (L' := [(2, .pointer (some ⟨b1, 0, none⟩)), (12, .tuple #[.slice ao2 z1.1.length cp2, .int .i64 z1.2])]) hf (by kernel_rfl)
  refine st tbOk 5 [2, 5] (L' := [(2, .pointer (some ⟨b1, 0, none⟩)), (5, .slice ao2 z1.1.length cp2)]) hf (by kernel_rfl) ?_
  clear hf; clear a; intro a hf
  refine wpList_nil ?_
  refine reg ?_
  refine ldC tbOk (T := 22) (hs.cbx 1 rfl) (LeH.refl _) 0 (.slice ao1 q_2.length cp1) hf (by kernel_rfl) (by kernel_rfl) (by kernel_rfl) (by kernel_rfl) ?_
  clear hf; clear a; intro a hf
  replace hf := Fr.keep (ks := [2, 5, 15]) (L' := [(2, .pointer (some ⟨b1, 0, none⟩)), (5, .slice ao2 z1.1.length cp2), (15, .slice ao1 q_2.length cp1)]) hf (by kernel_rfl)
  refine st tbOk 1 [2, 15, 16] (L' := [(2, .pointer (some ⟨b1, 0, none⟩)), (15, .slice ao1 q_2.length cp1), (16, .slice ao2 z1.1.length cp2)]) hf (by kernel_rfl) ?_
  clear hf; clear a; intro a hf
  have hT := of_gd hS; clear hS; obtain ⟨hc2, hS⟩ := hT
  refine apR tbOk u22 i5 rfl rfl rfl rfl hs.le (hs.own 2 rfl) (hs.raW 0 rfl) hc2 hf (by kernel_rfl) (by kernel_rfl) (by kernel_rfl) (by kernel_rfl) ?_
  clear hf; clear a; intro ao3 cp3 w3 a ho hg hl hf
  replace hs : Sep w F R w3 F [.row 5 (tI .u8) (.slice ao2 z1.1.length cp2) z1.1, .box b1 22 [.slice ao1 q_2.length cp1], .row 5 (tI .u8) (.slice ao3 (q_2 ++ z1.1).length cp3) (q_2 ++ z1.1)] := hs.updRow 2 rfl ho hg hl
  clear ho hg hl
  replace hs : Sep w F R w3 F [.box b1 22 [.slice ao1 q_2.length cp1], .row 5 (tI .u8) (.slice ao3 (q_2 ++ z1.1).length cp3) (q_2 ++ z1.1)] := hs.sel [1, 2] rfl rfl
  replace hf := Fr.keep (ks := [2, 17]) (L' := [(2, .pointer (some ⟨b1, 0, none⟩)), (17, .slice ao3 (q_2 ++ z1.1).length cp3)]) hf (by kernel_rfl)
  refine stB tbOk i22 (hs.bx 0 rfl) 0 [.slice ao3 (q_2 ++ z1.1).length cp3] [.slice ao3 (q_2 ++ z1.1).length cp3] (v := .slice ao3 (q_2 ++ z1.1).length cp3) rfl rfl (by kernel_rfl) (by kernel_rfl) (by kernel_rfl) (by kernel_rfl) hf (by kernel_rfl) (by kernel_rfl) (by kernel_rfl) ?_
  clear hf; clear a; intro w4 a hb hg _ hf
  replace hs : Sep w F R w4 F [.box b1 22 [.slice ao3 (q_2 ++ z1.1).length cp3], .row 5 (tI .u8) (.slice ao3 (q_2 ++ z1.1).length cp3) (q_2 ++ z1.1)] := hs.updBox 0 rfl hb hg
  clear hb hg
  replace hf := Fr.keep (ks := []) (L' := []) hf (by kernel_rfl)
  refine wpList_nil ?_
  have hr := Option.some.inj hS; subst hr
  exact ret_okN hf (vs := []) (by kernel_rfl) ⟨ao3, cp3, _, rfl, hs.sel [0, 1] rfl rfl⟩

set_option maxHeartbeats 4000000 in
theorem symbols_Put_ok {w : World} {F : SH} {p_s : Int × Int × Int × Int × Int × Int}  (hs : Sep w F (blks []) w F []) {r : List Int} (hS : symbols_Put p_s = some r) :
    Calls Try.prog 26 [.agg #[.int .u32 p_s.1, .int .u8 p_s.2.1, .int .u8 p_s.2.2.1, .int .u16 p_s.2.2.2.1, .int .u64 p_s.2.2.2.2.1, .int .u64 p_s.2.2.2.2.2]].toArray w (Gives (fun u w' => ∃ (ao7 : Option Addr) (cp7 : Nat) (F' : SH), u = .slice ao7 r.length cp7 ∧ Sep w F (blks []) w' F' [.row 5 (tI .u8) (.slice ao7 r.length cp7) r])) := by
  generalize (blks []) = R at hs ⊢
  unfold symbols_Put at hS
  refine fn_ok (vs := [.agg #[.int .u32 p_s.1, .int .u8 p_s.2.1, .int .u8 p_s.2.2.1, .int .u16 p_s.2.2.2.1, .int .u64 p_s.2.2.2.2.1, .int .u64 p_s.2.2.2.2.2]]) Try.func26 rfl 35 Try.ntmps26 (Nat.le_of_ble_eq_true rfl) ?_
  intro a hf
  replace hf := Fr.cast (L' := [(0, .agg #[.int .u32 p_s.1, .int .u8 p_s.2.1, .int .u8 p_s.2.2.1, .int .u16 p_s.2.2.2.1, .int .u64 p_s.2.2.2.2.1, .int .u64 p_s.2.2.2.2.2])]) hf (by kernel_rfl)
  refine sq ?_
  refine reg ?_
  refine bx (T := 65) [.int .u32 p_s.1, .int .u8 p_s.2.1, .int .u8 p_s.2.2.1, .int .u16 p_s.2.2.2.1, .int .u64 p_s.2.2.2.2.1, .int .u64 p_s.2.2.2.2.2] (v := .agg #[.int .u32 p_s.1, .int .u8 p_s.2.1, .int .u8 p_s.2.2.1, .int .u16 p_s.2.2.2.1, .int .u64 p_s.2.2.2.2.1, .int .u64 p_s.2.2.2.2.2]) rfl (by kernel_rfl) hf (by kernel_rfl) (by kernel_rfl) (by kernel_rfl) ?_
  clear hf; clear a; intro w1 a hb hx _ hf
  replace hs : Sep w F R w1 F [.box w.heap.size 65 [.int .u32 p_s.1, .int .u8 p_s.2.1, .int .u8 p_s.2.2.1, .int .u16 p_s.2.2.2.1, .int .u64 p_s.2.2.2.2.1, .int .u64 p_s.2.2.2.2.2]] := hs.newBox hb hx
  clear hb hx
  replace hf := Fr.keep (ks := [1]) (L' := [(1, .pointer (some ⟨w.heap.size, 0, none⟩))]) hf (by kernel_rfl)
  refine st tbOk 1 [1] (L' := [(1, .pointer (some ⟨w.heap.size, 0, none⟩))]) hf (by kernel_rfl) ?_
  clear hf; clear a; intro a hf
  refine wpList_nil ?_
  refine sq ?_
  refine reg ?_
  refine al tbOk i22 [.slice none 0 0] rfl (by kernel_rfl) hf (by kernel_rfl) (by kernel_rfl) ?_
  clear hf; clear a; intro w2 a hb hx _ hf
  replace hs : Sep w F R w2 F [.box w1.heap.size 22 [.slice none 0 0], .box w.heap.size 65 [.int .u32 p_s.1, .int .u8 p_s.2.1, .int .u8 p_s.2.2.1, .int .u16 p_s.2.2.2.1, .int .u64 p_s.2.2.2.2.1, .int .u64 p_s.2.2.2.2.2]] := hs.newBox hb hx
  clear hb hx
  replace hf := Fr.keep (ks := [1, 3]) (L' := [(1, .pointer (some ⟨w.heap.size, 0, none⟩)), (3, .pointer (some ⟨w1.heap.size, 0, none⟩))]) hf (by kernel_rfl)
  refine wpList_nil ?_
  refine sq ?_
  refine reg ?_
  refine st tbOk 2 [1, 3, 4] (L' := [(1, .pointer (some ⟨w.heap.size, 0, none⟩)), (3, .pointer (some ⟨w1.heap.size, 0, none⟩)), (4, .func (.func 41) #[] #[.pointer (some ⟨w1.heap.size, 0, none⟩)])]) hf (by kernel_rfl) ?_
  clear hf; clear a; intro a hf
  refine wpList_nil ?_
  refine sq ?_
  refine reg ?_
  refine st tbOk 2 [1, 3, 4, 6, 7] (L' := [(1, .pointer (some ⟨w.heap.size, 0, none⟩)), (3, .pointer (some ⟨w1.heap.size, 0, none⟩)), (4, .func (.func 41) #[] #[.pointer (some ⟨w1.heap.size, 0, none⟩)]), (6, .func (.func 41) #[] #[.pointer (some ⟨w1.heap.size, 0, none⟩)]), (7, .pointer (some ⟨w.heap.size, 0, none⟩))]) hf (by kernel_rfl) ?_
  clear hf; clear a; intro a hf
  refine ldC tbOk (T := 31) (hs.cbx 1 rfl) (LeH.refl _) 0 (.int .u32 p_s.1) hf (by kernel_rfl) (by kernel_rfl) (by kernel_rfl) (by kernel_rfl) ?_
  clear hf; clear a; intro a hf
  replace hf := Fr.keep (ks := [1, 3, 4, 6, 8]) (L' := [(1, .pointer (some ⟨w.heap.size, 0, none⟩)), (3, .pointer (some ⟨w1.heap.size, 0, none⟩)), (4, .func (.func 41) #[] #[.pointer (some ⟨w1.heap.size, 0, none⟩)]), (6, .func (.func 41) #[] #[.pointer (some ⟨w1.heap.size, 0, none⟩)]), (8, .int .u32 p_s.1)]) hf (by kernel_rfl)
  refine st tbOk 1 [1, 3, 4, 6, 9] (L' := [(1, .pointer (some ⟨w.heap.size, 0, none⟩)), (3, .pointer (some ⟨w1.heap.size, 0, none⟩)), (4, .func (.func 41) #[] #[.pointer (some ⟨w1.heap.size, 0, none⟩)]), (6, .func (.func 41) #[] #[.pointer (some ⟨w1.heap.size, 0, none⟩)]), (9, .int .u64 (IntKind.u64.wrap p_s.1))]) hf (by kernel_rfl) ?_
  clear hf; clear a; intro a hf
  have hT := of_bd hS; clear hS; obtain ⟨z1, hz1, hS⟩ := hT
  replace hs : Sep w F R w2 F [.row 5 (tI .u8) (.slice none 0 0) ([] : List Int), .box w1.heap.size 22 [.slice none 0 0], .box w.heap.size 65 [.int .u32 p_s.1, .int .u8 p_s.2.1, .int .u8 p_s.2.2.1, .int .u16 p_s.2.2.2.1, .int .u64 p_s.2.2.2.2.1, .int .u64 p_s.2.2.2.2.2]] := hs.addNil 5 (tI .u8)
  refine clV ent41 (vs := [.int .u64 (IntKind.u64.wrap p_s.1), .int .i64 4]) (caps := [.pointer (some ⟨w1.heap.size, 0, none⟩)]) hf (by kernel_rfl) (by kernel_rfl) (by kernel_rfl) (by kernel_rfl) (symbols_Put_1_ok (p_x := IntKind.u64.wrap p_s.1) (n := 4) (q_2 := []) (hs.enter [1, 0] rfl rfl) hz1) ?_
  clear hf; clear a; intro v w3 a hT hf; obtain ⟨ao1, cp1, F1, rfl, hr⟩ := hT
  replace hs : Sep w F R w3 F1 [.box w1.heap.size 22 [.slice ao1 z1.length cp1], .row 5 (tI .u8) (.slice ao1 z1.length cp1) z1, .box w.heap.size 65 [.int .u32 p_s.1, .int .u8 p_s.2.1, .int .u8 p_s.2.2.1, .int .u16 p_s.2.2.2.1, .int .u64 p_s.2.2.2.2.1, .int .u64 p_s.2.2.2.2.2]] := hs.back [1, 0] [2] rfl rfl rfl rfl hr
  clear hr
  replace hf := Fr.keep (ks := [1, 3, 4]) (L' := [(1, .pointer (some ⟨w.heap.size, 0, none⟩)), (3, .pointer (some ⟨w1.heap.size, 0, none⟩)), (4, .func (.func 41) #[] #[.pointer (some ⟨w1.heap.size, 0, none⟩)])]) hf (by kernel_rfl)
  refine wpList_nil ?_
  refine sq ?_
  refine reg ?_
  refine st tbOk 2 [1, 3, 4, 11, 12] (L' := [(1, .pointer (some ⟨w.heap.size, 0, none⟩)), (3, .pointer (some ⟨w1.heap.size, 0, none⟩)), (4, .func (.func 41) #[] #[.pointer (some ⟨w1.heap.size, 0, none⟩)]), (11, .func (.func 41) #[] #[.pointer (some ⟨w1.heap.size, 0, none⟩)]), (12, .pointer (some ⟨w.heap.size, 1, none⟩))]) hf (by kernel_rfl) ?_
  clear hf; clear a; intro a hf
  refine ldC tbOk (T := 5) (hs.cbx 2 rfl) (LeH.refl _) 1 (.int .u8 p_s.2.1) hf (by kernel_rfl) (by kernel_rfl) (by kernel_rfl) (by kernel_rfl) ?_
  clear hf; clear a; intro a hf
  replace hf := Fr.keep (ks := [1, 3, 4, 11, 13]) (L' := [(1, .pointer (some ⟨w.heap.size, 0, none⟩)), (3, .pointer (some ⟨w1.heap.size, 0, none⟩)), (4, .func (.func 41) #[] #[.pointer (some ⟨w1.heap.size, 0, none⟩)]), (11, .func (.func 41) #[] #[.pointer (some ⟨w1.heap.size, 0, none⟩)]), (13, .int .u8 p_s.2.1)]) hf (by kernel_rfl)
  refine st tbOk 1 [1, 3, 4, 11, 14] (L' := [(1, .pointer (some ⟨w.heap.size, 0, none⟩)), (3, .pointer (some ⟨w1.heap.size, 0, none⟩)), (4, .func (.func 41) #[] #[.pointer (some ⟨w1.heap.size, 0, none⟩)]), (11, .func (.func 41) #[] #[.pointer (some ⟨w1.heap.size, 0, none⟩)]), (14, .int .u64 (IntKind.u64.wrap p_s.2.1))]) hf (by kernel_rfl) ?_
  clear hf; clear a; intro a hf
  have hT := of_bd hS; clear hS; obtain ⟨z2, hz2, hS⟩ := hT
  refine clV ent41 (vs := [.int .u64 (IntKind.u64.wrap p_s.2.1), .int .i64 1]) (caps := [.pointer (some ⟨w1.heap.size, 0, none⟩)]) hf (by kernel_rfl) (by kernel_rfl) (by kernel_rfl) (by kernel_rfl) (symbols_Put_1_ok (p_x := IntKind.u64.wrap p_s.2.1) (n := 1) (q_2 := z1) (hs.enter [0, 1] rfl rfl) hz2) ?_
  clear hf; clear a; intro v w4 a hT hf; obtain ⟨ao2, cp2, F2, rfl, hr⟩ := hT
  replace hs : Sep w F R w4 F2 [.box w1.heap.size 22 [.slice ao2 z2.length cp2], .row 5 (tI .u8) (.slice ao2 z2.length cp2) z2, .box w.heap.size 65 [.int .u32 p_s.1, .int .u8 p_s.2.1, .int .u8 p_s.2.2.1, .int .u16 p_s.2.2.2.1, .int .u64 p_s.2.2.2.2.1, .int .u64 p_s.2.2.2.2.2]] := hs.back [0, 1] [2] rfl rfl rfl rfl hr
  clear hr
  replace hf := Fr.keep (ks := [1, 3, 4]) (L' := [(1, .pointer (some ⟨w.heap.size, 0, none⟩)), (3, .pointer (some ⟨w1.heap.size, 0, none⟩)), (4, .func (.func 41) #[] #[.pointer (some ⟨w1.heap.size, 0, none⟩)])]) hf (by kernel_rfl)
  refine wpList_nil ?_
  refine sq ?_
  refine reg ?_
  refine st tbOk 2 [1, 3, 4, 16, 17] (L' := [(1, .pointer (some ⟨w.heap.size, 0, none⟩)), (3, .pointer (some ⟨w1.heap.size, 0, none⟩)), (4, .func (.func 41) #[] #[.pointer (some ⟨w1.heap.size, 0, none⟩)]), (16, .func (.func 41) #[] #[.pointer (some ⟨w1.heap.size, 0, none⟩)]), (17, .pointer (some ⟨w.heap.size, 2, none⟩))]) hf (by kernel_rfl) ?_
  clear hf; clear a; intro a hf
  refine ldC tbOk (T := 5) (hs.cbx 2 rfl) (LeH.refl _) 2 (.int .u8 p_s.2.2.1) hf (by kernel_rfl) (by kernel_rfl) (by kernel_rfl) (by kernel_rfl) ?_
  clear hf; clear a; intro a hf
  replace hf := Fr.keep (ks := [1, 3, 4, 16, 18]) (L' := [(1, .pointer (some ⟨w.heap.size, 0, none⟩)), (3, .pointer (some ⟨w1.heap.size, 0, none⟩)), (4, .func (.func 41) #[] #[.pointer (some ⟨w1.heap.size, 0, none⟩)]), (16, .func (.func 41) #[] #[.pointer (some ⟨w1.heap.size, 0, none⟩)]), (18, .int .u8 p_s.2.2.1)]) hf (by kernel_rfl)
  refine st tbOk 1 [1, 3, 4, 16, 19] (L' := [(1, .pointer (some ⟨w.heap.size, 0, none⟩)), (3, .pointer (some ⟨w1.heap.size, 0, none⟩)), (4, .func (.func 41) #[] #[.pointer (some ⟨w1.heap.size, 0, none⟩)]), (16, .func (.func 41) #[] #[.pointer (some ⟨w1.heap.size, 0, none⟩)]), (19, .int .u64 (IntKind.u64.wrap p_s.2.2.1))]) hf (by kernel_rfl) ?_
  clear hf; clear a; intro a hf
  have hT := of_bd hS; clear hS; obtain ⟨z3, hz3, hS⟩ := hT
  refine clV ent41 (vs := [.int .u64 (IntKind.u64.wrap p_s.2.2.1), .int .i64 1]) (caps := [.pointer (some ⟨w1.heap.size, 0, none⟩)]) hf (by kernel_rfl) (by kernel_rfl) (by kernel_rfl) (by kernel_rfl) (symbols_Put_1_ok (p_x := IntKind.u64.wrap p_s.2.2.1) (n := 1) (q_2 := z2) (hs.enter [0, 1] rfl rfl) hz3) ?_
  clear hf; clear a; intro v w5 a hT hf; obtain ⟨ao3, cp3, F3, rfl, hr⟩ := hT
  replace hs : Sep w F R w5 F3 [.box w1.heap.size 22 [.slice ao3 z3.length cp3], .row 5 (tI .u8) (.slice ao3 z3.length cp3) z3, .box w.heap.size 65 [.int .u32 p_s.1, .int .u8 p_s.2.1, .int .u8 p_s.2.2.1, .int .u16 p_s.2.2.2.1, .int .u64 p_s.2.2.2.2.1, .int .u64 p_s.2.2.2.2.2]] := hs.back [0, 1] [2] rfl rfl rfl rfl hr
  clear hr
  replace hf := Fr.keep (ks := [1, 3, 4]) (L' := [(1, .pointer (some ⟨w.heap.size, 0, none⟩)), (3, .pointer (some ⟨w1.heap.size, 0, none⟩)), (4, .func (.func 41) #[] #[.pointer (some ⟨w1.heap.size, 0, none⟩)])]) hf (by kernel_rfl)
  refine wpList_nil ?_
  refine sq ?_
  refine reg ?_
  refine st tbOk 2 [1, 3, 4, 21, 22] (L' := [(1, .pointer (some ⟨w.heap.size, 0, none⟩)), (3, .pointer (some ⟨w1.heap.size, 0, none⟩)), (4, .func (.func 41) #[] #[.pointer (some ⟨w1.heap.size, 0, none⟩)]), (21, .func (.func 41) #[] #[.pointer (some ⟨w1.heap.size, 0, none⟩)]), (22, .pointer (some ⟨w.heap.size, 3, none⟩))]) hf (by kernel_rfl) ?_
  clear hf; clear a; intro a hf
  refine ldC tbOk (T := 63) (hs.cbx 2 rfl) (LeH.refl _) 3 (.int .u16 p_s.2.2.2.1) hf (by kernel_rfl) (by kernel_rfl) (by kernel_rfl) (by kernel_rfl) ?_
  clear hf; clear a; intro a hf
  replace hf := Fr.keep (ks := [1, 3, 4, 21, 23]) (L' := [(1, .pointer (some ⟨w.heap.size, 0, none⟩)), (3, .pointer (some ⟨w1.heap.size, 0, none⟩)), (4, .func (.func 41) #[] #[.pointer (some ⟨w1.heap.size, 0, none⟩)]), (21, .func (.func 41) #[] #[.pointer (some ⟨w1.heap.size, 0, none⟩)]), (23, .int .u16 p_s.2.2.2.1)]) hf (by kernel_rfl)
  refine st tbOk 1 [1, 3, 4, 21, 24] (L' := [(1, .pointer (some ⟨w.heap.size, 0, none⟩)), (3, .pointer (some ⟨w1.heap.size, 0, none⟩)), (4, .func (.func 41) #[] #[.pointer (some ⟨w1.heap.size, 0, none⟩)]), (21, .func (.func 41) #[] #[.pointer (some ⟨w1.heap.size, 0, none⟩)]), (24, .int .u64 (IntKind.u64.wrap p_s.2.2.2.1))]) hf (by kernel_rfl) ?_
  clear hf; clear a; intro a hf
  have hT := of_bd hS; clear hS; obtain ⟨z4, hz4, hS⟩ := hT
  refine clV ent41 (vs := [.int .u64 (IntKind.u64.wrap p_s.2.2.2.1), .int .i64 2]) (caps := [.pointer (some ⟨w1.heap.size, 0, none⟩)]) hf (by kernel_rfl) (by kernel_rfl) (by kernel_rfl) (by kernel_rfl) (symbols_Put_1_ok (p_x := IntKind.u64.wrap p_s.2.2.2.1) (n := 2) (q_2 := z3) (hs.enter [0, 1] rfl rfl) hz4) ?_
  clear hf; clear a; intro v w6 a hT hf; obtain ⟨ao4, cp4, F4, rfl, hr⟩ := hT
  replace hs : Sep w F R w6 F4 [.box w1.heap.size 22 [.slice ao4 z4.length cp4], .row 5 (tI .u8) (.slice ao4 z4.length cp4) z4, .box w.heap.size 65 [.int .u32 p_s.1, .int .u8 p_s.2.1, .int .u8 p_s.2.2.1, .int .u16 p_s.2.2.2.1, .int .u64 p_s.2.2.2.2.1, .int .u64 p_s.2.2.2.2.2]] := hs.back [0, 1] [2] rfl rfl rfl rfl hr
  clear hr
  replace hf := Fr.keep (ks := [1, 3, 4]) (L' := [(1, .pointer (some ⟨w.heap.size, 0, none⟩)), (3, .pointer (some ⟨w1.heap.size, 0, none⟩)), (4, .func (.func 41) #[] #[.pointer (some ⟨w1.heap.size, 0, none⟩)])]) hf (by kernel_rfl)
  refine wpList_nil ?_
  refine sq ?_
  refine reg ?_
  refine st tbOk 2 [1, 3, 4, 26, 27] (L' := [(1, .pointer (some ⟨w.heap.size, 0, none⟩)), (3, .pointer (some ⟨w1.heap.size, 0, none⟩)), (4, .func (.func 41) #[] #[.pointer (some ⟨w1.heap.size, 0, none⟩)]), (26, .func (.func 41) #[] #[.pointer (some ⟨w1.heap.size, 0, none⟩)]), (27, .pointer (some ⟨w.heap.size, 4, none⟩))]) hf (by kernel_rfl) ?_
  clear hf; clear a; intro a hf
  refine ldC tbOk (T := 23) (hs.cbx 2 rfl) (LeH.refl _) 4 (.int .u64 p_s.2.2.2.2.1) hf (by kernel_rfl) (by kernel_rfl) (by kernel_rfl) (by kernel_rfl) ?_
  clear hf; clear a; intro a hf
  replace hf := Fr.keep (ks := [1, 3, 4, 26, 28]) (L' := [(1, .pointer (some ⟨w.heap.size, 0, none⟩)), (3, .pointer (some ⟨w1.heap.size, 0, none⟩)), (4, .func (.func 41) #[] #[.pointer (some ⟨w1.heap.size, 0, none⟩)]), (26, .func (.func 41) #[] #[.pointer (some ⟨w1.heap.size, 0, none⟩)]), (28, .int .u64 p_s.2.2.2.2.1)]) hf (by kernel_rfl)
  have hT := of_bd hS; clear hS; obtain ⟨z5, hz5, hS⟩ := hT
  refine clV ent41 (vs := [.int .u64 p_s.2.2.2.2.1, .int .i64 8]) (caps := [.pointer (some ⟨w1.heap.size, 0, none⟩)]) hf (by kernel_rfl) (by kernel_rfl) (by kernel_rfl) (by kernel_rfl) (symbols_Put_1_ok (p_x := p_s.2.2.2.2.1) (n := 8) (q_2 := z4) (hs.enter [0, 1] rfl rfl) hz5) ?_
  clear hf; clear a; intro v w7 a hT hf; obtain ⟨ao5, cp5, F5, rfl, hr⟩ := hT
  replace hs : Sep w F R w7 F5 [.box w1.heap.size 22 [.slice ao5 z5.length cp5], .row 5 (tI .u8) (.slice ao5 z5.length cp5) z5, .box w.heap.size 65 [.int .u32 p_s.1, .int .u8 p_s.2.1, .int .u8 p_s.2.2.1, .int .u16 p_s.2.2.2.1, .int .u64 p_s.2.2.2.2.1, .int .u64 p_s.2.2.2.2.2]] := hs.back [0, 1] [2] rfl rfl rfl rfl hr
  clear hr
  replace hf := Fr.keep (ks := [1, 3, 4]) (L' := [(1, .pointer (some ⟨w.heap.size, 0, none⟩)), (3, .pointer (some ⟨w1.heap.size, 0, none⟩)), (4, .func (.func 41) #[] #[.pointer (some ⟨w1.heap.size, 0, none⟩)])]) hf (by kernel_rfl)
  refine wpList_nil ?_
  refine sq ?_
  refine reg ?_
  refine st tbOk 2 [3, 30, 31] (L' := [(3, .pointer (some ⟨w1.heap.size, 0, none⟩)), (30, .func (.func 41) #[] #[.pointer (some ⟨w1.heap.size, 0, none⟩)]), (31, .pointer (some ⟨w.heap.size, 5, none⟩))]) hf (by kernel_rfl) ?_
  clear hf; clear a; intro a hf
  refine ldC tbOk (T := 23) (hs.cbx 2 rfl) (LeH.refl _) 5 (.int .u64 p_s.2.2.2.2.2) hf (by kernel_rfl) (by kernel_rfl) (by kernel_rfl) (by kernel_rfl) ?_
  clear hf; clear a; intro a hf
  replace hs : Sep w F R w7 F5 [.box w1.heap.size 22 [.slice ao5 z5.length cp5], .row 5 (tI .u8) (.slice ao5 z5.length cp5) z5] := hs.sel [0, 1] rfl rfl
  replace hf := Fr.keep (ks := [3, 30, 32]) (L' := [(3, .pointer (some ⟨w1.heap.size, 0, none⟩)), (30, .func (.func 41) #[] #[.pointer (some ⟨w1.heap.size, 0, none⟩)]), (32, .int .u64 p_s.2.2.2.2.2)]) hf (by kernel_rfl)
  have hT := of_bd hS; clear hS; obtain ⟨z6, hz6, hS⟩ := hT
  refine clV ent41 (vs := [.int .u64 p_s.2.2.2.2.2, .int .i64 8]) (caps := [.pointer (some ⟨w1.heap.size, 0, none⟩)]) hf (by kernel_rfl) (by kernel_rfl) (by kernel_rfl) (by kernel_rfl) (symbols_Put_1_ok (p_x := p_s.2.2.2.2.2) (n := 8) (q_2 := z5) (hs.enter [0, 1] rfl rfl) hz6) ?_
  clear hf; clear a; intro v w8 a hT hf; obtain ⟨ao6, cp6, F6, rfl, hr⟩ := hT
  replace hs : Sep w F R w8 F6 [.box w1.heap.size 22 [.slice ao6 z6.length cp6], .row 5 (tI .u8) (.slice ao6 z6.length cp6) z6] := hs.back [0, 1] [] rfl rfl rfl rfl hr
  clear hr
  replace hf := Fr.keep (ks := [3]) (L' := [(3, .pointer (some ⟨w1.heap.size, 0, none⟩))]) hf (by kernel_rfl)
  refine wpList_nil ?_
  refine sq ?_
  refine reg ?_
  refine ldC tbOk (T := 22) (hs.cbx 0 rfl) (LeH.refl _) 0 (.slice ao6 z6.length cp6) hf (by kernel_rfl) (by kernel_rfl) (by kernel_rfl) (by kernel_rfl) ?_
  clear hf; clear a; intro a hf
  replace hs : Sep w F R w8 F6 [.row 5 (tI .u8) (.slice ao6 z6.length cp6) z6] := hs.sel [1] rfl rfl
  replace hf := Fr.keep (ks := [34]) (L' := [(34, .slice ao6 z6.length cp6)]) hf (by kernel_rfl)
  refine st tbOk 1 [2] (L' := [(2, .slice ao6 z6.length cp6)]) hf (by kernel_rfl) ?_
  clear hf; clear a; intro a hf
  refine wpList_nil ?_
  have hr := Option.some.inj hS; subst hr
  refine wp_ret ?_
  exact ret_ok hf (vs := [.slice ao6 z6.length cp6]) (by kernel_rfl) ⟨ao6, cp6, _, rfl, hs.sel [0] rfl rfl⟩

set_option maxHeartbeats 4000000 in
theorem octets_Get_ok {w : World} {F : SH} {b : List Int} {p_at : Int} {n : Int} {ao1 : Option Addr} {cp1 : Nat} (hs : Sep w F (blks [.ro (tI .u8) (.slice ao1 b.length cp1) b]) w F [.ro (tI .u8) (.slice ao1 b.length cp1) b]) {r : Int × Int} (hS : octets_Get b p_at n = some r) :
    Calls Try.prog 50 [.slice ao1 b.length cp1, .int .u64 p_at, .int .i64 n].toArray w (Gives (fun u w' => ∃ (F' : SH), u = .tuple #[.int .u64 r.1, .int .i64 r.2] ∧ Sep w F (blks [.ro (tI .u8) (.slice ao1 b.length cp1) b]) w' F' [])) := by
  generalize (blks [.ro (tI .u8) (.slice ao1 b.length cp1) b]) = R at hs ⊢
  unfold octets_Get at hS
  refine fn_ok (vs := [.slice ao1 b.length cp1, .int .u64 p_at, .int .i64 n]) Try.func50 rfl 38 Try.ntmps50 (Nat.le_of_ble_eq_true rfl) ?_
  intro a hf
  replace hf := Fr.cast (L' := [(0, .slice ao1 b.length cp1), (1, .int .u64 p_at), (2, .int .i64 n)]) hf (by kernel_rfl)
  refine sq ?_
  refine reg ?_
  refine st tbOk 2 [0, 1, 2] (L' := [(0, .slice ao1 b.length cp1), (1, .int .u64 p_at), (2, .int .i64 n)]) hf (by kernel_rfl) ?_
  clear hf; clear a; intro a hf
  refine wpList_nil ?_
  refine sq ?_
  refine sq ?_
  refine reg ?_
  refine st tbOk 3 [0, 1, 2, 11, 12, 13] (L' := [(0, .slice ao1 b.length cp1), (1, .int .u64 p_at), (2, .int .i64 n), (11, .slice ao1 b.length cp1), (12, .int .u64 p_at), (13, .int .i64 n)]) hf (by kernel_rfl) ?_
  clear hf; clear a; intro a hf
  have hT := of_bd hS; clear hS; obtain ⟨z1, hz1, hS⟩ := hT
  refine clV ent48 (vs := [.slice ao1 b.length cp1, .int .u64 p_at, .int .i64 n]) (caps := []) hf (by kernel_rfl) (by kernel_rfl) (by kernel_rfl) (by kernel_rfl) (octets_fits_ok (b := b) (p_at := p_at) (n := n) (hs.enter [0] rfl rfl) hz1) ?_
  clear hf; clear a; intro v w1 a hT hf; obtain ⟨F1, rfl, hr⟩ := hT
  replace hs : Sep w F R w1 F1 [.ro (tI .u8) (.slice ao1 b.length cp1) b] := hs.back [0] [0] rfl rfl rfl rfl hr
  clear hr
  replace hf := Fr.keep (ks := [0, 1, 2, 14]) (L' := [(0, .slice ao1 b.length cp1), (1, .int .u64 p_at), (2, .int .i64 n), (14, .int .i64 z1)]) hf (by kernel_rfl)
  refine st tbOk 1 [0, 1, 2, 8] (L' := [(0, .slice ao1 b.length cp1), (1, .int .u64 p_at), (2, .int .i64 n), (8, .int .i64 z1)]) hf (by kernel_rfl) ?_
  clear hf; clear a; intro a hf
  refine wpList_nil ?_
  refine sq ?_
  refine reg ?_
  refine st tbOk 2 [0, 1, 2, 8, 16] (L' := [(0, .slice ao1 b.length cp1), (1, .int .u64 p_at), (2, .int .i64 n), (8, .int .i64 z1), (16, .bool (z1 != 0))]) hf (by kernel_rfl) ?_
  clear hf; clear a; intro a hf
  refine wpList_nil ?_
  refine cnd (b := z1 != 0) hf (by kernel_rfl) (fun hb1 => ?_) (fun hb1 => ?_)
  · replace hS := of_t hb1 hS
    refine sq ?_
    refine reg ?_
    refine st tbOk 3 [6, 7] (L' := [(6, .int .u64 0), (7, .int .i64 z1)]) hf (by kernel_rfl) ?_
    clear hf; clear a; intro a hf
    refine wpList_nil ?_
    have hr := Option.some.inj hS; subst hr
    refine wp_ret ?_
    exact ret_ok hf (vs := [.int .u64 0, .int .i64 z1]) (by kernel_rfl) ⟨_, rfl, hs.sel [] rfl rfl⟩
  · replace hS := of_f hb1 hS
    refine wp_skip ?_
    refine sq ?_
    refine reg ?_
    refine st tbOk 1 [0, 1, 2, 9] (L' := [(0, .slice ao1 b.length cp1), (1, .int .u64 p_at), (2, .int .i64 n), (9, .int .u64 0)]) hf (by kernel_rfl) ?_
    clear hf; clear a; intro a hf
    refine wpList_nil ?_
    refine sq ?_
    refine sq ?_
    refine reg ?_
    refine st tbOk 2 [0, 1, 9, 18, 19] (L' := [(0, .slice ao1 b.length cp1), (1, .int .u64 p_at), (9, .int .u64 0), (18, .int .i64 n), (19, .int .i64 0)]) hf (by kernel_rfl) ?_
    clear hf; clear a; intro a hf
    refine wpList_nil ?_
    refine ctj (fun (s1 : Int) (a : Act) (w' : World) => ∃ (F2 : SH), Sep w F R w' F2 [] ∧ Fr 38 [(9, .int .u64 s1)] a) hS ?_ ?_
    · clear hS hf hs; clear a; intro s1 a w3 hM hS
      obtain ⟨F2, hs, hf⟩ := hM
      refine sq ?_
      refine reg ?_
      refine st tbOk 3 [6, 7] (L' := [(6, .int .u64 s1), (7, .int .i64 0)]) hf (by kernel_rfl) ?_
      clear hf; clear a; intro a hf
      refine wpList_nil ?_
      have hr := Option.some.inj hS; subst hr
      refine wp_ret ?_
      exact ret_ok hf (vs := [.int .u64 s1, .int .i64 0]) (by kernel_rfl) ⟨_, rfl, hs.sel [] rfl rfl⟩
    · clear hS; intro KK1 k1 hK1 hS
      refine blk ?_
      refine lp (st := (0, 0)) (fun (s2 : Int × Int) (a : Act) (w' : World) => ∃ (F3 : SH), Sep w F R w' F3 [.ro (tI .u8) (.slice ao1 b.length cp1) b] ∧ Fr 38 [(0, .slice ao1 b.length cp1), (1, .int .u64 p_at), (9, .int .u64 s2.1), (18, .int .i64 n), (19, .int .i64 s2.2)] a) ?_ ⟨_, hs.sel [0] rfl rfl, hf.keep (ks := [0, 1, 9, 18, 19]) (by kernel_rfl)⟩ hS
      clear hS hf hs; clear a
      intro rec1 KK2 hK2 s2 a w2 hM hS
      obtain ⟨F3, hs, hf⟩ := hM
      refine sq ?_
      refine reg ?_
      refine st tbOk 1 [0, 1, 9, 18, 19, 20] (L' := [(0, .slice ao1 b.length cp1), (1, .int .u64 p_at), (9, .int .u64 s2.1), (18, .int .i64 n), (19, .int .i64 s2.2), (20, .bool (decide (s2.2 < n)))]) hf (by kernel_rfl) ?_
      clear hf; clear a; intro a hf
      refine wpList_nil ?_
      refine sq ?_
      refine cnd (b := decide (s2.2 < n)) hf (by kernel_rfl) (fun hb2 => ?_) (fun hb2 => ?_)
      · replace hS := of_t hb2 hS
        refine wp_skip ?_
        refine sq ?_
        refine blk ?_
        refine sq ?_
        refine reg ?_
        refine st tbOk 2 [0, 1, 9, 10, 18, 19] (L' := [(0, .slice ao1 b.length cp1), (1, .int .u64 p_at), (9, .int .u64 s2.1), (10, .int .i64 s2.2), (18, .int .i64 n), (19, .int .i64 s2.2)]) hf (by kernel_rfl) ?_
        clear hf; clear a; intro a hf
        refine wpList_nil ?_
        refine reg ?_
        refine st tbOk 6 [0, 1, 10, 18, 19, 22, 23, 27] (L' := [(0, .slice ao1 b.length cp1), (1, .int .u64 p_at), (10, .int .i64 s2.2), (18, .int .i64 n), (19, .int .i64 s2.2), (22, .int .u64 s2.1), (23, .slice ao1 b.length cp1), (27, .int .i64 (IntKind.i64.wrap ((IntKind.i64.wrap p_at) + s2.2)))]) hf (by kernel_rfl) ?_
        clear hf; clear a; intro a hf
        have hT := of_gd hS; clear hS; obtain ⟨hc1, hS⟩ := hT
        refine ixR tbOk u22 i5 rfl rfl ((hs.ro 0 rfl).ra (LeH.refl _)) (k := .i64) (n := IntKind.i64.wrap ((IntKind.i64.wrap p_at) + s2.2)) hc1 hf (by kernel_rfl) (by kernel_rfl) (by kernel_rfl) (by kernel_rfl) ?_
        clear hf; clear a; intro pb1 po1 c1 a hp1 hr1 hf
        obtain rfl : c1 = [.int .u8 (gt b (IntKind.i64.wrap ((IntKind.i64.wrap p_at) + s2.2)))] := hr1
        replace hs : Sep w F R w2 F3 [.cel pb1 po1 [.int .u8 (gt b (IntKind.i64.wrap ((IntKind.i64.wrap p_at) + s2.2)))], .ro (tI .u8) (.slice ao1 b.length cp1) b] := hs.addCel hp1
        replace hf := Fr.keep (ks := [0, 1, 10, 18, 19, 22, 28]) (L' := [(0, .slice ao1 b.length cp1), (1, .int .u64 p_at), (10, .int .i64 s2.2), (18, .int .i64 n), (19, .int .i64 s2.2), (22, .int .u64 s2.1), (28, .pointer (some ⟨pb1, po1, none⟩))]) hf (by kernel_rfl)
        refine ldC tbOk (T := 5) (hs.ccel 0 rfl) (LeH.refl _) 0 (.int .u8 (gt b (IntKind.i64.wrap ((IntKind.i64.wrap p_at) + s2.2)))) hf (by kernel_rfl) (by kernel_rfl) (by kernel_rfl) (by kernel_rfl) ?_
        clear hf; clear a; intro a hf
        replace hs : Sep w F R w2 F3 [.ro (tI .u8) (.slice ao1 b.length cp1) b] := hs.sel [1] rfl rfl
        replace hf := Fr.keep (ks := [0, 1, 10, 18, 19, 22, 29]) (L' := [(0, .slice ao1 b.length cp1), (1, .int .u64 p_at), (10, .int .i64 s2.2), (18, .int .i64 n), (19, .int .i64 s2.2), (22, .int .u64 s2.1), (29, .int .u8 (gt b (IntKind.i64.wrap ((IntKind.i64.wrap p_at) + s2.2))))]) hf (by kernel_rfl)
        refine st tbOk 4 [0, 1, 18, 19, 22, 30, 33] (L' := [(0, .slice ao1 b.length cp1), (1, .int .u64 p_at), (18, .int .i64 n), (19, .int .i64 s2.2), (22, .int .u64 s2.1), (30, .int .u64 (IntKind.u64.wrap (gt b (IntKind.i64.wrap ((IntKind.i64.wrap p_at) + s2.2))))), (33, .int .u64 (IntKind.u64.wrap (IntKind.i64.wrap (8 * s2.2))))]) hf (by kernel_rfl) ?_
        clear hf; clear a; intro a hf
        have hT := of_gd hS; clear hS; obtain ⟨hc2, hS⟩ := hT
        refine bin (run_shl (k := .u64) (k' := .u64) (x := IntKind.u64.wrap (gt b (IntKind.i64.wrap ((IntKind.i64.wrap p_at) + s2.2)))) hc2 _) hf (by kernel_rfl) (by kernel_rfl) (by kernel_rfl) (by kernel_rfl) ?_
        clear hf; clear a; intro a hf
        replace hf := Fr.keep (ks := [0, 1, 18, 19, 22, 34]) (L' := [(0, .slice ao1 b.length cp1), (1, .int .u64 p_at), (18, .int .i64 n), (19, .int .i64 s2.2), (22, .int .u64 s2.1), (34, .int .u64 (shl .u64 (IntKind.u64.wrap (gt b (IntKind.i64.wrap ((IntKind.i64.wrap p_at) + s2.2)))) (IntKind.u64.wrap (IntKind.i64.wrap (8 * s2.2)))))]) hf (by kernel_rfl)
        have hT := of_let hS; clear hS; obtain ⟨x_1, hl1, hS⟩ := hT
        refine st tbOk 2 [0, 1, 9, 18, 19] (L' := [(0, .slice ao1 b.length cp1), (1, .int .u64 p_at), (9, .int .u64 x_1), (18, .int .i64 n), (19, .int .i64 s2.2)]) hf (by subst hl1; kernel_rfl) ?_
        clear hf; clear a; intro a hf
        refine wpList_nil ?_
        refine reg ?_
        refine st tbOk 2 [0, 1, 9, 18, 19] (L' := [(0, .slice ao1 b.length cp1), (1, .int .u64 p_at), (9, .int .u64 x_1), (18, .int .i64 n), (19, .int .i64 (IntKind.i64.wrap (s2.2 + 1)))]) hf (by kernel_rfl) ?_
        clear hf; clear a; intro a hf
        refine wpList_nil ?_
        exact hK2 (x_1, IntKind.i64.wrap (s2.2 + 1)) _ _ ⟨_, hs.sel [0] rfl rfl, hf.keep (ks := [0, 1, 9, 18, 19]) (by kernel_rfl)⟩ hS
      · replace hS := of_f hb2 hS
        refine wp_exit ?_
        exact hK1 s2.1 _ _ ⟨_, hs.sel [] rfl rfl, hf.keep (ks := [9]) (by kernel_rfl)⟩ hS

set_option maxHeartbeats 4000000 in
theorem symbols_one_1_ok {w : World} {F : SH} {place : Int} {n : Int} {q_2 : List Int} {ao1 : Option Addr} {cp1 : Nat} {b1 : Nat} (hs : Sep w F (blks [.cel b1 0 [.slice ao1 q_2.length cp1], .ro (tI .u8) (.slice ao1 q_2.length cp1) q_2]) w F [.cel b1 0 [.slice ao1 q_2.length cp1], .ro (tI .u8) (.slice ao1 q_2.length cp1) q_2]) {r : Int} (hS : symbols_one_1 place n q_2 = some r) :
    Calls Try.prog 49 [.int .u64 place, .int .i64 n, .pointer (some ⟨b1, 0, none⟩)].toArray w (Gives (fun u w' => ∃ (F' : SH), u = .int .u64 r ∧ Sep w F (blks [.cel b1 0 [.slice ao1 q_2.length cp1], .ro (tI .u8) (.slice ao1 q_2.length cp1) q_2]) w' F' [])) := by
  generalize (blks [.cel b1 0 [.slice ao1 q_2.length cp1], .ro (tI .u8) (.slice ao1 q_2.length cp1) q_2]) = R at hs ⊢
  unfold symbols_one_1 at hS
  refine fn_ok (vs := [.int .u64 place, .int .i64 n, .pointer (some ⟨b1, 0, none⟩)]) Try.func49 rfl 16 Try.ntmps49 (Nat.le_of_ble_eq_true rfl) ?_
  intro a hf
  replace hf := Fr.cast (L' := [(0, .int .u64 place), (1, .int .i64 n), (2, .pointer (some ⟨b1, 0, none⟩))]) hf (by kernel_rfl)
  refine sq ?_
  refine reg ?_
  refine st tbOk 1 [0, 1, 2] (L' := [(0, .int .u64 place), (1, .int .i64 n), (2, .pointer (some ⟨b1, 0, none⟩))]) hf (by kernel_rfl) ?_
  clear hf; clear a; intro a hf
  refine wpList_nil ?_
  refine sq ?_
  refine reg ?_
  refine ldC tbOk (T := 22) (hs.ccel 0 rfl) (LeH.refl _) 0 (.slice ao1 q_2.length cp1) hf (by kernel_rfl) (by kernel_rfl) (by kernel_rfl) (by kernel_rfl) ?_
  clear hf; clear a; intro a hf
  replace hs : Sep w F R w F [.ro (tI .u8) (.slice ao1 q_2.length cp1) q_2] := hs.sel [1] rfl rfl
  replace hf := Fr.keep (ks := [0, 1, 9]) (L' := [(0, .int .u64 place), (1, .int .i64 n), (9, .slice ao1 q_2.length cp1)]) hf (by kernel_rfl)
  refine st tbOk 2 [9, 10, 11] (L' := [(9, .slice ao1 q_2.length cp1), (10, .int .u64 place), (11, .int .i64 n)]) hf (by kernel_rfl) ?_
  clear hf; clear a; intro a hf
  have hT := of_bd hS; clear hS; obtain ⟨z1, hz1, hS⟩ := hT
  refine clV ent50 (vs := [.slice ao1 q_2.length cp1, .int .u64 place, .int .i64 n]) (caps := []) hf (by kernel_rfl) (by kernel_rfl) (by kernel_rfl) (by kernel_rfl) (octets_Get_ok (b := q_2) (p_at := place) (n := n) (hs.enter [0] rfl rfl) hz1) ?_
  clear hf; clear a; intro v w1 a hT hf; obtain ⟨F1, rfl, hr⟩ := hT
  replace hs : Sep w F R w1 F1 [.ro (tI .u8) (.slice ao1 q_2.length cp1) q_2] := hs.back [0] [0] rfl rfl rfl rfl hr
  clear hr
  replace hs : Sep w F R w1 F1 [] := hs.sel [] rfl rfl
  replace hf := Fr.keep (ks := [12]) (L' := [(12, .tuple #[.int .u64 z1.1, .int .i64 z1.2])]) hf (by kernel_rfl)
  refine st tbOk 5 [6] (L' := [(6, .int .u64 z1.1)]) hf (by kernel_rfl) ?_
  clear hf; clear a; intro a hf
  refine wpList_nil ?_
  refine sq ?_
  refine reg ?_
  refine st tbOk 2 [5] (L' := [(5, .int .u64 z1.1)]) hf (by kernel_rfl) ?_
  clear hf; clear a; intro a hf
  refine wpList_nil ?_
  have hr := Option.some.inj hS; subst hr
  refine wp_ret ?_
  exact ret_ok hf (vs := [.int .u64 z1.1]) (by kernel_rfl) ⟨_, rfl, hs.sel [] rfl rfl⟩

set_option maxHeartbeats 4000000 in
theorem symbols_one_ok {w : World} {F : SH} {b : List Int} {ao1 : Option Addr} {cp1 : Nat} (hs : Sep w F (blks [.ro (tI .u8) (.slice ao1 b.length cp1) b]) w F [.ro (tI .u8) (.slice ao1 b.length cp1) b]) {r : Int × Int × Int × Int × Int × Int} (hS : symbols_one b = some r) :
    Calls Try.prog 44 [.slice ao1 b.length cp1].toArray w (Gives (fun u w' => ∃ (F' : SH), u = .agg #[.int .u32 r.1, .int .u8 r.2.1, .int .u8 r.2.2.1, .int .u16 r.2.2.2.1, .int .u64 r.2.2.2.2.1, .int .u64 r.2.2.2.2.2] ∧ Sep w F (blks [.ro (tI .u8) (.slice ao1 b.length cp1) b]) w' F' [])) := by
  generalize (blks [.ro (tI .u8) (.slice ao1 b.length cp1) b]) = R at hs ⊢
  unfold symbols_one at hS
  refine fn_ok (vs := [.slice ao1 b.length cp1]) Try.func44 rfl 22 Try.ntmps44 (Nat.le_of_ble_eq_true rfl) ?_
  intro a hf
  replace hf := Fr.cast (L' := [(0, .slice ao1 b.length cp1)]) hf (by kernel_rfl)
  refine sq ?_
  refine reg ?_
  refine bx (T := 22) [.slice ao1 b.length cp1] (v := .slice ao1 b.length cp1) rfl (by kernel_rfl) hf (by kernel_rfl) (by kernel_rfl) (by kernel_rfl) ?_
  clear hf; clear a; intro w1 a hb hx _ hf
  replace hs : Sep w F R w1 F [.box w.heap.size 22 [.slice ao1 b.length cp1], .ro (tI .u8) (.slice ao1 b.length cp1) b] := hs.newBox hb hx
  clear hb hx
  replace hf := Fr.keep (ks := [1]) (L' := [(1, .pointer (some ⟨w.heap.size, 0, none⟩))]) hf (by kernel_rfl)
  refine al tbOk i65 [.int .u32 0, .int .u8 0, .int .u8 0, .int .u16 0, .int .u64 0, .int .u64 0] rfl (by kernel_rfl) hf (by kernel_rfl) (by kernel_rfl) ?_
  clear hf; clear a; intro w2 a hb hx _ hf
  replace hs : Sep w F R w2 F [.box w1.heap.size 65 [.int .u32 0, .int .u8 0, .int .u8 0, .int .u16 0, .int .u64 0, .int .u64 0], .box w.heap.size 22 [.slice ao1 b.length cp1], .ro (tI .u8) (.slice ao1 b.length cp1) b] := hs.newBox hb hx
  clear hb hx
  replace hf := Fr.keep (ks := [1, 2]) (L' := [(1, .pointer (some ⟨w.heap.size, 0, none⟩)), (2, .pointer (some ⟨w1.heap.size, 0, none⟩))]) hf (by kernel_rfl)
  refine wpList_nil ?_
  refine sq ?_
  refine reg ?_
  refine st tbOk 2 [2, 3] (L' := [(2, .pointer (some ⟨w1.heap.size, 0, none⟩)), (3, .func (.func 49) #[] #[.pointer (some ⟨w.heap.size, 0, none⟩)])]) hf (by kernel_rfl) ?_
  clear hf; clear a; intro a hf
  refine wpList_nil ?_
  refine sq ?_
  refine reg ?_
  refine st tbOk 1 [2, 3, 5] (L' := [(2, .pointer (some ⟨w1.heap.size, 0, none⟩)), (3, .func (.func 49) #[] #[.pointer (some ⟨w.heap.size, 0, none⟩)]), (5, .func (.func 49) #[] #[.pointer (some ⟨w.heap.size, 0, none⟩)])]) hf (by kernel_rfl) ?_
  clear hf; clear a; intro a hf
  have hT := of_bd hS; clear hS; obtain ⟨z1, hz1, hS⟩ := hT
  refine clV ent49 (vs := [.int .u64 0, .int .i64 4]) (caps := [.pointer (some ⟨w.heap.size, 0, none⟩)]) hf (by kernel_rfl) (by kernel_rfl) (by kernel_rfl) (by kernel_rfl) (symbols_one_1_ok (place := 0) (n := 4) (q_2 := b) (hs.lend [1, 2] [] rfl rfl rfl rfl rfl) hz1) ?_
  clear hf; clear a; intro v w3 a hT hf; obtain ⟨F1, rfl, hr⟩ := hT
  replace hs : Sep w F R w3 F [.box w1.heap.size 65 [.int .u32 0, .int .u8 0, .int .u8 0, .int .u16 0, .int .u64 0, .int .u64 0], .box w.heap.size 22 [.slice ao1 b.length cp1], .ro (tI .u8) (.slice ao1 b.length cp1) b] := hs.backL [1, 2] [] [0, 1, 2] rfl rfl rfl rfl rfl rfl hr trivial
  clear hr
  replace hf := Fr.keep (ks := [2, 3, 6]) (L' := [(2, .pointer (some ⟨w1.heap.size, 0, none⟩)), (3, .func (.func 49) #[] #[.pointer (some ⟨w.heap.size, 0, none⟩)]), (6, .int .u64 z1)]) hf (by kernel_rfl)
  refine st tbOk 2 [2, 3, 7, 8] (L' := [(2, .pointer (some ⟨w1.heap.size, 0, none⟩)), (3, .func (.func 49) #[] #[.pointer (some ⟨w.heap.size, 0, none⟩)]), (7, .int .u32 (IntKind.u32.wrap z1)), (8, .func (.func 49) #[] #[.pointer (some ⟨w.heap.size, 0, none⟩)])]) hf (by kernel_rfl) ?_
  clear hf; clear a; intro a hf
  have hT := of_bd hS; clear hS; obtain ⟨z2, hz2, hS⟩ := hT
  refine clV ent49 (vs := [.int .u64 4, .int .i64 1]) (caps := [.pointer (some ⟨w.heap.size, 0, none⟩)]) hf (by kernel_rfl) (by kernel_rfl) (by kernel_rfl) (by kernel_rfl) (symbols_one_1_ok (place := 4) (n := 1) (q_2 := b) (hs.lend [1, 2] [] rfl rfl rfl rfl rfl) hz2) ?_
  clear hf; clear a; intro v w4 a hT hf; obtain ⟨F2, rfl, hr⟩ := hT
  replace hs : Sep w F R w4 F [.box w1.heap.size 65 [.int .u32 0, .int .u8 0, .int .u8 0, .int .u16 0, .int .u64 0, .int .u64 0], .box w.heap.size 22 [.slice ao1 b.length cp1], .ro (tI .u8) (.slice ao1 b.length cp1) b] := hs.backL [1, 2] [] [0, 1, 2] rfl rfl rfl rfl rfl rfl hr trivial
  clear hr
  replace hf := Fr.keep (ks := [2, 3, 7, 9]) (L' := [(2, .pointer (some ⟨w1.heap.size, 0, none⟩)), (3, .func (.func 49) #[] #[.pointer (some ⟨w.heap.size, 0, none⟩)]), (7, .int .u32 (IntKind.u32.wrap z1)), (9, .int .u64 z2)]) hf (by kernel_rfl)
  refine st tbOk 2 [2, 3, 7, 10, 11] (L' := [(2, .pointer (some ⟨w1.heap.size, 0, none⟩)), (3, .func (.func 49) #[] #[.pointer (some ⟨w.heap.size, 0, none⟩)]), (7, .int .u32 (IntKind.u32.wrap z1)), (10, .int .u8 (IntKind.u8.wrap z2)), (11, .func (.func 49) #[] #[.pointer (some ⟨w.heap.size, 0, none⟩)])]) hf (by kernel_rfl) ?_
  clear hf; clear a; intro a hf
  have hT := of_bd hS; clear hS; obtain ⟨z3, hz3, hS⟩ := hT
  refine clV ent49 (vs := [.int .u64 5, .int .i64 1]) (caps := [.pointer (some ⟨w.heap.size, 0, none⟩)]) hf (by kernel_rfl) (by kernel_rfl) (by kernel_rfl) (by kernel_rfl) (symbols_one_1_ok (place := 5) (n := 1) (q_2 := b) (hs.lend [1, 2] [] rfl rfl rfl rfl rfl) hz3) ?_
  clear hf; clear a; intro v w5 a hT hf; obtain ⟨F3, rfl, hr⟩ := hT
  replace hs : Sep w F R w5 F [.box w1.heap.size 65 [.int .u32 0, .int .u8 0, .int .u8 0, .int .u16 0, .int .u64 0, .int .u64 0], .box w.heap.size 22 [.slice ao1 b.length cp1], .ro (tI .u8) (.slice ao1 b.length cp1) b] := hs.backL [1, 2] [] [0, 1, 2] rfl rfl rfl rfl rfl rfl hr trivial
  clear hr
  replace hf := Fr.keep (ks := [2, 3, 7, 10, 12]) (L' := [(2, .pointer (some ⟨w1.heap.size, 0, none⟩)), (3, .func (.func 49) #[] #[.pointer (some ⟨w.heap.size, 0, none⟩)]), (7, .int .u32 (IntKind.u32.wrap z1)), (10, .int .u8 (IntKind.u8.wrap z2)), (12, .int .u64 z3)]) hf (by kernel_rfl)
  refine st tbOk 2 [2, 3, 7, 10, 13, 14] (L' := [(2, .pointer (some ⟨w1.heap.size, 0, none⟩)), (3, .func (.func 49) #[] #[.pointer (some ⟨w.heap.size, 0, none⟩)]), (7, .int .u32 (IntKind.u32.wrap z1)), (10, .int .u8 (IntKind.u8.wrap z2)), (13, .int .u8 (IntKind.u8.wrap z3)), (14, .func (.func 49) #[] #[.pointer (some ⟨w.heap.size, 0, none⟩)])]) hf (by kernel_rfl) ?_
  clear hf; clear a; intro a hf
  have hT := of_bd hS; clear hS; obtain ⟨z4, hz4, hS⟩ := hT
  refine clV ent49 (vs := [.int .u64 6, .int .i64 2]) (caps := [.pointer (some ⟨w.heap.size, 0, none⟩)]) hf (by kernel_rfl) (by kernel_rfl) (by kernel_rfl) (by kernel_rfl) (symbols_one_1_ok (place := 6) (n := 2) (q_2 := b) (hs.lend [1, 2] [] rfl rfl rfl rfl rfl) hz4) ?_
  clear hf; clear a; intro v w6 a hT hf; obtain ⟨F4, rfl, hr⟩ := hT
  replace hs : Sep w F R w6 F [.box w1.heap.size 65 [.int .u32 0, .int .u8 0, .int .u8 0, .int .u16 0, .int .u64 0, .int .u64 0], .box w.heap.size 22 [.slice ao1 b.length cp1], .ro (tI .u8) (.slice ao1 b.length cp1) b] := hs.backL [1, 2] [] [0, 1, 2] rfl rfl rfl rfl rfl rfl hr trivial
  clear hr
  replace hf := Fr.keep (ks := [2, 3, 7, 10, 13, 15]) (L' := [(2, .pointer (some ⟨w1.heap.size, 0, none⟩)), (3, .func (.func 49) #[] #[.pointer (some ⟨w.heap.size, 0, none⟩)]), (7, .int .u32 (IntKind.u32.wrap z1)), (10, .int .u8 (IntKind.u8.wrap z2)), (13, .int .u8 (IntKind.u8.wrap z3)), (15, .int .u64 z4)]) hf (by kernel_rfl)
  refine st tbOk 2 [2, 3, 7, 10, 13, 16, 17] (L' := [(2, .pointer (some ⟨w1.heap.size, 0, none⟩)), (3, .func (.func 49) #[] #[.pointer (some ⟨w.heap.size, 0, none⟩)]), (7, .int .u32 (IntKind.u32.wrap z1)), (10, .int .u8 (IntKind.u8.wrap z2)), (13, .int .u8 (IntKind.u8.wrap z3)), (16, .int .u16 (IntKind.u16.wrap z4)), (17, .func (.func 49) #[] #[.pointer (some ⟨w.heap.size, 0, none⟩)])]) hf (by kernel_rfl) ?_
  clear hf; clear a; intro a hf
  have hT := of_bd hS; clear hS; obtain ⟨z5, hz5, hS⟩ := hT
  refine clV ent49 (vs := [.int .u64 8, .int .i64 8]) (caps := [.pointer (some ⟨w.heap.size, 0, none⟩)]) hf (by kernel_rfl) (by kernel_rfl) (by kernel_rfl) (by kernel_rfl) (symbols_one_1_ok (place := 8) (n := 8) (q_2 := b) (hs.lend [1, 2] [] rfl rfl rfl rfl rfl) hz5) ?_
  clear hf; clear a; intro v w7 a hT hf; obtain ⟨F5, rfl, hr⟩ := hT
  replace hs : Sep w F R w7 F [.box w1.heap.size 65 [.int .u32 0, .int .u8 0, .int .u8 0, .int .u16 0, .int .u64 0, .int .u64 0], .box w.heap.size 22 [.slice ao1 b.length cp1], .ro (tI .u8) (.slice ao1 b.length cp1) b] := hs.backL [1, 2] [] [0, 1, 2] rfl rfl rfl rfl rfl rfl hr trivial
  clear hr
  replace hf := Fr.keep (ks := [2, 3, 7, 10, 13, 16, 18]) (L' := [(2, .pointer (some ⟨w1.heap.size, 0, none⟩)), (3, .func (.func 49) #[] #[.pointer (some ⟨w.heap.size, 0, none⟩)]), (7, .int .u32 (IntKind.u32.wrap z1)), (10, .int .u8 (IntKind.u8.wrap z2)), (13, .int .u8 (IntKind.u8.wrap z3)), (16, .int .u16 (IntKind.u16.wrap z4)), (18, .int .u64 z5)]) hf (by kernel_rfl)
  refine st tbOk 1 [2, 7, 10, 13, 16, 18, 19] (L' := [(2, .pointer (some ⟨w1.heap.size, 0, none⟩)), (7, .int .u32 (IntKind.u32.wrap z1)), (10, .int .u8 (IntKind.u8.wrap z2)), (13, .int .u8 (IntKind.u8.wrap z3)), (16, .int .u16 (IntKind.u16.wrap z4)), (18, .int .u64 z5), (19, .func (.func 49) #[] #[.pointer (some ⟨w.heap.size, 0, none⟩)])]) hf (by kernel_rfl) ?_
  clear hf; clear a; intro a hf
  have hT := of_bd hS; clear hS; obtain ⟨z6, hz6, hS⟩ := hT
  refine clV ent49 (vs := [.int .u64 16, .int .i64 8]) (caps := [.pointer (some ⟨w.heap.size, 0, none⟩)]) hf (by kernel_rfl) (by kernel_rfl) (by kernel_rfl) (by kernel_rfl) (symbols_one_1_ok (place := 16) (n := 8) (q_2 := b) (hs.lend [1, 2] [] rfl rfl rfl rfl rfl) hz6) ?_
  clear hf; clear a; intro v w8 a hT hf; obtain ⟨F6, rfl, hr⟩ := hT
  replace hs : Sep w F R w8 F [.box w1.heap.size 65 [.int .u32 0, .int .u8 0, .int .u8 0, .int .u16 0, .int .u64 0, .int .u64 0], .box w.heap.size 22 [.slice ao1 b.length cp1], .ro (tI .u8) (.slice ao1 b.length cp1) b] := hs.backL [1, 2] [] [0, 1, 2] rfl rfl rfl rfl rfl rfl hr trivial
  clear hr
  replace hs : Sep w F R w8 F [.box w1.heap.size 65 [.int .u32 0, .int .u8 0, .int .u8 0, .int .u16 0, .int .u64 0, .int .u64 0]] := hs.sel [0] rfl rfl
  replace hf := Fr.keep (ks := [2, 7, 10, 13, 16, 18, 20]) (L' := [(2, .pointer (some ⟨w1.heap.size, 0, none⟩)), (7, .int .u32 (IntKind.u32.wrap z1)), (10, .int .u8 (IntKind.u8.wrap z2)), (13, .int .u8 (IntKind.u8.wrap z3)), (16, .int .u16 (IntKind.u16.wrap z4)), (18, .int .u64 z5), (20, .int .u64 z6)]) hf (by kernel_rfl)
  refine st tbOk 1 [2, 21] (L' := [(2, .pointer (some ⟨w1.heap.size, 0, none⟩)), (21, .agg #[.int .u32 (IntKind.u32.wrap z1), .int .u8 (IntKind.u8.wrap z2), .int .u8 (IntKind.u8.wrap z3), .int .u16 (IntKind.u16.wrap z4), .int .u64 z5, .int .u64 z6])]) hf (by kernel_rfl) ?_
  clear hf; clear a; intro a hf
  refine stB tbOk i65 (hs.bx 0 rfl) 0 [.int .u32 (IntKind.u32.wrap z1), .int .u8 (IntKind.u8.wrap z2), .int .u8 (IntKind.u8.wrap z3), .int .u16 (IntKind.u16.wrap z4), .int .u64 z5, .int .u64 z6] [.int .u32 (IntKind.u32.wrap z1), .int .u8 (IntKind.u8.wrap z2), .int .u8 (IntKind.u8.wrap z3), .int .u16 (IntKind.u16.wrap z4), .int .u64 z5, .int .u64 z6] (v := .agg #[.int .u32 (IntKind.u32.wrap z1), .int .u8 (IntKind.u8.wrap z2), .int .u8 (IntKind.u8.wrap z3), .int .u16 (IntKind.u16.wrap z4), .int .u64 z5, .int .u64 z6]) rfl rfl (by kernel_rfl) (by kernel_rfl) (by kernel_rfl) (by kernel_rfl) hf (by kernel_rfl) (by kernel_rfl) (by kernel_rfl) ?_
  clear hf; clear a; intro w9 a hb hg _ hf
  replace hs : Sep w F R w9 F [.box w1.heap.size 65 [.int .u32 (IntKind.u32.wrap z1), .int .u8 (IntKind.u8.wrap z2), .int .u8 (IntKind.u8.wrap z3), .int .u16 (IntKind.u16.wrap z4), .int .u64 z5, .int .u64 z6]] := hs.updBox 0 rfl hb hg
  clear hb hg
  replace hf := Fr.keep (ks := [2]) (L' := [(2, .pointer (some ⟨w1.heap.size, 0, none⟩))]) hf (by kernel_rfl)
  refine wpList_nil ?_
  have hr := Option.some.inj hS; subst hr
  refine wp_ret ?_
  exact ret_okC hf (vs := [.agg #[.int .u32 (IntKind.u32.wrap z1), .int .u8 (IntKind.u8.wrap z2), .int .u8 (IntKind.u8.wrap z3), .int .u16 (IntKind.u16.wrap z4), .int .u64 z5, .int .u64 z6]]) (.cons (.cell tbOk (hs.cbx 0 rfl) (off := 0) (by kernel_rfl) (by kernel_rfl)) .nil) ⟨_, rfl, hs.sel [] rfl rfl⟩

set_option maxHeartbeats 4000000 in
theorem symbols_Table_ok {w : World} {F : SH} {b : List Int} {ao1 : Option Addr} {cp1 : Nat} (hs : Sep w F (blks [.ro (tI .u8) (.slice ao1 b.length cp1) b]) w F [.ro (tI .u8) (.slice ao1 b.length cp1) b]) {r : (List (Int × Int × Int × Int × Int × Int)) × Int} (hS : symbols_Table b = some r) :
    Calls Try.prog 31 [.slice ao1 b.length cp1].toArray w (Gives (fun u w' => ∃ (ao8 : Option Addr) (cp8 : Nat) (F' : SH), u = .tuple #[.slice ao8 r.1.length cp8, .int .i64 r.2] ∧ Sep w F (blks [.ro (tI .u8) (.slice ao1 b.length cp1) b]) w' F' [.row 65 ty64 (.slice ao8 r.1.length cp8) r.1])) := by
  generalize (blks [.ro (tI .u8) (.slice ao1 b.length cp1) b]) = R at hs ⊢
  unfold symbols_Table at hS
  refine fn_ok (vs := [.slice ao1 b.length cp1]) Try.func31 rfl 21 Try.ntmps31 (Nat.le_of_ble_eq_true rfl) ?_
  intro a hf
  replace hf := Fr.cast (L' := [(0, .slice ao1 b.length cp1)]) hf (by kernel_rfl)
  refine sq ?_
  refine reg ?_
  refine st tbOk 2 [0] (L' := [(0, .slice ao1 b.length cp1)]) hf (by kernel_rfl) ?_
  clear hf; clear a; intro a hf
  refine wpList_nil ?_
  refine sq ?_
  refine sq ?_
  refine reg ?_
  refine st tbOk 4 [0, 8] (L' := [(0, .slice ao1 b.length cp1), (8, .bool ((Int.tmod ((b.length : Nat) : Int) 24) != 0))]) hf (by kernel_rfl) ?_
  clear hf; clear a; intro a hf
  refine wpList_nil ?_
  refine cnd (b := (Int.tmod ((b.length : Nat) : Int) 24) != 0) hf (by kernel_rfl) (fun hb1 => ?_) (fun hb1 => ?_)
  · replace hS := of_t hb1 hS
    refine sq ?_
    refine reg ?_
    refine st tbOk 2 [2, 3] (L' := [(2, .slice none 0 0), (3, .int .i64 10)]) hf (by kernel_rfl) ?_
    clear hf; clear a; intro a hf
    refine wpList_nil ?_
    have hr := Option.some.inj hS; subst hr
    refine wp_ret ?_
    replace hs : Sep w F R w F [.row 65 ty64 (.slice none 0 0) ([] : List (Int × Int × Int × Int × Int × Int)), .ro (tI .u8) (.slice ao1 b.length cp1) b] := hs.addNil 65 ty64
    exact ret_ok hf (vs := [.slice none 0 0, .int .i64 10]) (by kernel_rfl) ⟨none, 0, _, rfl, hs.sel [0] rfl rfl⟩
  · replace hS := of_f hb1 hS
    refine wp_skip ?_
    refine sq ?_
    refine reg ?_
    refine st tbOk 1 [0, 4] (L' := [(0, .slice ao1 b.length cp1), (4, .slice none 0 0)]) hf (by kernel_rfl) ?_
    clear hf; clear a; intro a hf
    refine wpList_nil ?_
    refine sq ?_
    refine ctj (fun (s1 : List (Int × Int × Int × Int × Int × Int)) (a : Act) (w' : World) => ∃ (ao2 : Option Addr) (cp2 : Nat) (F1 : SH), Sep w F R w' F1 [.row 65 ty64 (.slice ao2 s1.length cp2) s1] ∧ Fr 21 [(4, .slice ao2 s1.length cp2)] a) hS ?_ ?_
    · clear hS hf hs; clear a; intro s1 a w5 hM hS
      obtain ⟨ao2, cp2, F1, hs, hf⟩ := hM
      refine sq ?_
      refine reg ?_
      refine st tbOk 3 [2, 3] (L' := [(2, .slice ao2 s1.length cp2), (3, .int .i64 0)]) hf (by kernel_rfl) ?_
      clear hf; clear a; intro a hf
      refine wpList_nil ?_
      have hr := Option.some.inj hS; subst hr
      refine wp_ret ?_
      exact ret_ok hf (vs := [.slice ao2 s1.length cp2, .int .i64 0]) (by kernel_rfl) ⟨ao2, cp2, _, rfl, hs.sel [0] rfl rfl⟩
    · clear hS; intro KK1 k1 hK1 hS
      refine blk ?_
      replace hs : Sep w F R w F [.row 65 ty64 (.slice none 0 0) ([] : List (Int × Int × Int × Int × Int × Int)), .ro (tI .u8) (.slice ao1 b.length cp1) b] := hs.addNil 65 ty64
      refine lp (st := (b, [])) (fun (s2 : (List Int) × (List (Int × Int × Int × Int × Int × Int))) (a : Act) (w' : World) => ∃ (ao3 : Option Addr) (cp3 : Nat) (ao4 : Option Addr) (cp4 : Nat) (F2 : SH), Sep w F R w' F2 [.ro (tI .u8) (.slice ao3 s2.1.length cp3) s2.1, .row 65 ty64 (.slice ao4 s2.2.length cp4) s2.2] ∧ Fr 21 [(0, .slice ao3 s2.1.length cp3), (4, .slice ao4 s2.2.length cp4)] a) ?_ ⟨ao1, cp1, none, 0, _, hs.sel [1, 0] rfl rfl, hf.keep (ks := [0, 4]) (by kernel_rfl)⟩ hS
      clear hS hf hs; clear a
      intro rec1 KK2 hK2 s2 a w1 hM hS
      obtain ⟨ao3, cp3, ao4, cp4, F2, hs, hf⟩ := hM
      refine sq ?_
      refine sq ?_
      refine reg ?_
      refine st tbOk 3 [0, 4, 11] (L' := [(0, .slice ao3 s2.1.length cp3), (4, .slice ao4 s2.2.length cp4), (11, .bool (decide (((s2.1.length : Nat) : Int) > 0)))]) hf (by kernel_rfl) ?_
      clear hf; clear a; intro a hf
      refine wpList_nil ?_
      refine cnd (b := decide (((s2.1.length : Nat) : Int) > 0)) hf (by kernel_rfl) (fun hb2 => ?_) (fun hb2 => ?_)
      · replace hS := of_t hb2 hS
        refine wp_skip ?_
        refine sq ?_
        refine blk ?_
        refine reg ?_
        refine st tbOk 2 [0, 14, 15] (L' := [(0, .slice ao3 s2.1.length cp3), (14, .slice ao4 s2.2.length cp4), (15, .slice ao3 s2.1.length cp3)]) hf (by kernel_rfl) ?_
        clear hf; clear a; intro a hf
        have hT := of_gd hS; clear hS; obtain ⟨hc1, hS⟩ := hT
        refine sl tbOk u22 i5 rfl (hs.ro 0 rfl) (lo := 0) (hi := 24) (m := 24) hc1.1 (.inl ⟨rfl, rfl⟩) (.inr ⟨_, .i64, rfl, by kernel_rfl⟩) (.inr ⟨⟨_, .i64, rfl, by kernel_rfl⟩, by simp, hc1.2⟩) hf (by kernel_rfl) (by kernel_rfl) (by kernel_rfl) ?_
        clear hf; clear a; intro ao5 cp5 a hr1 hf
        replace hs : Sep w F R w1 F2 [.ro (tI .u8) (.slice ao5 (cutL s2.1 0 24).length cp5) (cutL s2.1 0 24), .ro (tI .u8) (.slice ao3 s2.1.length cp3) s2.1, .row 65 ty64 (.slice ao4 s2.2.length cp4) s2.2] := hs.addRo hr1
        replace hf := Fr.keep (ks := [0, 14, 16]) (L' := [(0, .slice ao3 s2.1.length cp3), (14, .slice ao4 s2.2.length cp4), (16, .slice ao5 (cutL s2.1 0 24).length cp5)]) hf (by kernel_rfl)
        have hT := of_bd hS; clear hS; obtain ⟨z1, hz1, hS⟩ := hT
        refine clV ent44 (vs := [.slice ao5 (cutL s2.1 0 24).length cp5]) (caps := []) hf (by kernel_rfl) (by kernel_rfl) (by kernel_rfl) (by kernel_rfl) (symbols_one_ok (b := (cutL s2.1 0 24)) (hs.enter [0] rfl rfl) hz1) ?_
        clear hf; clear a; intro v w2 a hT hf; obtain ⟨F3, rfl, hr⟩ := hT
        replace hs : Sep w F R w2 F3 [.ro (tI .u8) (.slice ao5 (cutL s2.1 0 24).length cp5) (cutL s2.1 0 24), .ro (tI .u8) (.slice ao3 s2.1.length cp3) s2.1, .row 65 ty64 (.slice ao4 s2.2.length cp4) s2.2] := hs.back [0] [0, 1, 2] rfl rfl rfl rfl hr
        clear hr
        replace hs : Sep w F R w2 F3 [.ro (tI .u8) (.slice ao3 s2.1.length cp3) s2.1, .row 65 ty64 (.slice ao4 s2.2.length cp4) s2.2] := hs.sel [1, 2] rfl rfl
        replace hf := Fr.keep (ks := [0, 14, 17]) (L' := [(0, .slice ao3 s2.1.length cp3), (14, .slice ao4 s2.2.length cp4), (17, .agg #[.int .u32 z1.1, .int .u8 z1.2.1, .int .u8 z1.2.2.1, .int .u16 z1.2.2.2.1, .int .u64 z1.2.2.2.2.1, .int .u64 z1.2.2.2.2.2])]) hf (by kernel_rfl)
        refine bsR tbOk u69 i65 rfl (t := ty64) (vs := [(0, .agg #[.int .u32 z1.1, .int .u8 z1.2.1, .int .u8 z1.2.2.1, .int .u16 z1.2.2.2.1, .int .u64 z1.2.2.2.2.1, .int .u64 z1.2.2.2.2.2])]) (cells := #[.int .u32 z1.1, .int .u8 z1.2.1, .int .u8 z1.2.2.1, .int .u16 z1.2.2.2.1, .int .u64 z1.2.2.2.2.1, .int .u64 z1.2.2.2.2.2]) ([(z1.1, z1.2.1, z1.2.2.1, z1.2.2.2.1, z1.2.2.2.2.1, z1.2.2.2.2.2)] : List (Int × Int × Int × Int × Int × Int)) hs.le hf (by kernel_rfl) (by kernel_rfl) (by kernel_rfl) rfl (by kernel_rfl) (reps_flat _) rfl ?_
        clear hf; clear a; intro w3 a ho hx hf
        replace hs : Sep w F R w3 F3 [.row 65 ty64 (.slice (some ⟨w2.heap.size, 0, none⟩) ([(z1.1, z1.2.1, z1.2.2.1, z1.2.2.2.1, z1.2.2.2.2.1, z1.2.2.2.2.2)] : List (Int × Int × Int × Int × Int × Int)).length ([(z1.1, z1.2.1, z1.2.2.1, z1.2.2.2.1, z1.2.2.2.2.1, z1.2.2.2.2.2)] : List (Int × Int × Int × Int × Int × Int)).length) ([(z1.1, z1.2.1, z1.2.2.1, z1.2.2.2.1, z1.2.2.2.2.1, z1.2.2.2.2.2)] : List (Int × Int × Int × Int × Int × Int)), .ro (tI .u8) (.slice ao3 s2.1.length cp3) s2.1, .row 65 ty64 (.slice ao4 s2.2.length cp4) s2.2] := hs.newRow ho hx
        clear ho hx
        replace hf := Fr.keep (ks := [0, 14, 18]) (L' := [(0, .slice ao3 s2.1.length cp3), (14, .slice ao4 s2.2.length cp4), (18, .slice (some ⟨w2.heap.size, 0, none⟩) ([(z1.1, z1.2.1, z1.2.2.1, z1.2.2.2.1, z1.2.2.2.2.1, z1.2.2.2.2.2)] : List (Int × Int × Int × Int × Int × Int)).length ([(z1.1, z1.2.1, z1.2.2.1, z1.2.2.2.1, z1.2.2.2.2.1, z1.2.2.2.2.2)] : List (Int × Int × Int × Int × Int × Int)).length)]) hf (by kernel_rfl)
        have hT := of_gd hS; clear hS; obtain ⟨hc2, hS⟩ := hT
        refine apR tbOk u69 i65 rfl rfl rfl rfl hs.le (hs.own 2 rfl) (hs.raW 0 rfl) hc2 hf (by kernel_rfl) (by kernel_rfl) (by kernel_rfl) (by kernel_rfl) ?_
        clear hf; clear a; intro ao6 cp6 w4 a ho hg hl hf
        replace hs : Sep w F R w4 F3 [.row 65 ty64 (.slice (some ⟨w2.heap.size, 0, none⟩) ([(z1.1, z1.2.1, z1.2.2.1, z1.2.2.2.1, z1.2.2.2.2.1, z1.2.2.2.2.2)] : List (Int × Int × Int × Int × Int × Int)).length ([(z1.1, z1.2.1, z1.2.2.1, z1.2.2.2.1, z1.2.2.2.2.1, z1.2.2.2.2.2)] : List (Int × Int × Int × Int × Int × Int)).length) ([(z1.1, z1.2.1, z1.2.2.1, z1.2.2.2.1, z1.2.2.2.2.1, z1.2.2.2.2.2)] : List (Int × Int × Int × Int × Int × Int)), .ro (tI .u8) (.slice ao3 s2.1.length cp3) s2.1, .row 65 ty64 (.slice ao6 (s2.2 ++ ([(z1.1, z1.2.1, z1.2.2.1, z1.2.2.2.1, z1.2.2.2.2.1, z1.2.2.2.2.2)] : List (Int × Int × Int × Int × Int × Int))).length cp6) (s2.2 ++ ([(z1.1, z1.2.1, z1.2.2.1, z1.2.2.2.1, z1.2.2.2.2.1, z1.2.2.2.2.2)] : List (Int × Int × Int × Int × Int × Int)))] := hs.updRow 2 rfl ho hg hl
        clear ho hg hl
        replace hs : Sep w F R w4 F3 [.ro (tI .u8) (.slice ao3 s2.1.length cp3) s2.1, .row 65 ty64 (.slice ao6 (s2.2 ++ ([(z1.1, z1.2.1, z1.2.2.1, z1.2.2.2.1, z1.2.2.2.2.1, z1.2.2.2.2.2)] : List (Int × Int × Int × Int × Int × Int))).length cp6) (s2.2 ++ ([(z1.1, z1.2.1, z1.2.2.1, z1.2.2.2.1, z1.2.2.2.2.1, z1.2.2.2.2.2)] : List (Int × Int × Int × Int × Int × Int)))] := hs.sel [1, 2] rfl rfl
        replace hf := Fr.keep (ks := [0, 19]) (L' := [(0, .slice ao3 s2.1.length cp3), (19, .slice ao6 (s2.2 ++ ([(z1.1, z1.2.1, z1.2.2.1, z1.2.2.2.1, z1.2.2.2.2.1, z1.2.2.2.2.2)] : List (Int × Int × Int × Int × Int × Int))).length cp6)]) hf (by kernel_rfl)
        refine st tbOk 1 [0, 4] (L' := [(0, .slice ao3 s2.1.length cp3), (4, .slice ao6 (s2.2 ++ ([(z1.1, z1.2.1, z1.2.2.1, z1.2.2.2.1, z1.2.2.2.2.1, z1.2.2.2.2.2)] : List (Int × Int × Int × Int × Int × Int))).length cp6)]) hf (by kernel_rfl) ?_
        clear hf; clear a; intro a hf
        refine wpList_nil ?_
        refine reg ?_
        refine st tbOk 1 [4, 12] (L' := [(4, .slice ao6 (s2.2 ++ ([(z1.1, z1.2.1, z1.2.2.1, z1.2.2.2.1, z1.2.2.2.2.1, z1.2.2.2.2.2)] : List (Int × Int × Int × Int × Int × Int))).length cp6), (12, .slice ao3 s2.1.length cp3)]) hf (by kernel_rfl) ?_
        clear hf; clear a; intro a hf
        have hT := of_gd hS; clear hS; obtain ⟨hc3, hS⟩ := hT
        refine sl tbOk u22 i5 rfl (hs.ro 0 rfl) (lo := 24) (hi := ((s2.1.length : Nat) : Int)) (m := 0) hc3 (.inr ⟨_, .i64, rfl, by kernel_rfl⟩) (.inl ⟨rfl, rfl⟩) (.inl rfl) hf (by kernel_rfl) (by kernel_rfl) (by kernel_rfl) ?_
        clear hf; clear a; intro ao7 cp7 a hr2 hf
        replace hs : Sep w F R w4 F3 [.ro (tI .u8) (.slice ao7 (cutL s2.1 24 ((s2.1.length : Nat) : Int)).length cp7) (cutL s2.1 24 ((s2.1.length : Nat) : Int)), .ro (tI .u8) (.slice ao3 s2.1.length cp3) s2.1, .row 65 ty64 (.slice ao6 (s2.2 ++ ([(z1.1, z1.2.1, z1.2.2.1, z1.2.2.2.1, z1.2.2.2.2.1, z1.2.2.2.2.2)] : List (Int × Int × Int × Int × Int × Int))).length cp6) (s2.2 ++ ([(z1.1, z1.2.1, z1.2.2.1, z1.2.2.2.1, z1.2.2.2.2.1, z1.2.2.2.2.2)] : List (Int × Int × Int × Int × Int × Int)))] := hs.addRo hr2
        replace hs : Sep w F R w4 F3 [.ro (tI .u8) (.slice ao7 (cutL s2.1 24 ((s2.1.length : Nat) : Int)).length cp7) (cutL s2.1 24 ((s2.1.length : Nat) : Int)), .row 65 ty64 (.slice ao6 (s2.2 ++ ([(z1.1, z1.2.1, z1.2.2.1, z1.2.2.2.1, z1.2.2.2.2.1, z1.2.2.2.2.2)] : List (Int × Int × Int × Int × Int × Int))).length cp6) (s2.2 ++ ([(z1.1, z1.2.1, z1.2.2.1, z1.2.2.2.1, z1.2.2.2.2.1, z1.2.2.2.2.2)] : List (Int × Int × Int × Int × Int × Int)))] := hs.sel [0, 2] rfl rfl
        replace hf := Fr.keep (ks := [4, 13]) (L' := [(4, .slice ao6 (s2.2 ++ ([(z1.1, z1.2.1, z1.2.2.1, z1.2.2.2.1, z1.2.2.2.2.1, z1.2.2.2.2.2)] : List (Int × Int × Int × Int × Int × Int))).length cp6), (13, .slice ao7 (cutL s2.1 24 ((s2.1.length : Nat) : Int)).length cp7)]) hf (by kernel_rfl)
        refine st tbOk 1 [0, 4] (L' := [(0, .slice ao7 (cutL s2.1 24 ((s2.1.length : Nat) : Int)).length cp7), (4, .slice ao6 (s2.2 ++ ([(z1.1, z1.2.1, z1.2.2.1, z1.2.2.2.1, z1.2.2.2.2.1, z1.2.2.2.2.2)] : List (Int × Int × Int × Int × Int × Int))).length cp6)]) hf (by kernel_rfl) ?_
        clear hf; clear a; intro a hf
        refine wpList_nil ?_
        exact hK2 ((cutL s2.1 24 ((s2.1.length : Nat) : Int)), (s2.2 ++ ([(z1.1, z1.2.1, z1.2.2.1, z1.2.2.2.1, z1.2.2.2.2.1, z1.2.2.2.2.2)] : List (Int × Int × Int × Int × Int × Int)))) _ _ ⟨ao7, cp7, ao6, cp6, _, hs.sel [0, 1] rfl rfl, hf.keep (ks := [0, 4]) (by kernel_rfl)⟩ hS
      · replace hS := of_f hb2 hS
        refine wp_exit ?_
        exact hK1 s2.2 _ _ ⟨ao4, cp4, _, hs.sel [1] rfl rfl, hf.keep (ks := [4]) (by kernel_rfl)⟩ hS

set_option maxHeartbeats 4000000 in
theorem symbols_Bind_ok {w : World} {F : SH} {p_s : Int × Int × Int × Int × Int × Int}  (hs : Sep w F (blks []) w F []) {r : Int} (hS : symbols_Bind p_s = some r) :
    Calls Try.prog 28 [.agg #[.int .u32 p_s.1, .int .u8 p_s.2.1, .int .u8 p_s.2.2.1, .int .u16 p_s.2.2.2.1, .int .u64 p_s.2.2.2.2.1, .int .u64 p_s.2.2.2.2.2]].toArray w (Gives (fun u w' => ∃ (F' : SH), u = .int .i64 r ∧ Sep w F (blks []) w' F' [])) := by
  generalize (blks []) = R at hs ⊢
  unfold symbols_Bind at hS
  refine fn_ok (vs := [.agg #[.int .u32 p_s.1, .int .u8 p_s.2.1, .int .u8 p_s.2.2.1, .int .u16 p_s.2.2.2.1, .int .u64 p_s.2.2.2.2.1, .int .u64 p_s.2.2.2.2.2]]) Try.func28 rfl 7 Try.ntmps28 (Nat.le_of_ble_eq_true rfl) ?_
  intro a hf
  replace hf := Fr.cast (L' := [(0, .agg #[.int .u32 p_s.1, .int .u8 p_s.2.1, .int .u8 p_s.2.2.1, .int .u16 p_s.2.2.2.1, .int .u64 p_s.2.2.2.2.1, .int .u64 p_s.2.2.2.2.2])]) hf (by kernel_rfl)
  refine sq ?_
  refine reg ?_
  refine bx (T := 65) [.int .u32 p_s.1, .int .u8 p_s.2.1, .int .u8 p_s.2.2.1, .int .u16 p_s.2.2.2.1, .int .u64 p_s.2.2.2.2.1, .int .u64 p_s.2.2.2.2.2] (v := .agg #[.int .u32 p_s.1, .int .u8 p_s.2.1, .int .u8 p_s.2.2.1, .int .u16 p_s.2.2.2.1, .int .u64 p_s.2.2.2.2.1, .int .u64 p_s.2.2.2.2.2]) rfl (by kernel_rfl) hf (by kernel_rfl) (by kernel_rfl) (by kernel_rfl) ?_
  clear hf; clear a; intro w1 a hb hx _ hf
  replace hs : Sep w F R w1 F [.box w.heap.size 65 [.int .u32 p_s.1, .int .u8 p_s.2.1, .int .u8 p_s.2.2.1, .int .u16 p_s.2.2.2.1, .int .u64 p_s.2.2.2.2.1, .int .u64 p_s.2.2.2.2.2]] := hs.newBox hb hx
  clear hb hx
  replace hf := Fr.keep (ks := [1]) (L' := [(1, .pointer (some ⟨w.heap.size, 0, none⟩))]) hf (by kernel_rfl)
  refine st tbOk 1 [1] (L' := [(1, .pointer (some ⟨w.heap.size, 0, none⟩))]) hf (by kernel_rfl) ?_
  clear hf; clear a; intro a hf
  refine wpList_nil ?_
  refine sq ?_
  refine reg ?_
  refine st tbOk 1 [3] (L' := [(3, .pointer (some ⟨w.heap.size, 1, none⟩))]) hf (by kernel_rfl) ?_
  clear hf; clear a; intro a hf
  refine ldC tbOk (T := 5) (hs.cbx 0 rfl) (LeH.refl _) 1 (.int .u8 p_s.2.1) hf (by kernel_rfl) (by kernel_rfl) (by kernel_rfl) (by kernel_rfl) ?_
  clear hf; clear a; intro a hf
  replace hs : Sep w F R w1 F [] := hs.sel [] rfl rfl
  replace hf := Fr.keep (ks := [4]) (L' := [(4, .int .u8 p_s.2.1)]) hf (by kernel_rfl)
  refine st tbOk 3 [2] (L' := [(2, .int .i64 (IntKind.i64.wrap (shr .u8 p_s.2.1 4)))]) hf (by kernel_rfl) ?_
  clear hf; clear a; intro a hf
  refine wpList_nil ?_
  have hr := Option.some.inj hS; subst hr
  refine wp_ret ?_
  exact ret_ok hf (vs := [.int .i64 (IntKind.i64.wrap (shr .u8 p_s.2.1 4))]) (by kernel_rfl) ⟨_, rfl, hs.sel [] rfl rfl⟩

set_option maxHeartbeats 4000000 in
theorem symbols_Kind_ok {w : World} {F : SH} {p_s : Int × Int × Int × Int × Int × Int}  (hs : Sep w F (blks []) w F []) {r : Int} (hS : symbols_Kind p_s = some r) :
    Calls Try.prog 29 [.agg #[.int .u32 p_s.1, .int .u8 p_s.2.1, .int .u8 p_s.2.2.1, .int .u16 p_s.2.2.2.1, .int .u64 p_s.2.2.2.2.1, .int .u64 p_s.2.2.2.2.2]].toArray w (Gives (fun u w' => ∃ (F' : SH), u = .int .i64 r ∧ Sep w F (blks []) w' F' [])) := by
  generalize (blks []) = R at hs ⊢
  unfold symbols_Kind at hS
  refine fn_ok (vs := [.agg #[.int .u32 p_s.1, .int .u8 p_s.2.1, .int .u8 p_s.2.2.1, .int .u16 p_s.2.2.2.1, .int .u64 p_s.2.2.2.2.1, .int .u64 p_s.2.2.2.2.2]]) Try.func29 rfl 7 Try.ntmps29 (Nat.le_of_ble_eq_true rfl) ?_
  intro a hf
  replace hf := Fr.cast (L' := [(0, .agg #[.int .u32 p_s.1, .int .u8 p_s.2.1, .int .u8 p_s.2.2.1, .int .u16 p_s.2.2.2.1, .int .u64 p_s.2.2.2.2.1, .int .u64 p_s.2.2.2.2.2])]) hf (by kernel_rfl)
  refine sq ?_
  refine reg ?_
  refine bx (T := 65) [.int .u32 p_s.1, .int .u8 p_s.2.1, .int .u8 p_s.2.2.1, .int .u16 p_s.2.2.2.1, .int .u64 p_s.2.2.2.2.1, .int .u64 p_s.2.2.2.2.2] (v := .agg #[.int .u32 p_s.1, .int .u8 p_s.2.1, .int .u8 p_s.2.2.1, .int .u16 p_s.2.2.2.1, .int .u64 p_s.2.2.2.2.1, .int .u64 p_s.2.2.2.2.2]) rfl (by kernel_rfl) hf (by kernel_rfl) (by kernel_rfl) (by kernel_rfl) ?_
  clear hf; clear a; intro w1 a hb hx _ hf
  replace hs : Sep w F R w1 F [.box w.heap.size 65 [.int .u32 p_s.1, .int .u8 p_s.2.1, .int .u8 p_s.2.2.1, .int .u16 p_s.2.2.2.1, .int .u64 p_s.2.2.2.2.1, .int .u64 p_s.2.2.2.2.2]] := hs.newBox hb hx
  clear hb hx
  replace hf := Fr.keep (ks := [1]) (L' := [(1, .pointer (some ⟨w.heap.size, 0, none⟩))]) hf (by kernel_rfl)
  refine st tbOk 1 [1] (L' := [(1, .pointer (some ⟨w.heap.size, 0, none⟩))]) hf (by kernel_rfl) ?_
  clear hf; clear a; intro a hf
  refine wpList_nil ?_
  refine sq ?_
  refine reg ?_
  refine st tbOk 1 [3] (L' := [(3, .pointer (some ⟨w.heap.size, 1, none⟩))]) hf (by kernel_rfl) ?_
  clear hf; clear a; intro a hf
  refine ldC tbOk (T := 5) (hs.cbx 0 rfl) (LeH.refl _) 1 (.int .u8 p_s.2.1) hf (by kernel_rfl) (by kernel_rfl) (by kernel_rfl) (by kernel_rfl) ?_
  clear hf; clear a; intro a hf
  replace hs : Sep w F R w1 F [] := hs.sel [] rfl rfl
  replace hf := Fr.keep (ks := [4]) (L' := [(4, .int .u8 p_s.2.1)]) hf (by kernel_rfl)
  refine st tbOk 3 [2] (L' := [(2, .int .i64 (IntKind.i64.wrap (band .u8 p_s.2.1 15)))]) hf (by kernel_rfl) ?_
  clear hf; clear a; intro a hf
  refine wpList_nil ?_
  have hr := Option.some.inj hS; subst hr
  refine wp_ret ?_
  exact ret_ok hf (vs := [.int .i64 (IntKind.i64.wrap (band .u8 p_s.2.1 15))]) (by kernel_rfl) ⟨_, rfl, hs.sel [] rfl rfl⟩

set_option maxHeartbeats 4000000 in
theorem symbols_Defined_ok {w : World} {F : SH} {p_s : Int × Int × Int × Int × Int × Int}  (hs : Sep w F (blks []) w F []) {r : Bool} (hS : symbols_Defined p_s = some r) :
    Calls Try.prog 30 [.agg #[.int .u32 p_s.1, .int .u8 p_s.2.1, .int .u8 p_s.2.2.1, .int .u16 p_s.2.2.2.1, .int .u64 p_s.2.2.2.2.1, .int .u64 p_s.2.2.2.2.2]].toArray w (Gives (fun u w' => ∃ (F' : SH), u = .bool r ∧ Sep w F (blks []) w' F' [])) := by
  generalize (blks []) = R at hs ⊢
  unfold symbols_Defined at hS
  refine fn_ok (vs := [.agg #[.int .u32 p_s.1, .int .u8 p_s.2.1, .int .u8 p_s.2.2.1, .int .u16 p_s.2.2.2.1, .int .u64 p_s.2.2.2.2.1, .int .u64 p_s.2.2.2.2.2]]) Try.func30 rfl 6 Try.ntmps30 (Nat.le_of_ble_eq_true rfl) ?_
  intro a hf
  replace hf := Fr.cast (L' := [(0, .agg #[.int .u32 p_s.1, .int .u8 p_s.2.1, .int .u8 p_s.2.2.1, .int .u16 p_s.2.2.2.1, .int .u64 p_s.2.2.2.2.1, .int .u64 p_s.2.2.2.2.2])]) hf (by kernel_rfl)
  refine sq ?_
  refine reg ?_
  refine bx (T := 65) [.int .u32 p_s.1, .int .u8 p_s.2.1, .int .u8 p_s.2.2.1, .int .u16 p_s.2.2.2.1, .int .u64 p_s.2.2.2.2.1, .int .u64 p_s.2.2.2.2.2] (v := .agg #[.int .u32 p_s.1, .int .u8 p_s.2.1, .int .u8 p_s.2.2.1, .int .u16 p_s.2.2.2.1, .int .u64 p_s.2.2.2.2.1, .int .u64 p_s.2.2.2.2.2]) rfl (by kernel_rfl) hf (by kernel_rfl) (by kernel_rfl) (by kernel_rfl) ?_
  clear hf; clear a; intro w1 a hb hx _ hf
  replace hs : Sep w F R w1 F [.box w.heap.size 65 [.int .u32 p_s.1, .int .u8 p_s.2.1, .int .u8 p_s.2.2.1, .int .u16 p_s.2.2.2.1, .int .u64 p_s.2.2.2.2.1, .int .u64 p_s.2.2.2.2.2]] := hs.newBox hb hx
  clear hb hx
  replace hf := Fr.keep (ks := [1]) (L' := [(1, .pointer (some ⟨w.heap.size, 0, none⟩))]) hf (by kernel_rfl)
  refine st tbOk 1 [1] (L' := [(1, .pointer (some ⟨w.heap.size, 0, none⟩))]) hf (by kernel_rfl) ?_
  clear hf; clear a; intro a hf
  refine wpList_nil ?_
  refine sq ?_
  refine reg ?_
  refine st tbOk 1 [3] (L' := [(3, .pointer (some ⟨w.heap.size, 3, none⟩))]) hf (by kernel_rfl) ?_
  clear hf; clear a; intro a hf
  refine ldC tbOk (T := 63) (hs.cbx 0 rfl) (LeH.refl _) 3 (.int .u16 p_s.2.2.2.1) hf (by kernel_rfl) (by kernel_rfl) (by kernel_rfl) (by kernel_rfl) ?_
  clear hf; clear a; intro a hf
  replace hs : Sep w F R w1 F [] := hs.sel [] rfl rfl
  replace hf := Fr.keep (ks := [4]) (L' := [(4, .int .u16 p_s.2.2.2.1)]) hf (by kernel_rfl)
  refine st tbOk 2 [2] (L' := [(2, .bool (p_s.2.2.2.1 != 0))]) hf (by kernel_rfl) ?_
  clear hf; clear a; intro a hf
  refine wpList_nil ?_
  have hr := Option.some.inj hS; subst hr
  refine wp_ret ?_
  exact ret_ok hf (vs := [.bool (p_s.2.2.2.1 != 0)]) (by kernel_rfl) ⟨_, rfl, hs.sel [] rfl rfl⟩

set_option maxHeartbeats 4000000 in
theorem slices_Index_int_int_ok {w : World} {F : SH} {p_s : List Int} {p_v : Int} {ao1 : Option Addr} {cp1 : Nat} (hs : Sep w F (blks [.ro (tI .i64) (.slice ao1 p_s.length cp1) p_s]) w F [.ro (tI .i64) (.slice ao1 p_s.length cp1) p_s]) {r : Int} (hS : slices_Index_int_int p_s p_v = some r) :
    Calls Try.prog 55 [.slice ao1 p_s.length cp1, .int .i64 p_v].toArray w (Gives (fun u w' => ∃ (F' : SH), u = .int .i64 r ∧ Sep w F (blks [.ro (tI .i64) (.slice ao1 p_s.length cp1) p_s]) w' F' [])) := by
  generalize (blks [.ro (tI .i64) (.slice ao1 p_s.length cp1) p_s]) = R at hs ⊢
  unfold slices_Index_int_int at hS
  refine fn_ok (vs := [.slice ao1 p_s.length cp1, .int .i64 p_v]) Try.func55 rfl 19 Try.ntmps55 (Nat.le_of_ble_eq_true rfl) ?_
  intro a hf
  replace hf := Fr.cast (L' := [(0, .slice ao1 p_s.length cp1), (1, .int .i64 p_v)]) hf (by kernel_rfl)
  refine sq ?_
  refine reg ?_
  refine st tbOk 1 [0, 1] (L' := [(0, .slice ao1 p_s.length cp1), (1, .int .i64 p_v)]) hf (by kernel_rfl) ?_
  clear hf; clear a; intro a hf
  refine wpList_nil ?_
  refine sq ?_
  refine sq ?_
  refine reg ?_
  refine st tbOk 3 [0, 1, 7, 8] (L' := [(0, .slice ao1 p_s.length cp1), (1, .int .i64 p_v), (7, .int .i64 ((p_s.length : Nat) : Int)), (8, .int .i64 0)]) hf (by kernel_rfl) ?_
  clear hf; clear a; intro a hf
  refine wpList_nil ?_
  refine ctj (fun (s1 : Unit) (a : Act) (w' : World) => ∃ (F1 : SH), Sep w F R w' F1 [] ∧ Fr 19 [] a) hS ?_ ?_
  · clear hS hf hs; clear a; intro s1 a w2 hM hS
    obtain ⟨F1, hs, hf⟩ := hM
    refine sq ?_
    refine reg ?_
    refine st tbOk 1 [4] (L' := [(4, .int .i64 (-1))]) hf (by kernel_rfl) ?_
    clear hf; clear a; intro a hf
    refine wpList_nil ?_
    have hr := Option.some.inj hS; subst hr
    refine wp_ret ?_
    exact ret_ok hf (vs := [.int .i64 (-1)]) (by kernel_rfl) ⟨_, rfl, hs.sel [] rfl rfl⟩
  · clear hS; intro KK1 k1 hK1 hS
    refine blk ?_
    refine lp (st := 0) (fun (s2 : Int) (a : Act) (w' : World) => ∃ (F2 : SH), Sep w F R w' F2 [.ro (tI .i64) (.slice ao1 p_s.length cp1) p_s] ∧ Fr 19 [(0, .slice ao1 p_s.length cp1), (1, .int .i64 p_v), (7, .int .i64 ((p_s.length : Nat) : Int)), (8, .int .i64 s2)] a) ?_ ⟨_, hs.sel [0] rfl rfl, hf.keep (ks := [0, 1, 7, 8]) (by kernel_rfl)⟩ hS
    clear hS hf hs; clear a
    intro rec1 KK2 hK2 s2 a w1 hM hS
    obtain ⟨F2, hs, hf⟩ := hM
    refine sq ?_
    refine reg ?_
    refine st tbOk 1 [0, 1, 7, 8, 9] (L' := [(0, .slice ao1 p_s.length cp1), (1, .int .i64 p_v), (7, .int .i64 ((p_s.length : Nat) : Int)), (8, .int .i64 s2), (9, .bool (decide (s2 < ((p_s.length : Nat) : Int))))]) hf (by kernel_rfl) ?_
    clear hf; clear a; intro a hf
    refine wpList_nil ?_
    refine sq ?_
    refine cnd (b := decide (s2 < ((p_s.length : Nat) : Int))) hf (by kernel_rfl) (fun hb1 => ?_) (fun hb1 => ?_)
    · replace hS := of_t hb1 hS
      refine wp_skip ?_
      refine sq ?_
      refine blk ?_
      refine sq ?_
      refine reg ?_
      refine st tbOk 2 [0, 1, 5, 7, 8] (L' := [(0, .slice ao1 p_s.length cp1), (1, .int .i64 p_v), (5, .int .i64 s2), (7, .int .i64 ((p_s.length : Nat) : Int)), (8, .int .i64 s2)]) hf (by kernel_rfl) ?_
      clear hf; clear a; intro a hf
      refine wpList_nil ?_
      refine sq ?_
      refine reg ?_
      refine st tbOk 3 [0, 1, 5, 7, 8, 11, 12, 13] (L' := [(0, .slice ao1 p_s.length cp1), (1, .int .i64 p_v), (5, .int .i64 s2), (7, .int .i64 ((p_s.length : Nat) : Int)), (8, .int .i64 s2), (11, .int .i64 p_v), (12, .slice ao1 p_s.length cp1), (13, .int .i64 s2)]) hf (by kernel_rfl) ?_
      clear hf; clear a; intro a hf
      have hT := of_gd hS; clear hS; obtain ⟨hc1, hS⟩ := hT
      refine ixR tbOk u93 i3 rfl rfl ((hs.ro 0 rfl).ra (LeH.refl _)) (k := .i64) (n := s2) hc1 hf (by kernel_rfl) (by kernel_rfl) (by kernel_rfl) (by kernel_rfl) ?_
      clear hf; clear a; intro pb1 po1 c1 a hp1 hr1 hf
      obtain rfl : c1 = [.int .i64 (gt p_s s2)] := hr1
      replace hs : Sep w F R w1 F2 [.cel pb1 po1 [.int .i64 (gt p_s s2)], .ro (tI .i64) (.slice ao1 p_s.length cp1) p_s] := hs.addCel hp1
      replace hf := Fr.keep (ks := [0, 1, 5, 7, 8, 11, 14]) (L' := [(0, .slice ao1 p_s.length cp1), (1, .int .i64 p_v), (5, .int .i64 s2), (7, .int .i64 ((p_s.length : Nat) : Int)), (8, .int .i64 s2), (11, .int .i64 p_v), (14, .pointer (some ⟨pb1, po1, none⟩))]) hf (by kernel_rfl)
      refine ldC tbOk (T := 3) (hs.ccel 0 rfl) (LeH.refl _) 0 (.int .i64 (gt p_s s2)) hf (by kernel_rfl) (by kernel_rfl) (by kernel_rfl) (by kernel_rfl) ?_
      clear hf; clear a; intro a hf
      replace hs : Sep w F R w1 F2 [.ro (tI .i64) (.slice ao1 p_s.length cp1) p_s] := hs.sel [1] rfl rfl
      replace hf := Fr.keep (ks := [0, 1, 5, 7, 8, 11, 15]) (L' := [(0, .slice ao1 p_s.length cp1), (1, .int .i64 p_v), (5, .int .i64 s2), (7, .int .i64 ((p_s.length : Nat) : Int)), (8, .int .i64 s2), (11, .int .i64 p_v), (15, .int .i64 (gt p_s s2))]) hf (by kernel_rfl)
      refine st tbOk 1 [0, 1, 5, 7, 8, 16] (L' := [(0, .slice ao1 p_s.length cp1), (1, .int .i64 p_v), (5, .int .i64 s2), (7, .int .i64 ((p_s.length : Nat) : Int)), (8, .int .i64 s2), (16, .bool (p_v == (gt p_s s2)))]) hf (by kernel_rfl) ?_
      clear hf; clear a; intro a hf
      refine wpList_nil ?_
      refine cnd (b := p_v == (gt p_s s2)) hf (by kernel_rfl) (fun hb2 => ?_) (fun hb2 => ?_)
      · replace hS := of_t hb2 hS
        refine sq ?_
        refine reg ?_
        refine st tbOk 2 [4] (L' := [(4, .int .i64 s2)]) hf (by kernel_rfl) ?_
        clear hf; clear a; intro a hf
        refine wpList_nil ?_
        have hr := Option.some.inj hS; subst hr
        refine wp_ret ?_
        exact ret_ok hf (vs := [.int .i64 s2]) (by kernel_rfl) ⟨_, rfl, hs.sel [] rfl rfl⟩
      · replace hS := of_f hb2 hS
        refine wp_skip ?_
        refine reg ?_
        refine st tbOk 2 [0, 1, 7, 8] (L' := [(0, .slice ao1 p_s.length cp1), (1, .int .i64 p_v), (7, .int .i64 ((p_s.length : Nat) : Int)), (8, .int .i64 (IntKind.i64.wrap (s2 + 1)))]) hf (by kernel_rfl) ?_
        clear hf; clear a; intro a hf
        refine wpList_nil ?_
        exact hK2 (IntKind.i64.wrap (s2 + 1)) _ _ ⟨_, hs.sel [0] rfl rfl, hf.keep (ks := [0, 1, 7, 8]) (by kernel_rfl)⟩ hS
    · replace hS := of_f hb1 hS
      refine wp_exit ?_
      exact hK1 () _ _ ⟨_, hs.sel [] rfl rfl, hf.keep (ks := []) (by kernel_rfl)⟩ hS

set_option maxHeartbeats 4000000 in
theorem slices_Contains_int_int_ok {w : World} {F : SH} {p_s : List Int} {p_v : Int} {ao1 : Option Addr} {cp1 : Nat} (hs : Sep w F (blks [.ro (tI .i64) (.slice ao1 p_s.length cp1) p_s]) w F [.ro (tI .i64) (.slice ao1 p_s.length cp1) p_s]) {r : Bool} (hS : slices_Contains_int_int p_s p_v = some r) :
    Calls Try.prog 53 [.slice ao1 p_s.length cp1, .int .i64 p_v].toArray w (Gives (fun u w' => ∃ (F' : SH), u = .bool r ∧ Sep w F (blks [.ro (tI .i64) (.slice ao1 p_s.length cp1) p_s]) w' F' [])) := by
  generalize (blks [.ro (tI .i64) (.slice ao1 p_s.length cp1) p_s]) = R at hs ⊢
  unfold slices_Contains_int_int at hS
  refine fn_ok (vs := [.slice ao1 p_s.length cp1, .int .i64 p_v]) Try.func53 rfl 9 Try.ntmps53 (Nat.le_of_ble_eq_true rfl) ?_
  intro a hf
  replace hf := Fr.cast (L' := [(0, .slice ao1 p_s.length cp1), (1, .int .i64 p_v)]) hf (by kernel_rfl)
  refine sq ?_
  refine reg ?_
  refine st tbOk 1 [0, 1] (L' := [(0, .slice ao1 p_s.length cp1), (1, .int .i64 p_v)]) hf (by kernel_rfl) ?_
  clear hf; clear a; intro a hf
  refine wpList_nil ?_
  refine sq ?_
  refine reg ?_
  refine st tbOk 2 [5, 6] (L' := [(5, .slice ao1 p_s.length cp1), (6, .int .i64 p_v)]) hf (by kernel_rfl) ?_
  clear hf; clear a; intro a hf
  have hT := of_bd hS; clear hS; obtain ⟨z1, hz1, hS⟩ := hT
  refine clV ent55 (vs := [.slice ao1 p_s.length cp1, .int .i64 p_v]) (caps := []) hf (by kernel_rfl) (by kernel_rfl) (by kernel_rfl) (by kernel_rfl) (slices_Index_int_int_ok (p_s := p_s) (p_v := p_v) (hs.enter [0] rfl rfl) hz1) ?_
  clear hf; clear a; intro v w1 a hT hf; obtain ⟨F1, rfl, hr⟩ := hT
  replace hs : Sep w F R w1 F1 [.ro (tI .i64) (.slice ao1 p_s.length cp1) p_s] := hs.back [0] [0] rfl rfl rfl rfl hr
  clear hr
  replace hs : Sep w F R w1 F1 [] := hs.sel [] rfl rfl
  replace hf := Fr.keep (ks := [7]) (L' := [(7, .int .i64 z1)]) hf (by kernel_rfl)
  refine st tbOk 2 [4] (L' := [(4, .bool (decide (z1 ≥ 0)))]) hf (by kernel_rfl) ?_
  clear hf; clear a; intro a hf
  refine wpList_nil ?_
  have hr := Option.some.inj hS; subst hr
  refine wp_ret ?_
  exact ret_ok hf (vs := [.bool (decide (z1 ≥ 0))]) (by kernel_rfl) ⟨_, rfl, hs.sel [] rfl rfl⟩

set_option maxHeartbeats 4000000 in
theorem symbols_may_ok {w : World} {F : SH} {p_s : Int × Int × Int × Int × Int × Int}  (hs : Sep w F (blks []) w F []) {r : Bool} (hS : symbols_may p_s = some r) :
    Calls Try.prog 46 [.agg #[.int .u32 p_s.1, .int .u8 p_s.2.1, .int .u8 p_s.2.2.1, .int .u16 p_s.2.2.2.1, .int .u64 p_s.2.2.2.2.1, .int .u64 p_s.2.2.2.2.2]].toArray w (Gives (fun u w' => ∃ (F' : SH), u = .bool r ∧ Sep w F (blks []) w' F' [])) := by
  generalize (blks []) = R at hs ⊢
  unfold symbols_may at hS
  refine fn_ok (vs := [.agg #[.int .u32 p_s.1, .int .u8 p_s.2.1, .int .u8 p_s.2.2.1, .int .u16 p_s.2.2.2.1, .int .u64 p_s.2.2.2.2.1, .int .u64 p_s.2.2.2.2.2]]) Try.func46 rfl 50 Try.ntmps46 (Nat.le_of_ble_eq_true rfl) ?_
  intro a hf
  replace hf := Fr.cast (L' := [(0, .agg #[.int .u32 p_s.1, .int .u8 p_s.2.1, .int .u8 p_s.2.2.1, .int .u16 p_s.2.2.2.1, .int .u64 p_s.2.2.2.2.1, .int .u64 p_s.2.2.2.2.2])]) hf (by kernel_rfl)
  refine sq ?_
  refine reg ?_
  refine bx (T := 65) [.int .u32 p_s.1, .int .u8 p_s.2.1, .int .u8 p_s.2.2.1, .int .u16 p_s.2.2.2.1, .int .u64 p_s.2.2.2.2.1, .int .u64 p_s.2.2.2.2.2] (v := .agg #[.int .u32 p_s.1, .int .u8 p_s.2.1, .int .u8 p_s.2.2.1, .int .u16 p_s.2.2.2.1, .int .u64 p_s.2.2.2.2.1, .int .u64 p_s.2.2.2.2.2]) rfl (by kernel_rfl) hf (by kernel_rfl) (by kernel_rfl) (by kernel_rfl) ?_
  clear hf; clear a; intro w1 a hb hx _ hf
  replace hs : Sep w F R w1 F [.box w.heap.size 65 [.int .u32 p_s.1, .int .u8 p_s.2.1, .int .u8 p_s.2.2.1, .int .u16 p_s.2.2.2.1, .int .u64 p_s.2.2.2.2.1, .int .u64 p_s.2.2.2.2.2]] := hs.newBox hb hx
  clear hb hx
  replace hf := Fr.keep (ks := [1]) (L' := [(1, .pointer (some ⟨w.heap.size, 0, none⟩))]) hf (by kernel_rfl)
  refine st tbOk 1 [1] (L' := [(1, .pointer (some ⟨w.heap.size, 0, none⟩))]) hf (by kernel_rfl) ?_
  clear hf; clear a; intro a hf
  refine wpList_nil ?_
  refine sq ?_
  refine reg ?_
  refine bsR tbOk u93 i3 rfl (t := (tI .i64)) (vs := [(0, .int .i64 0), (1, .int .i64 1), (2, .int .i64 2), (3, .int .i64 6)]) (cells := #[.int .i64 0, .int .i64 1, .int .i64 2, .int .i64 6]) ([0, 1, 2, 6] : List Int) hs.le hf (by kernel_rfl) (by kernel_rfl) (by kernel_rfl) rfl (by kernel_rfl) (reps_flat _) rfl ?_
  clear hf; clear a; intro w2 a ho hx hf
  replace hs : Sep w F R w2 F [.row 3 (tI .i64) (.slice (some ⟨w1.heap.size, 0, none⟩) ([0, 1, 2, 6] : List Int).length ([0, 1, 2, 6] : List Int).length) ([0, 1, 2, 6] : List Int), .box w.heap.size 65 [.int .u32 p_s.1, .int .u8 p_s.2.1, .int .u8 p_s.2.2.1, .int .u16 p_s.2.2.2.1, .int .u64 p_s.2.2.2.2.1, .int .u64 p_s.2.2.2.2.2]] := hs.newRow ho hx
  clear ho hx
  replace hf := Fr.keep (ks := [1, 5]) (L' := [(1, .pointer (some ⟨w.heap.size, 0, none⟩)), (5, .slice (some ⟨w1.heap.size, 0, none⟩) ([0, 1, 2, 6] : List Int).length ([0, 1, 2, 6] : List Int).length)]) hf (by kernel_rfl)
  refine st tbOk 1 [1, 3] (L' := [(1, .pointer (some ⟨w.heap.size, 0, none⟩)), (3, .slice (some ⟨w1.heap.size, 0, none⟩) ([0, 1, 2, 6] : List Int).length ([0, 1, 2, 6] : List Int).length)]) hf (by kernel_rfl) ?_
  clear hf; clear a; intro a hf
  refine wpList_nil ?_
  refine sq ?_
  refine ctj (fun (s1 : Bool) (a : Act) (w' : World) => ∃ (F1 : SH), Sep w F R w' F1 [.row 3 (tI .i64) (.slice (some ⟨w1.heap.size, 0, none⟩) ([0, 1, 2, 6] : List Int).length ([0, 1, 2, 6] : List Int).length) ([0, 1, 2, 6] : List Int), .box w.heap.size 65 [.int .u32 p_s.1, .int .u8 p_s.2.1, .int .u8 p_s.2.2.1, .int .u16 p_s.2.2.2.1, .int .u64 p_s.2.2.2.2.1, .int .u64 p_s.2.2.2.2.2]] ∧ Fr 50 [(1, .pointer (some ⟨w.heap.size, 0, none⟩)), (3, .slice (some ⟨w1.heap.size, 0, none⟩) ([0, 1, 2, 6] : List Int).length ([0, 1, 2, 6] : List Int).length), (4, .bool s1)] a) hS ?_ ?_
  · clear hS hf hs; clear a; intro s1 a w5 hM hS
    obtain ⟨F1, hs, hf⟩ := hM
    refine sq ?_
    refine ctj (fun (s2 : Bool) (a : Act) (w' : World) => ∃ (F4 : SH), Sep w F R w' F4 [] ∧ Fr 50 [(2, .bool s2)] a) hS ?_ ?_
    · clear hS hf hs; clear a; intro s2 a w9 hM hS
      obtain ⟨F4, hs, hf⟩ := hM
      have hr := Option.some.inj hS; subst hr
      refine wp_ret ?_
      exact ret_ok hf (vs := [.bool s2]) (by kernel_rfl) ⟨_, rfl, hs.sel [] rfl rfl⟩
    · clear hS; intro KK2 k2 hK2 hS
      refine reg ?_
      refine ldC tbOk (T := 65) (hs.cbx 1 rfl) (LeH.refl _) 0 (.agg #[.int .u32 p_s.1, .int .u8 p_s.2.1, .int .u8 p_s.2.2.1, .int .u16 p_s.2.2.2.1, .int .u64 p_s.2.2.2.2.1, .int .u64 p_s.2.2.2.2.2]) hf (by kernel_rfl) (by kernel_rfl) (by kernel_rfl) (by kernel_rfl) ?_
      clear hf; clear a; intro a hf
      replace hf := Fr.keep (ks := [1, 3, 4, 23]) (L' := [(1, .pointer (some ⟨w.heap.size, 0, none⟩)), (3, .slice (some ⟨w1.heap.size, 0, none⟩) ([0, 1, 2, 6] : List Int).length ([0, 1, 2, 6] : List Int).length), (4, .bool s1), (23, .agg #[.int .u32 p_s.1, .int .u8 p_s.2.1, .int .u8 p_s.2.2.1, .int .u16 p_s.2.2.2.1, .int .u64 p_s.2.2.2.2.1, .int .u64 p_s.2.2.2.2.2])]) hf (by kernel_rfl)
      have hT := of_bd hS; clear hS; obtain ⟨z3, hz3, hS⟩ := hT
      refine clV ent28 (vs := [.agg #[.int .u32 p_s.1, .int .u8 p_s.2.1, .int .u8 p_s.2.2.1, .int .u16 p_s.2.2.2.1, .int .u64 p_s.2.2.2.2.1, .int .u64 p_s.2.2.2.2.2]]) (caps := []) hf (by kernel_rfl) (by kernel_rfl) (by kernel_rfl) (by kernel_rfl) (symbols_Bind_ok (p_s := (p_s.1, p_s.2.1, p_s.2.2.1, p_s.2.2.2.1, p_s.2.2.2.2.1, p_s.2.2.2.2.2)) (hs.enter [] rfl rfl) hz3) ?_
      clear hf; clear a; intro v w6 a hT hf; obtain ⟨F5, rfl, hr⟩ := hT
      replace hs : Sep w F R w6 F5 [.row 3 (tI .i64) (.slice (some ⟨w1.heap.size, 0, none⟩) ([0, 1, 2, 6] : List Int).length ([0, 1, 2, 6] : List Int).length) ([0, 1, 2, 6] : List Int), .box w.heap.size 65 [.int .u32 p_s.1, .int .u8 p_s.2.1, .int .u8 p_s.2.2.1, .int .u16 p_s.2.2.2.1, .int .u64 p_s.2.2.2.2.1, .int .u64 p_s.2.2.2.2.2]] := hs.back [] [0, 1] rfl rfl rfl rfl hr
      clear hr
      replace hf := Fr.keep (ks := [1, 3, 4, 24]) (L' := [(1, .pointer (some ⟨w.heap.size, 0, none⟩)), (3, .slice (some ⟨w1.heap.size, 0, none⟩) ([0, 1, 2, 6] : List Int).length ([0, 1, 2, 6] : List Int).length), (4, .bool s1), (24, .int .i64 z3)]) hf (by kernel_rfl)
      refine st tbOk 2 [1, 3, 4, 26] (L' := [(1, .pointer (some ⟨w.heap.size, 0, none⟩)), (3, .slice (some ⟨w1.heap.size, 0, none⟩) ([0, 1, 2, 6] : List Int).length ([0, 1, 2, 6] : List Int).length), (4, .bool s1), (26, .bool (decide (z3 ≤ 2)))]) hf (by kernel_rfl) ?_
      clear hf; clear a; intro a hf
      rcases Bool.eq_false_or_eq_true (decide (z3 ≤ 2)) with hb4 | hb4
      · replace hS := of_t hb4 hS
        replace hf := Fr.cast (L' := [(1, .pointer (some ⟨w.heap.size, 0, none⟩)), (3, .slice (some ⟨w1.heap.size, 0, none⟩) ([0, 1, 2, 6] : List Int).length ([0, 1, 2, 6] : List Int).length), (4, .bool s1), (26, .bool true)]) hf (by rw [hb4])
        refine st tbOk 1 [1, 4, 26, 27] (L' := [(1, .pointer (some ⟨w.heap.size, 0, none⟩)), (4, .bool s1), (26, .bool true), (27, .slice (some ⟨w1.heap.size, 0, none⟩) ([0, 1, 2, 6] : List Int).length ([0, 1, 2, 6] : List Int).length)]) hf (by kernel_rfl) ?_
        clear hf; clear a; intro a hf
        refine ldC tbOk (T := 65) (hs.cbx 1 rfl) (LeH.refl _) 0 (.agg #[.int .u32 p_s.1, .int .u8 p_s.2.1, .int .u8 p_s.2.2.1, .int .u16 p_s.2.2.2.1, .int .u64 p_s.2.2.2.2.1, .int .u64 p_s.2.2.2.2.2]) hf (by kernel_rfl) (by kernel_rfl) (by kernel_rfl) (by kernel_rfl) ?_
        clear hf; clear a; intro a hf
        replace hf := Fr.keep (ks := [1, 4, 26, 27, 28]) (L' := [(1, .pointer (some ⟨w.heap.size, 0, none⟩)), (4, .bool s1), (26, .bool true), (27, .slice (some ⟨w1.heap.size, 0, none⟩) ([0, 1, 2, 6] : List Int).length ([0, 1, 2, 6] : List Int).length), (28, .agg #[.int .u32 p_s.1, .int .u8 p_s.2.1, .int .u8 p_s.2.2.1, .int .u16 p_s.2.2.2.1, .int .u64 p_s.2.2.2.2.1, .int .u64 p_s.2.2.2.2.2])]) hf (by kernel_rfl)
        have hT := of_bd hS; clear hS; obtain ⟨z4, hz4, hS⟩ := hT
        refine clV ent29 (vs := [.agg #[.int .u32 p_s.1, .int .u8 p_s.2.1, .int .u8 p_s.2.2.1, .int .u16 p_s.2.2.2.1, .int .u64 p_s.2.2.2.2.1, .int .u64 p_s.2.2.2.2.2]]) (caps := []) hf (by kernel_rfl) (by kernel_rfl) (by kernel_rfl) (by kernel_rfl) (symbols_Kind_ok (p_s := (p_s.1, p_s.2.1, p_s.2.2.1, p_s.2.2.2.1, p_s.2.2.2.2.1, p_s.2.2.2.2.2)) (hs.enter [] rfl rfl) hz4) ?_
        clear hf; clear a; intro v w7 a hT hf; obtain ⟨F6, rfl, hr⟩ := hT
        replace hs : Sep w F R w7 F6 [.row 3 (tI .i64) (.slice (some ⟨w1.heap.size, 0, none⟩) ([0, 1, 2, 6] : List Int).length ([0, 1, 2, 6] : List Int).length) ([0, 1, 2, 6] : List Int), .box w.heap.size 65 [.int .u32 p_s.1, .int .u8 p_s.2.1, .int .u8 p_s.2.2.1, .int .u16 p_s.2.2.2.1, .int .u64 p_s.2.2.2.2.1, .int .u64 p_s.2.2.2.2.2]] := hs.back [] [0, 1] rfl rfl rfl rfl hr
        clear hr
        replace hf := Fr.keep (ks := [1, 4, 26, 27, 29]) (L' := [(1, .pointer (some ⟨w.heap.size, 0, none⟩)), (4, .bool s1), (26, .bool true), (27, .slice (some ⟨w1.heap.size, 0, none⟩) ([0, 1, 2, 6] : List Int).length ([0, 1, 2, 6] : List Int).length), (29, .int .i64 z4)]) hf (by kernel_rfl)
        have hT := of_bd hS; clear hS; obtain ⟨z5, hz5, hS⟩ := hT
        refine clV ent53 (vs := [.slice (some ⟨w1.heap.size, 0, none⟩) ([0, 1, 2, 6] : List Int).length ([0, 1, 2, 6] : List Int).length, .int .i64 z4]) (caps := []) hf (by kernel_rfl) (by kernel_rfl) (by kernel_rfl) (by kernel_rfl) (slices_Contains_int_int_ok (p_s := ([0, 1, 2, 6] : List Int)) (p_v := z4) (hs.lend [0] [] rfl rfl rfl rfl rfl) hz5) ?_
        clear hf; clear a; intro v w8 a hT hf; obtain ⟨F7, rfl, hr⟩ := hT
        replace hs : Sep w F R w8 F6 [.row 3 (tI .i64) (.slice (some ⟨w1.heap.size, 0, none⟩) ([0, 1, 2, 6] : List Int).length ([0, 1, 2, 6] : List Int).length) ([0, 1, 2, 6] : List Int), .box w.heap.size 65 [.int .u32 p_s.1, .int .u8 p_s.2.1, .int .u8 p_s.2.2.1, .int .u16 p_s.2.2.2.1, .int .u64 p_s.2.2.2.2.1, .int .u64 p_s.2.2.2.2.2]] := hs.backL [0] [] [0, 1] rfl rfl rfl rfl rfl rfl hr trivial
        clear hr
        replace hs : Sep w F R w8 F6 [.box w.heap.size 65 [.int .u32 p_s.1, .int .u8 p_s.2.1, .int .u8 p_s.2.2.1, .int .u16 p_s.2.2.2.1, .int .u64 p_s.2.2.2.2.1, .int .u64 p_s.2.2.2.2.2]] := hs.sel [1] rfl rfl
        replace hf := Fr.keep (ks := [1, 4, 26, 30]) (L' := [(1, .pointer (some ⟨w.heap.size, 0, none⟩)), (4, .bool s1), (26, .bool true), (30, .bool z5)]) hf (by kernel_rfl)
        refine st tbOk 2 [1, 4, 32] (L' := [(1, .pointer (some ⟨w.heap.size, 0, none⟩)), (4, .bool s1), (32, .bool z5)]) hf (by kernel_rfl) ?_
        clear hf; clear a; intro a hf
        rcases Bool.eq_false_or_eq_true (z5) with hb5 | hb5
        · replace hS := of_t hb5 hS
          replace hf := Fr.cast (L' := [(1, .pointer (some ⟨w.heap.size, 0, none⟩)), (4, .bool s1), (32, .bool true)]) hf (by rw [hb5])
          refine st tbOk 1 [1, 4, 32, 33] (L' := [(1, .pointer (some ⟨w.heap.size, 0, none⟩)), (4, .bool s1), (32, .bool true), (33, .pointer (some ⟨w.heap.size, 2, none⟩))]) hf (by kernel_rfl) ?_
          clear hf; clear a; intro a hf
          refine ldC tbOk (T := 5) (hs.cbx 0 rfl) (LeH.refl _) 2 (.int .u8 p_s.2.2.1) hf (by kernel_rfl) (by kernel_rfl) (by kernel_rfl) (by kernel_rfl) ?_
          clear hf; clear a; intro a hf
          replace hf := Fr.keep (ks := [1, 4, 32, 34]) (L' := [(1, .pointer (some ⟨w.heap.size, 0, none⟩)), (4, .bool s1), (32, .bool true), (34, .int .u8 p_s.2.2.1)]) hf (by kernel_rfl)
          refine st tbOk 3 [1, 4, 37] (L' := [(1, .pointer (some ⟨w.heap.size, 0, none⟩)), (4, .bool s1), (37, .bool (p_s.2.2.1 == 0))]) hf (by kernel_rfl) ?_
          clear hf; clear a; intro a hf
          rcases Bool.eq_false_or_eq_true (p_s.2.2.1 == 0) with hb6 | hb6
          · replace hS := of_t hb6 hS
            replace hf := Fr.cast (L' := [(1, .pointer (some ⟨w.heap.size, 0, none⟩)), (4, .bool s1), (37, .bool true)]) hf (by rw [hb6])
            refine st tbOk 1 [1, 4, 37, 38] (L' := [(1, .pointer (some ⟨w.heap.size, 0, none⟩)), (4, .bool s1), (37, .bool true), (38, .pointer (some ⟨w.heap.size, 3, none⟩))]) hf (by kernel_rfl) ?_
            clear hf; clear a; intro a hf
            refine ldC tbOk (T := 63) (hs.cbx 0 rfl) (LeH.refl _) 3 (.int .u16 p_s.2.2.2.1) hf (by kernel_rfl) (by kernel_rfl) (by kernel_rfl) (by kernel_rfl) ?_
            clear hf; clear a; intro a hf
            replace hf := Fr.keep (ks := [1, 4, 37, 39]) (L' := [(1, .pointer (some ⟨w.heap.size, 0, none⟩)), (4, .bool s1), (37, .bool true), (39, .int .u16 p_s.2.2.2.1)]) hf (by kernel_rfl)
            refine st tbOk 3 [1, 4, 42] (L' := [(1, .pointer (some ⟨w.heap.size, 0, none⟩)), (4, .bool s1), (42, .bool (decide (p_s.2.2.2.1 ≤ 1)))]) hf (by kernel_rfl) ?_
            clear hf; clear a; intro a hf
            rcases Bool.eq_false_or_eq_true (decide (p_s.2.2.2.1 ≤ 1)) with hb7 | hb7
            · replace hS := of_t hb7 hS
              replace hf := Fr.cast (L' := [(1, .pointer (some ⟨w.heap.size, 0, none⟩)), (4, .bool s1), (42, .bool true)]) hf (by rw [hb7])
              refine st tbOk 1 [4, 42, 43] (L' := [(4, .bool s1), (42, .bool true), (43, .pointer (some ⟨w.heap.size, 0, none⟩))]) hf (by kernel_rfl) ?_
              clear hf; clear a; intro a hf
              refine ldC tbOk (T := 31) (hs.cbx 0 rfl) (LeH.refl _) 0 (.int .u32 p_s.1) hf (by kernel_rfl) (by kernel_rfl) (by kernel_rfl) (by kernel_rfl) ?_
              clear hf; clear a; intro a hf
              replace hs : Sep w F R w8 F6 [] := hs.sel [] rfl rfl
              replace hf := Fr.keep (ks := [4, 42, 44]) (L' := [(4, .bool s1), (42, .bool true), (44, .int .u32 p_s.1)]) hf (by kernel_rfl)
              refine st tbOk 3 [4, 47] (L' := [(4, .bool s1), (47, .bool (p_s.1 != 0))]) hf (by kernel_rfl) ?_
              clear hf; clear a; intro a hf
              rcases Bool.eq_false_or_eq_true (p_s.1 != 0) with hb8 | hb8
              · replace hS := of_t hb8 hS
                replace hf := Fr.cast (L' := [(4, .bool s1), (47, .bool true)]) hf (by rw [hb8])
                refine st tbOk 3 [2] (L' := [(2, .bool s1)]) hf (by kernel_rfl) ?_
                clear hf; clear a; intro a hf
                refine wpList_nil ?_
                exact hK2 s1 _ _ ⟨_, hs.sel [] rfl rfl, hf.keep (ks := [2]) (by kernel_rfl)⟩ hS
              · replace hS := of_f hb8 hS
                replace hf := Fr.cast (L' := [(4, .bool s1), (47, .bool false)]) hf (by rw [hb8])
                refine st tbOk 3 [2] (L' := [(2, .bool false)]) hf (by kernel_rfl) ?_
                clear hf; clear a; intro a hf
                refine wpList_nil ?_
                exact hK2 false _ _ ⟨_, hs.sel [] rfl rfl, hf.keep (ks := [2]) (by kernel_rfl)⟩ hS
            · replace hS := of_f hb7 hS
              replace hf := Fr.cast (L' := [(1, .pointer (some ⟨w.heap.size, 0, none⟩)), (4, .bool s1), (42, .bool false)]) hf (by rw [hb7])
              refine st tbOk 8 [2] (L' := [(2, .bool false)]) hf (by kernel_rfl) ?_
              clear hf; clear a; intro a hf
              refine wpList_nil ?_
              exact hK2 false _ _ ⟨_, hs.sel [] rfl rfl, hf.keep (ks := [2]) (by kernel_rfl)⟩ hS
          · replace hS := of_f hb6 hS
            replace hf := Fr.cast (L' := [(1, .pointer (some ⟨w.heap.size, 0, none⟩)), (4, .bool s1), (37, .bool false)]) hf (by rw [hb6])
            refine st tbOk 13 [2] (L' := [(2, .bool false)]) hf (by kernel_rfl) ?_
            clear hf; clear a; intro a hf
            refine wpList_nil ?_
            exact hK2 false _ _ ⟨_, hs.sel [] rfl rfl, hf.keep (ks := [2]) (by kernel_rfl)⟩ hS
        · replace hS := of_f hb5 hS
          replace hf := Fr.cast (L' := [(1, .pointer (some ⟨w.heap.size, 0, none⟩)), (4, .bool s1), (32, .bool false)]) hf (by rw [hb5])
          refine st tbOk 18 [2] (L' := [(2, .bool false)]) hf (by kernel_rfl) ?_
          clear hf; clear a; intro a hf
          refine wpList_nil ?_
          exact hK2 false _ _ ⟨_, hs.sel [] rfl rfl, hf.keep (ks := [2]) (by kernel_rfl)⟩ hS
      · replace hS := of_f hb4 hS
        replace hf := Fr.cast (L' := [(1, .pointer (some ⟨w.heap.size, 0, none⟩)), (3, .slice (some ⟨w1.heap.size, 0, none⟩) ([0, 1, 2, 6] : List Int).length ([0, 1, 2, 6] : List Int).length), (4, .bool s1), (26, .bool false)]) hf (by rw [hb4])
        refine st tbOk 24 [2] (L' := [(2, .bool false)]) hf (by kernel_rfl) ?_
        clear hf; clear a; intro a hf
        refine wpList_nil ?_
        exact hK2 false _ _ ⟨_, hs.sel [] rfl rfl, hf.keep (ks := [2]) (by kernel_rfl)⟩ hS
  · clear hS; intro KK1 k1 hK1 hS
    refine reg ?_
    refine ldC tbOk (T := 65) (hs.cbx 1 rfl) (LeH.refl _) 0 (.agg #[.int .u32 p_s.1, .int .u8 p_s.2.1, .int .u8 p_s.2.2.1, .int .u16 p_s.2.2.2.1, .int .u64 p_s.2.2.2.2.1, .int .u64 p_s.2.2.2.2.2]) hf (by kernel_rfl) (by kernel_rfl) (by kernel_rfl) (by kernel_rfl) ?_
    clear hf; clear a; intro a hf
    replace hf := Fr.keep (ks := [1, 3, 6]) (L' := [(1, .pointer (some ⟨w.heap.size, 0, none⟩)), (3, .slice (some ⟨w1.heap.size, 0, none⟩) ([0, 1, 2, 6] : List Int).length ([0, 1, 2, 6] : List Int).length), (6, .agg #[.int .u32 p_s.1, .int .u8 p_s.2.1, .int .u8 p_s.2.2.1, .int .u16 p_s.2.2.2.1, .int .u64 p_s.2.2.2.2.1, .int .u64 p_s.2.2.2.2.2])]) hf (by kernel_rfl)
    have hT := of_bd hS; clear hS; obtain ⟨z1, hz1, hS⟩ := hT
    refine clV ent30 (vs := [.agg #[.int .u32 p_s.1, .int .u8 p_s.2.1, .int .u8 p_s.2.2.1, .int .u16 p_s.2.2.2.1, .int .u64 p_s.2.2.2.2.1, .int .u64 p_s.2.2.2.2.2]]) (caps := []) hf (by kernel_rfl) (by kernel_rfl) (by kernel_rfl) (by kernel_rfl) (symbols_Defined_ok (p_s := (p_s.1, p_s.2.1, p_s.2.2.1, p_s.2.2.2.1, p_s.2.2.2.2.1, p_s.2.2.2.2.2)) (hs.enter [] rfl rfl) hz1) ?_
    clear hf; clear a; intro v w3 a hT hf; obtain ⟨F2, rfl, hr⟩ := hT
    replace hs : Sep w F R w3 F2 [.row 3 (tI .i64) (.slice (some ⟨w1.heap.size, 0, none⟩) ([0, 1, 2, 6] : List Int).length ([0, 1, 2, 6] : List Int).length) ([0, 1, 2, 6] : List Int), .box w.heap.size 65 [.int .u32 p_s.1, .int .u8 p_s.2.1, .int .u8 p_s.2.2.1, .int .u16 p_s.2.2.2.1, .int .u64 p_s.2.2.2.2.1, .int .u64 p_s.2.2.2.2.2]] := hs.back [] [0, 1] rfl rfl rfl rfl hr
    clear hr
    replace hf := Fr.keep (ks := [1, 3, 7]) (L' := [(1, .pointer (some ⟨w.heap.size, 0, none⟩)), (3, .slice (some ⟨w1.heap.size, 0, none⟩) ([0, 1, 2, 6] : List Int).length ([0, 1, 2, 6] : List Int).length), (7, .bool z1)]) hf (by kernel_rfl)
    refine st tbOk 1 [1, 3, 8] (L' := [(1, .pointer (some ⟨w.heap.size, 0, none⟩)), (3, .slice (some ⟨w1.heap.size, 0, none⟩) ([0, 1, 2, 6] : List Int).length ([0, 1, 2, 6] : List Int).length), (8, .bool z1)]) hf (by kernel_rfl) ?_
    clear hf; clear a; intro a hf
    rcases Bool.eq_false_or_eq_true (z1) with hb1 | hb1
    · replace hS := of_t hb1 hS
      replace hf := Fr.cast (L' := [(1, .pointer (some ⟨w.heap.size, 0, none⟩)), (3, .slice (some ⟨w1.heap.size, 0, none⟩) ([0, 1, 2, 6] : List Int).length ([0, 1, 2, 6] : List Int).length), (8, .bool true)]) hf (by rw [hb1])
      refine st tbOk 15 [1, 3, 4] (L' := [(1, .pointer (some ⟨w.heap.size, 0, none⟩)), (3, .slice (some ⟨w1.heap.size, 0, none⟩) ([0, 1, 2, 6] : List Int).length ([0, 1, 2, 6] : List Int).length), (4, .bool true)]) hf (by kernel_rfl) ?_
      clear hf; clear a; intro a hf
      refine wpList_nil ?_
      exact hK1 true _ _ ⟨_, hs.sel [0, 1] rfl rfl, hf.keep (ks := [1, 3, 4]) (by kernel_rfl)⟩ hS
    · replace hS := of_f hb1 hS
      replace hf := Fr.cast (L' := [(1, .pointer (some ⟨w.heap.size, 0, none⟩)), (3, .slice (some ⟨w1.heap.size, 0, none⟩) ([0, 1, 2, 6] : List Int).length ([0, 1, 2, 6] : List Int).length), (8, .bool false)]) hf (by rw [hb1])
      refine st tbOk 1 [1, 3, 8, 9] (L' := [(1, .pointer (some ⟨w.heap.size, 0, none⟩)), (3, .slice (some ⟨w1.heap.size, 0, none⟩) ([0, 1, 2, 6] : List Int).length ([0, 1, 2, 6] : List Int).length), (8, .bool false), (9, .pointer (some ⟨w.heap.size, 4, none⟩))]) hf (by kernel_rfl) ?_
      clear hf; clear a; intro a hf
      refine ldC tbOk (T := 23) (hs.cbx 1 rfl) (LeH.refl _) 4 (.int .u64 p_s.2.2.2.2.1) hf (by kernel_rfl) (by kernel_rfl) (by kernel_rfl) (by kernel_rfl) ?_
      clear hf; clear a; intro a hf
      replace hf := Fr.keep (ks := [1, 3, 8, 10]) (L' := [(1, .pointer (some ⟨w.heap.size, 0, none⟩)), (3, .slice (some ⟨w1.heap.size, 0, none⟩) ([0, 1, 2, 6] : List Int).length ([0, 1, 2, 6] : List Int).length), (8, .bool false), (10, .int .u64 p_s.2.2.2.2.1)]) hf (by kernel_rfl)
      refine st tbOk 2 [1, 3, 8, 12] (L' := [(1, .pointer (some ⟨w.heap.size, 0, none⟩)), (3, .slice (some ⟨w1.heap.size, 0, none⟩) ([0, 1, 2, 6] : List Int).length ([0, 1, 2, 6] : List Int).length), (8, .bool false), (12, .bool (p_s.2.2.2.2.1 == 0))]) hf (by kernel_rfl) ?_
      clear hf; clear a; intro a hf
      rcases Bool.eq_false_or_eq_true (p_s.2.2.2.2.1 == 0) with hb2 | hb2
      · replace hS := of_t hb2 hS
        replace hf := Fr.cast (L' := [(1, .pointer (some ⟨w.heap.size, 0, none⟩)), (3, .slice (some ⟨w1.heap.size, 0, none⟩) ([0, 1, 2, 6] : List Int).length ([0, 1, 2, 6] : List Int).length), (8, .bool false), (12, .bool true)]) hf (by rw [hb2])
        refine st tbOk 1 [1, 3, 8, 12, 13] (L' := [(1, .pointer (some ⟨w.heap.size, 0, none⟩)), (3, .slice (some ⟨w1.heap.size, 0, none⟩) ([0, 1, 2, 6] : List Int).length ([0, 1, 2, 6] : List Int).length), (8, .bool false), (12, .bool true), (13, .pointer (some ⟨w.heap.size, 5, none⟩))]) hf (by kernel_rfl) ?_
        clear hf; clear a; intro a hf
        refine ldC tbOk (T := 23) (hs.cbx 1 rfl) (LeH.refl _) 5 (.int .u64 p_s.2.2.2.2.2) hf (by kernel_rfl) (by kernel_rfl) (by kernel_rfl) (by kernel_rfl) ?_
        clear hf; clear a; intro a hf
        replace hf := Fr.keep (ks := [1, 3, 8, 12, 14]) (L' := [(1, .pointer (some ⟨w.heap.size, 0, none⟩)), (3, .slice (some ⟨w1.heap.size, 0, none⟩) ([0, 1, 2, 6] : List Int).length ([0, 1, 2, 6] : List Int).length), (8, .bool false), (12, .bool true), (14, .int .u64 p_s.2.2.2.2.2)]) hf (by kernel_rfl)
        refine st tbOk 3 [1, 3, 8, 17] (L' := [(1, .pointer (some ⟨w.heap.size, 0, none⟩)), (3, .slice (some ⟨w1.heap.size, 0, none⟩) ([0, 1, 2, 6] : List Int).length ([0, 1, 2, 6] : List Int).length), (8, .bool false), (17, .bool (p_s.2.2.2.2.2 == 0))]) hf (by kernel_rfl) ?_
        clear hf; clear a; intro a hf
        rcases Bool.eq_false_or_eq_true (p_s.2.2.2.2.2 == 0) with hb3 | hb3
        · replace hS := of_t hb3 hS
          replace hf := Fr.cast (L' := [(1, .pointer (some ⟨w.heap.size, 0, none⟩)), (3, .slice (some ⟨w1.heap.size, 0, none⟩) ([0, 1, 2, 6] : List Int).length ([0, 1, 2, 6] : List Int).length), (8, .bool false), (17, .bool true)]) hf (by rw [hb3])
          refine ldC tbOk (T := 65) (hs.cbx 1 rfl) (LeH.refl _) 0 (.agg #[.int .u32 p_s.1, .int .u8 p_s.2.1, .int .u8 p_s.2.2.1, .int .u16 p_s.2.2.2.1, .int .u64 p_s.2.2.2.2.1, .int .u64 p_s.2.2.2.2.2]) hf (by kernel_rfl) (by kernel_rfl) (by kernel_rfl) (by kernel_rfl) ?_
          clear hf; clear a; intro a hf
          replace hf := Fr.keep (ks := [1, 3, 8, 17, 18]) (L' := [(1, .pointer (some ⟨w.heap.size, 0, none⟩)), (3, .slice (some ⟨w1.heap.size, 0, none⟩) ([0, 1, 2, 6] : List Int).length ([0, 1, 2, 6] : List Int).length), (8, .bool false), (17, .bool true), (18, .agg #[.int .u32 p_s.1, .int .u8 p_s.2.1, .int .u8 p_s.2.2.1, .int .u16 p_s.2.2.2.1, .int .u64 p_s.2.2.2.2.1, .int .u64 p_s.2.2.2.2.2])]) hf (by kernel_rfl)
          have hT := of_bd hS; clear hS; obtain ⟨z2, hz2, hS⟩ := hT
          refine clV ent28 (vs := [.agg #[.int .u32 p_s.1, .int .u8 p_s.2.1, .int .u8 p_s.2.2.1, .int .u16 p_s.2.2.2.1, .int .u64 p_s.2.2.2.2.1, .int .u64 p_s.2.2.2.2.2]]) (caps := []) hf (by kernel_rfl) (by kernel_rfl) (by kernel_rfl) (by kernel_rfl) (symbols_Bind_ok (p_s := (p_s.1, p_s.2.1, p_s.2.2.1, p_s.2.2.2.1, p_s.2.2.2.2.1, p_s.2.2.2.2.2)) (hs.enter [] rfl rfl) hz2) ?_
          clear hf; clear a; intro v w4 a hT hf; obtain ⟨F3, rfl, hr⟩ := hT
          replace hs : Sep w F R w4 F3 [.row 3 (tI .i64) (.slice (some ⟨w1.heap.size, 0, none⟩) ([0, 1, 2, 6] : List Int).length ([0, 1, 2, 6] : List Int).length) ([0, 1, 2, 6] : List Int), .box w.heap.size 65 [.int .u32 p_s.1, .int .u8 p_s.2.1, .int .u8 p_s.2.2.1, .int .u16 p_s.2.2.2.1, .int .u64 p_s.2.2.2.2.1, .int .u64 p_s.2.2.2.2.2]] := hs.back [] [0, 1] rfl rfl rfl rfl hr
          clear hr
          replace hf := Fr.keep (ks := [1, 3, 8, 17, 19]) (L' := [(1, .pointer (some ⟨w.heap.size, 0, none⟩)), (3, .slice (some ⟨w1.heap.size, 0, none⟩) ([0, 1, 2, 6] : List Int).length ([0, 1, 2, 6] : List Int).length), (8, .bool false), (17, .bool true), (19, .int .i64 z2)]) hf (by kernel_rfl)
          have hT := of_let hS; clear hS; obtain ⟨free_1, hl1, hS⟩ := hT
          refine st tbOk 4 [1, 3, 4] (L' := [(1, .pointer (some ⟨w.heap.size, 0, none⟩)), (3, .slice (some ⟨w1.heap.size, 0, none⟩) ([0, 1, 2, 6] : List Int).length ([0, 1, 2, 6] : List Int).length), (4, .bool free_1)]) hf (by subst hl1; kernel_rfl) ?_
          clear hf; clear a; intro a hf
          refine wpList_nil ?_
          exact hK1 free_1 _ _ ⟨_, hs.sel [0, 1] rfl rfl, hf.keep (ks := [1, 3, 4]) (by kernel_rfl)⟩ hS
        · replace hS := of_f hb3 hS
          replace hf := Fr.cast (L' := [(1, .pointer (some ⟨w.heap.size, 0, none⟩)), (3, .slice (some ⟨w1.heap.size, 0, none⟩) ([0, 1, 2, 6] : List Int).length ([0, 1, 2, 6] : List Int).length), (8, .bool false), (17, .bool false)]) hf (by rw [hb3])
          refine st tbOk 6 [1, 3, 4] (L' := [(1, .pointer (some ⟨w.heap.size, 0, none⟩)), (3, .slice (some ⟨w1.heap.size, 0, none⟩) ([0, 1, 2, 6] : List Int).length ([0, 1, 2, 6] : List Int).length), (4, .bool false)]) hf (by kernel_rfl) ?_
          clear hf; clear a; intro a hf
          refine wpList_nil ?_
          exact hK1 false _ _ ⟨_, hs.sel [0, 1] rfl rfl, hf.keep (ks := [1, 3, 4]) (by kernel_rfl)⟩ hS
      · replace hS := of_f hb2 hS
        replace hf := Fr.cast (L' := [(1, .pointer (some ⟨w.heap.size, 0, none⟩)), (3, .slice (some ⟨w1.heap.size, 0, none⟩) ([0, 1, 2, 6] : List Int).length ([0, 1, 2, 6] : List Int).length), (8, .bool false), (12, .bool false)]) hf (by rw [hb2])
        refine st tbOk 11 [1, 3, 4] (L' := [(1, .pointer (some ⟨w.heap.size, 0, none⟩)), (3, .slice (some ⟨w1.heap.size, 0, none⟩) ([0, 1, 2, 6] : List Int).length ([0, 1, 2, 6] : List Int).length), (4, .bool false)]) hf (by kernel_rfl) ?_
        clear hf; clear a; intro a hf
        refine wpList_nil ?_
        exact hK1 false _ _ ⟨_, hs.sel [0, 1] rfl rfl, hf.keep (ks := [1, 3, 4]) (by kernel_rfl)⟩ hS

set_option maxHeartbeats 4000000 in
theorem symbols_Check_ok {w : World} {F : SH} {p_l : List (Int × Int × Int × Int × Int × Int)} {ao1 : Option Addr} {cp1 : Nat} (hs : Sep w F (blks [.ro ty64 (.slice ao1 p_l.length cp1) p_l]) w F [.ro ty64 (.slice ao1 p_l.length cp1) p_l]) {r : Int} (hS : symbols_Check p_l = some r) :
    Calls Try.prog 33 [.slice ao1 p_l.length cp1].toArray w (Gives (fun u w' => ∃ (F' : SH), u = .int .i64 r ∧ Sep w F (blks [.ro ty64 (.slice ao1 p_l.length cp1) p_l]) w' F' [])) := by
  generalize (blks [.ro ty64 (.slice ao1 p_l.length cp1) p_l]) = R at hs ⊢
  unfold symbols_Check at hS
  refine fn_ok (vs := [.slice ao1 p_l.length cp1]) Try.func33 rfl 29 Try.ntmps33 (Nat.le_of_ble_eq_true rfl) ?_
  intro a hf
  replace hf := Fr.cast (L' := [(0, .slice ao1 p_l.length cp1)]) hf (by kernel_rfl)
  refine sq ?_
  refine reg ?_
  refine st tbOk 1 [0] (L' := [(0, .slice ao1 p_l.length cp1)]) hf (by kernel_rfl) ?_
  clear hf; clear a; intro a hf
  refine wpList_nil ?_
  refine sq ?_
  refine sq ?_
  refine reg ?_
  refine st tbOk 3 [5, 6, 7] (L' := [(5, .slice ao1 p_l.length cp1), (6, .int .i64 ((p_l.length : Nat) : Int)), (7, .int .i64 0)]) hf (by kernel_rfl) ?_
  clear hf; clear a; intro a hf
  refine wpList_nil ?_
  refine ctj (fun (s1 : Unit) (a : Act) (w' : World) => ∃ (F1 : SH), Sep w F R w' F1 [] ∧ Fr 29 [] a) hS ?_ ?_
  · clear hS hf hs; clear a; intro s1 a w7 hM hS
    obtain ⟨F1, hs, hf⟩ := hM
    refine sq ?_
    refine reg ?_
    refine st tbOk 1 [2] (L' := [(2, .int .i64 0)]) hf (by kernel_rfl) ?_
    clear hf; clear a; intro a hf
    refine wpList_nil ?_
    have hr := Option.some.inj hS; subst hr
    refine wp_ret ?_
    exact ret_ok hf (vs := [.int .i64 0]) (by kernel_rfl) ⟨_, rfl, hs.sel [] rfl rfl⟩
  · clear hS; intro KK1 k1 hK1 hS
    refine blk ?_
    refine lp (st := 0) (fun (s2 : Int) (a : Act) (w' : World) => ∃ (F2 : SH), Sep w F R w' F2 [.ro ty64 (.slice ao1 p_l.length cp1) p_l] ∧ Fr 29 [(5, .slice ao1 p_l.length cp1), (6, .int .i64 ((p_l.length : Nat) : Int)), (7, .int .i64 s2)] a) ?_ ⟨_, hs.sel [0] rfl rfl, hf.keep (ks := [5, 6, 7]) (by kernel_rfl)⟩ hS
    clear hS hf hs; clear a
    intro rec1 KK2 hK2 s2 a w1 hM hS
    obtain ⟨F2, hs, hf⟩ := hM
    refine sq ?_
    refine reg ?_
    refine st tbOk 1 [5, 6, 7, 8] (L' := [(5, .slice ao1 p_l.length cp1), (6, .int .i64 ((p_l.length : Nat) : Int)), (7, .int .i64 s2), (8, .bool (decide (s2 < ((p_l.length : Nat) : Int))))]) hf (by kernel_rfl) ?_
    clear hf; clear a; intro a hf
    refine wpList_nil ?_
    refine sq ?_
    refine cnd (b := decide (s2 < ((p_l.length : Nat) : Int))) hf (by kernel_rfl) (fun hb1 => ?_) (fun hb1 => ?_)
    · replace hS := of_t hb1 hS
      refine wp_skip ?_
      refine sq ?_
      refine blk ?_
      refine sq ?_
      refine reg ?_
      refine st tbOk 1 [5, 6, 7, 9] (L' := [(5, .slice ao1 p_l.length cp1), (6, .int .i64 ((p_l.length : Nat) : Int)), (7, .int .i64 s2), (9, .int .i64 s2)]) hf (by kernel_rfl) ?_
      clear hf; clear a; intro a hf
      have hT := of_gd hS; clear hS; obtain ⟨hc1, hS⟩ := hT
      refine ixR tbOk u69 i65 rfl rfl ((hs.ro 0 rfl).ra (LeH.refl _)) (k := .i64) (n := s2) hc1 hf (by kernel_rfl) (by kernel_rfl) (by kernel_rfl) (by kernel_rfl) ?_
      clear hf; clear a; intro pb1 po1 c1 a hp1 hr1 hf
      obtain rfl : c1 = [.int .u32 ((gt p_l s2).1), .int .u8 ((gt p_l s2).2.1), .int .u8 ((gt p_l s2).2.2.1), .int .u16 ((gt p_l s2).2.2.2.1), .int .u64 ((gt p_l s2).2.2.2.2.1), .int .u64 ((gt p_l s2).2.2.2.2.2)] := hr1
      replace hs : Sep w F R w1 F2 [.cel pb1 po1 [.int .u32 ((gt p_l s2).1), .int .u8 ((gt p_l s2).2.1), .int .u8 ((gt p_l s2).2.2.1), .int .u16 ((gt p_l s2).2.2.2.1), .int .u64 ((gt p_l s2).2.2.2.2.1), .int .u64 ((gt p_l s2).2.2.2.2.2)], .ro ty64 (.slice ao1 p_l.length cp1) p_l] := hs.addCel hp1
      replace hf := Fr.keep (ks := [5, 6, 7, 9, 10]) (L' := [(5, .slice ao1 p_l.length cp1), (6, .int .i64 ((p_l.length : Nat) : Int)), (7, .int .i64 s2), (9, .int .i64 s2), (10, .pointer (some ⟨pb1, po1, none⟩))]) hf (by kernel_rfl)
      refine ldC tbOk (T := 65) (hs.ccel 0 rfl) (LeH.refl _) 0 (.agg #[.int .u32 ((gt p_l s2).1), .int .u8 ((gt p_l s2).2.1), .int .u8 ((gt p_l s2).2.2.1), .int .u16 ((gt p_l s2).2.2.2.1), .int .u64 ((gt p_l s2).2.2.2.2.1), .int .u64 ((gt p_l s2).2.2.2.2.2)]) hf (by kernel_rfl) (by kernel_rfl) (by kernel_rfl) (by kernel_rfl) ?_
      clear hf; clear a; intro a hf
      replace hs : Sep w F R w1 F2 [.ro ty64 (.slice ao1 p_l.length cp1) p_l] := hs.sel [1] rfl rfl
      replace hf := Fr.keep (ks := [5, 6, 7, 9, 11]) (L' := [(5, .slice ao1 p_l.length cp1), (6, .int .i64 ((p_l.length : Nat) : Int)), (7, .int .i64 s2), (9, .int .i64 s2), (11, .agg #[.int .u32 ((gt p_l s2).1), .int .u8 ((gt p_l s2).2.1), .int .u8 ((gt p_l s2).2.2.1), .int .u16 ((gt p_l s2).2.2.2.1), .int .u64 ((gt p_l s2).2.2.2.2.1), .int .u64 ((gt p_l s2).2.2.2.2.2)])]) hf (by kernel_rfl)
      refine al tbOk i65 [.int .u32 0, .int .u8 0, .int .u8 0, .int .u16 0, .int .u64 0, .int .u64 0] rfl (by kernel_rfl) hf (by kernel_rfl) (by kernel_rfl) ?_
      clear hf; clear a; intro w2 a hb hx _ hf
      replace hs : Sep w F R w2 F2 [.box w1.heap.size 65 [.int .u32 0, .int .u8 0, .int .u8 0, .int .u16 0, .int .u64 0, .int .u64 0], .ro ty64 (.slice ao1 p_l.length cp1) p_l] := hs.newBox hb hx
      clear hb hx
      replace hf := Fr.keep (ks := [4, 5, 6, 7, 9, 11]) (L' := [(4, .pointer (some ⟨w1.heap.size, 0, none⟩)), (5, .slice ao1 p_l.length cp1), (6, .int .i64 ((p_l.length : Nat) : Int)), (7, .int .i64 s2), (9, .int .i64 s2), (11, .agg #[.int .u32 ((gt p_l s2).1), .int .u8 ((gt p_l s2).2.1), .int .u8 ((gt p_l s2).2.2.1), .int .u16 ((gt p_l s2).2.2.2.1), .int .u64 ((gt p_l s2).2.2.2.2.1), .int .u64 ((gt p_l s2).2.2.2.2.2)])]) hf (by kernel_rfl)
      refine st tbOk 1 [3, 4, 5, 6, 7, 11] (L' := [(3, .int .i64 s2), (4, .pointer (some ⟨w1.heap.size, 0, none⟩)), (5, .slice ao1 p_l.length cp1), (6, .int .i64 ((p_l.length : Nat) : Int)), (7, .int .i64 s2), (11, .agg #[.int .u32 ((gt p_l s2).1), .int .u8 ((gt p_l s2).2.1), .int .u8 ((gt p_l s2).2.2.1), .int .u16 ((gt p_l s2).2.2.2.1), .int .u64 ((gt p_l s2).2.2.2.2.1), .int .u64 ((gt p_l s2).2.2.2.2.2)])]) hf (by kernel_rfl) ?_
      clear hf; clear a; intro a hf
      refine stB tbOk i65 (hs.bx 0 rfl) 0 [.int .u32 ((gt p_l s2).1), .int .u8 ((gt p_l s2).2.1), .int .u8 ((gt p_l s2).2.2.1), .int .u16 ((gt p_l s2).2.2.2.1), .int .u64 ((gt p_l s2).2.2.2.2.1), .int .u64 ((gt p_l s2).2.2.2.2.2)] [.int .u32 ((gt p_l s2).1), .int .u8 ((gt p_l s2).2.1), .int .u8 ((gt p_l s2).2.2.1), .int .u16 ((gt p_l s2).2.2.2.1), .int .u64 ((gt p_l s2).2.2.2.2.1), .int .u64 ((gt p_l s2).2.2.2.2.2)] (v := .agg #[.int .u32 ((gt p_l s2).1), .int .u8 ((gt p_l s2).2.1), .int .u8 ((gt p_l s2).2.2.1), .int .u16 ((gt p_l s2).2.2.2.1), .int .u64 ((gt p_l s2).2.2.2.2.1), .int .u64 ((gt p_l s2).2.2.2.2.2)]) rfl rfl (by kernel_rfl) (by kernel_rfl) (by kernel_rfl) (by kernel_rfl) hf (by kernel_rfl) (by kernel_rfl) (by kernel_rfl) ?_
      clear hf; clear a; intro w3 a hb hg _ hf
      replace hs : Sep w F R w3 F2 [.box w1.heap.size 65 [.int .u32 ((gt p_l s2).1), .int .u8 ((gt p_l s2).2.1), .int .u8 ((gt p_l s2).2.2.1), .int .u16 ((gt p_l s2).2.2.2.1), .int .u64 ((gt p_l s2).2.2.2.2.1), .int .u64 ((gt p_l s2).2.2.2.2.2)], .ro ty64 (.slice ao1 p_l.length cp1) p_l] := hs.updBox 0 rfl hb hg
      clear hb hg
      replace hf := Fr.keep (ks := [3, 4, 5, 6, 7]) (L' := [(3, .int .i64 s2), (4, .pointer (some ⟨w1.heap.size, 0, none⟩)), (5, .slice ao1 p_l.length cp1), (6, .int .i64 ((p_l.length : Nat) : Int)), (7, .int .i64 s2)]) hf (by kernel_rfl)
      refine wpList_nil ?_
      refine sq ?_
      refine ctj (fun (s3 : Bool) (a : Act) (w' : World) => ∃ (F3 : SH), Sep w F R w' F3 [.ro ty64 (.slice ao1 p_l.length cp1) p_l] ∧ Fr 29 [(5, .slice ao1 p_l.length cp1), (6, .int .i64 ((p_l.length : Nat) : Int)), (7, .int .i64 s2), (27, .bool s3)] a) hS ?_ ?_
      · clear hS hf hs; clear a; intro s3 a w6 hM hS
        obtain ⟨F3, hs, hf⟩ := hM
        refine cnd (b := s3) hf (by kernel_rfl) (fun hb6 => ?_) (fun hb6 => ?_)
        · replace hS := of_t hb6 hS
          refine sq ?_
          refine reg ?_
          refine st tbOk 1 [2] (L' := [(2, .int .i64 11)]) hf (by kernel_rfl) ?_
          clear hf; clear a; intro a hf
          refine wpList_nil ?_
          have hr := Option.some.inj hS; subst hr
          refine wp_ret ?_
          exact ret_ok hf (vs := [.int .i64 11]) (by kernel_rfl) ⟨_, rfl, hs.sel [] rfl rfl⟩
        · replace hS := of_f hb6 hS
          refine wp_skip ?_
          refine reg ?_
          refine st tbOk 2 [5, 6, 7] (L' := [(5, .slice ao1 p_l.length cp1), (6, .int .i64 ((p_l.length : Nat) : Int)), (7, .int .i64 (IntKind.i64.wrap (s2 + 1)))]) hf (by kernel_rfl) ?_
          clear hf; clear a; intro a hf
          refine wpList_nil ?_
          exact hK2 (IntKind.i64.wrap (s2 + 1)) _ _ ⟨_, hs.sel [0] rfl rfl, hf.keep (ks := [5, 6, 7]) (by kernel_rfl)⟩ hS
      · clear hS; intro KK3 k2 hK3 hS
        refine reg ?_
        refine st tbOk 3 [3, 4, 5, 6, 7, 14] (L' := [(3, .int .i64 s2), (4, .pointer (some ⟨w1.heap.size, 0, none⟩)), (5, .slice ao1 p_l.length cp1), (6, .int .i64 ((p_l.length : Nat) : Int)), (7, .int .i64 s2), (14, .bool (s2 == 0))]) hf (by kernel_rfl) ?_
        clear hf; clear a; intro a hf
        rcases Bool.eq_false_or_eq_true (s2 == 0) with hb2 | hb2
        · replace hS := of_t hb2 hS
          replace hf := Fr.cast (L' := [(3, .int .i64 s2), (4, .pointer (some ⟨w1.heap.size, 0, none⟩)), (5, .slice ao1 p_l.length cp1), (6, .int .i64 ((p_l.length : Nat) : Int)), (7, .int .i64 s2), (14, .bool true)]) hf (by rw [hb2])
          refine ldC tbOk (T := 65) (hs.cbx 0 rfl) (LeH.refl _) 0 (.agg #[.int .u32 ((gt p_l s2).1), .int .u8 ((gt p_l s2).2.1), .int .u8 ((gt p_l s2).2.2.1), .int .u16 ((gt p_l s2).2.2.2.1), .int .u64 ((gt p_l s2).2.2.2.2.1), .int .u64 ((gt p_l s2).2.2.2.2.2)]) hf (by kernel_rfl) (by kernel_rfl) (by kernel_rfl) (by kernel_rfl) ?_
          clear hf; clear a; intro a hf
          replace hf := Fr.keep (ks := [3, 4, 5, 6, 7, 14, 15]) (L' := [(3, .int .i64 s2), (4, .pointer (some ⟨w1.heap.size, 0, none⟩)), (5, .slice ao1 p_l.length cp1), (6, .int .i64 ((p_l.length : Nat) : Int)), (7, .int .i64 s2), (14, .bool true), (15, .agg #[.int .u32 ((gt p_l s2).1), .int .u8 ((gt p_l s2).2.1), .int .u8 ((gt p_l s2).2.2.1), .int .u16 ((gt p_l s2).2.2.2.1), .int .u64 ((gt p_l s2).2.2.2.2.1), .int .u64 ((gt p_l s2).2.2.2.2.2)])]) hf (by kernel_rfl)
          refine st tbOk 4 [3, 4, 5, 6, 7, 19] (L' := [(3, .int .i64 s2), (4, .pointer (some ⟨w1.heap.size, 0, none⟩)), (5, .slice ao1 p_l.length cp1), (6, .int .i64 ((p_l.length : Nat) : Int)), (7, .int .i64 s2), (19, .bool (!((((gt p_l s2).1) == 0) && ((((gt p_l s2).2.1) == 0) && ((((gt p_l s2).2.2.1) == 0) && ((((gt p_l s2).2.2.2.1) == 0) && ((((gt p_l s2).2.2.2.2.1) == 0) && (((gt p_l s2).2.2.2.2.2) == 0))))))))]) hf (by kernel_rfl) ?_
          clear hf; clear a; intro a hf
          rcases Bool.eq_false_or_eq_true (!((((gt p_l s2).1) == 0) && ((((gt p_l s2).2.1) == 0) && ((((gt p_l s2).2.2.1) == 0) && ((((gt p_l s2).2.2.2.1) == 0) && ((((gt p_l s2).2.2.2.2.1) == 0) && (((gt p_l s2).2.2.2.2.2) == 0))))))) with hb3 | hb3
          · replace hS := of_t hb3 hS
            replace hf := Fr.cast (L' := [(3, .int .i64 s2), (4, .pointer (some ⟨w1.heap.size, 0, none⟩)), (5, .slice ao1 p_l.length cp1), (6, .int .i64 ((p_l.length : Nat) : Int)), (7, .int .i64 s2), (19, .bool true)]) hf (by rw [hb3])
            refine st tbOk 8 [5, 6, 7, 27] (L' := [(5, .slice ao1 p_l.length cp1), (6, .int .i64 ((p_l.length : Nat) : Int)), (7, .int .i64 s2), (27, .bool true)]) hf (by kernel_rfl) ?_
            clear hf; clear a; intro a hf
            refine wpList_nil ?_
            exact hK3 true _ _ ⟨_, hs.sel [1] rfl rfl, hf.keep (ks := [5, 6, 7, 27]) (by kernel_rfl)⟩ hS
          · replace hS := of_f hb3 hS
            replace hf := Fr.cast (L' := [(3, .int .i64 s2), (4, .pointer (some ⟨w1.heap.size, 0, none⟩)), (5, .slice ao1 p_l.length cp1), (6, .int .i64 ((p_l.length : Nat) : Int)), (7, .int .i64 s2), (19, .bool false)]) hf (by rw [hb3])
            refine st tbOk 3 [4, 5, 6, 7, 19, 22] (L' := [(4, .pointer (some ⟨w1.heap.size, 0, none⟩)), (5, .slice ao1 p_l.length cp1), (6, .int .i64 ((p_l.length : Nat) : Int)), (7, .int .i64 s2), (19, .bool false), (22, .bool (decide (s2 > 0)))]) hf (by kernel_rfl) ?_
            clear hf; clear a; intro a hf
            rcases Bool.eq_false_or_eq_true (decide (s2 > 0)) with hb4 | hb4
            · replace hS := of_t hb4 hS
              replace hf := Fr.cast (L' := [(4, .pointer (some ⟨w1.heap.size, 0, none⟩)), (5, .slice ao1 p_l.length cp1), (6, .int .i64 ((p_l.length : Nat) : Int)), (7, .int .i64 s2), (19, .bool false), (22, .bool true)]) hf (by rw [hb4])
              refine ldC tbOk (T := 65) (hs.cbx 0 rfl) (LeH.refl _) 0 (.agg #[.int .u32 ((gt p_l s2).1), .int .u8 ((gt p_l s2).2.1), .int .u8 ((gt p_l s2).2.2.1), .int .u16 ((gt p_l s2).2.2.2.1), .int .u64 ((gt p_l s2).2.2.2.2.1), .int .u64 ((gt p_l s2).2.2.2.2.2)]) hf (by kernel_rfl) (by kernel_rfl) (by kernel_rfl) (by kernel_rfl) ?_
              clear hf; clear a; intro a hf
              replace hs : Sep w F R w3 F2 [.ro ty64 (.slice ao1 p_l.length cp1) p_l] := hs.sel [1] rfl rfl
              replace hf := Fr.keep (ks := [5, 6, 7, 19, 22, 23]) (L' := [(5, .slice ao1 p_l.length cp1), (6, .int .i64 ((p_l.length : Nat) : Int)), (7, .int .i64 s2), (19, .bool false), (22, .bool true), (23, .agg #[.int .u32 ((gt p_l s2).1), .int .u8 ((gt p_l s2).2.1), .int .u8 ((gt p_l s2).2.2.1), .int .u16 ((gt p_l s2).2.2.2.1), .int .u64 ((gt p_l s2).2.2.2.2.1), .int .u64 ((gt p_l s2).2.2.2.2.2)])]) hf (by kernel_rfl)
              have hT := of_bd hS; clear hS; obtain ⟨z1, hz1, hS⟩ := hT
              refine clV ent46 (vs := [.agg #[.int .u32 ((gt p_l s2).1), .int .u8 ((gt p_l s2).2.1), .int .u8 ((gt p_l s2).2.2.1), .int .u16 ((gt p_l s2).2.2.2.1), .int .u64 ((gt p_l s2).2.2.2.2.1), .int .u64 ((gt p_l s2).2.2.2.2.2)]]) (caps := []) hf (by kernel_rfl) (by kernel_rfl) (by kernel_rfl) (by kernel_rfl) (symbols_may_ok (p_s := ((gt p_l s2).1, (gt p_l s2).2.1, (gt p_l s2).2.2.1, (gt p_l s2).2.2.2.1, (gt p_l s2).2.2.2.2.1, (gt p_l s2).2.2.2.2.2)) (hs.enter [] rfl rfl) hz1) ?_
              clear hf; clear a; intro v w4 a hT hf; obtain ⟨F4, rfl, hr⟩ := hT
              replace hs : Sep w F R w4 F4 [.ro ty64 (.slice ao1 p_l.length cp1) p_l] := hs.back [] [0] rfl rfl rfl rfl hr
              clear hr
              replace hf := Fr.keep (ks := [5, 6, 7, 19, 22, 24]) (L' := [(5, .slice ao1 p_l.length cp1), (6, .int .i64 ((p_l.length : Nat) : Int)), (7, .int .i64 s2), (19, .bool false), (22, .bool true), (24, .bool z1)]) hf (by kernel_rfl)
              refine st tbOk 3 [5, 6, 7, 27] (L' := [(5, .slice ao1 p_l.length cp1), (6, .int .i64 ((p_l.length : Nat) : Int)), (7, .int .i64 s2), (27, .bool (!z1))]) hf (by kernel_rfl) ?_
              clear hf; clear a; intro a hf
              refine wpList_nil ?_
              exact hK3 (!z1) _ _ ⟨_, hs.sel [0] rfl rfl, hf.keep (ks := [5, 6, 7, 27]) (by kernel_rfl)⟩ hS
            · replace hS := of_f hb4 hS
              replace hf := Fr.cast (L' := [(4, .pointer (some ⟨w1.heap.size, 0, none⟩)), (5, .slice ao1 p_l.length cp1), (6, .int .i64 ((p_l.length : Nat) : Int)), (7, .int .i64 s2), (19, .bool false), (22, .bool false)]) hf (by rw [hb4])
              refine st tbOk 5 [5, 6, 7, 27] (L' := [(5, .slice ao1 p_l.length cp1), (6, .int .i64 ((p_l.length : Nat) : Int)), (7, .int .i64 s2), (27, .bool false)]) hf (by kernel_rfl) ?_
              clear hf; clear a; intro a hf
              refine wpList_nil ?_
              exact hK3 false _ _ ⟨_, hs.sel [1] rfl rfl, hf.keep (ks := [5, 6, 7, 27]) (by kernel_rfl)⟩ hS
        · replace hS := of_f hb2 hS
          replace hf := Fr.cast (L' := [(3, .int .i64 s2), (4, .pointer (some ⟨w1.heap.size, 0, none⟩)), (5, .slice ao1 p_l.length cp1), (6, .int .i64 ((p_l.length : Nat) : Int)), (7, .int .i64 s2), (14, .bool false)]) hf (by rw [hb2])
          refine st tbOk 8 [4, 5, 6, 7, 19, 22] (L' := [(4, .pointer (some ⟨w1.heap.size, 0, none⟩)), (5, .slice ao1 p_l.length cp1), (6, .int .i64 ((p_l.length : Nat) : Int)), (7, .int .i64 s2), (19, .bool false), (22, .bool (decide (s2 > 0)))]) hf (by kernel_rfl) ?_
          clear hf; clear a; intro a hf
          rcases Bool.eq_false_or_eq_true (decide (s2 > 0)) with hb5 | hb5
          · replace hS := of_t hb5 hS
            replace hf := Fr.cast (L' := [(4, .pointer (some ⟨w1.heap.size, 0, none⟩)), (5, .slice ao1 p_l.length cp1), (6, .int .i64 ((p_l.length : Nat) : Int)), (7, .int .i64 s2), (19, .bool false), (22, .bool true)]) hf (by rw [hb5])
            refine ldC tbOk (T := 65) (hs.cbx 0 rfl) (LeH.refl _) 0 (.agg #[.int .u32 ((gt p_l s2).1), .int .u8 ((gt p_l s2).2.1), .int .u8 ((gt p_l s2).2.2.1), .int .u16 ((gt p_l s2).2.2.2.1), .int .u64 ((gt p_l s2).2.2.2.2.1), .int .u64 ((gt p_l s2).2.2.2.2.2)]) hf (by kernel_rfl) (by kernel_rfl) (by kernel_rfl) (by kernel_rfl) ?_
            clear hf; clear a; intro a hf
            replace hs : Sep w F R w3 F2 [.ro ty64 (.slice ao1 p_l.length cp1) p_l] := hs.sel [1] rfl rfl
            replace hf := Fr.keep (ks := [5, 6, 7, 19, 22, 23]) (L' := [(5, .slice ao1 p_l.length cp1), (6, .int .i64 ((p_l.length : Nat) : Int)), (7, .int .i64 s2), (19, .bool false), (22, .bool true), (23, .agg #[.int .u32 ((gt p_l s2).1), .int .u8 ((gt p_l s2).2.1), .int .u8 ((gt p_l s2).2.2.1), .int .u16 ((gt p_l s2).2.2.2.1), .int .u64 ((gt p_l s2).2.2.2.2.1), .int .u64 ((gt p_l s2).2.2.2.2.2)])]) hf (by kernel_rfl)
            have hT := of_bd hS; clear hS; obtain ⟨z2, hz2, hS⟩ := hT
            refine clV ent46 (vs := [.agg #[.int .u32 ((gt p_l s2).1), .int .u8 ((gt p_l s2).2.1), .int .u8 ((gt p_l s2).2.2.1), .int .u16 ((gt p_l s2).2.2.2.1), .int .u64 ((gt p_l s2).2.2.2.2.1), .int .u64 ((gt p_l s2).2.2.2.2.2)]]) (caps := []) hf (by kernel_rfl) (by kernel_rfl) (by kernel_rfl) (by kernel_rfl) (symbols_may_ok (p_s := ((gt p_l s2).1, (gt p_l s2).2.1, (gt p_l s2).2.2.1, (gt p_l s2).2.2.2.1, (gt p_l s2).2.2.2.2.1, (gt p_l s2).2.2.2.2.2)) (hs.enter [] rfl rfl) hz2) ?_
            clear hf; clear a; intro v w5 a hT hf; obtain ⟨F5, rfl, hr⟩ := hT
            replace hs : Sep w F R w5 F5 [.ro ty64 (.slice ao1 p_l.length cp1) p_l] := hs.back [] [0] rfl rfl rfl rfl hr
            clear hr
            replace hf := Fr.keep (ks := [5, 6, 7, 19, 22, 24]) (L' := [(5, .slice ao1 p_l.length cp1), (6, .int .i64 ((p_l.length : Nat) : Int)), (7, .int .i64 s2), (19, .bool false), (22, .bool true), (24, .bool z2)]) hf (by kernel_rfl)
            refine st tbOk 3 [5, 6, 7, 27] (L' := [(5, .slice ao1 p_l.length cp1), (6, .int .i64 ((p_l.length : Nat) : Int)), (7, .int .i64 s2), (27, .bool (!z2))]) hf (by kernel_rfl) ?_
            clear hf; clear a; intro a hf
            refine wpList_nil ?_
            exact hK3 (!z2) _ _ ⟨_, hs.sel [0] rfl rfl, hf.keep (ks := [5, 6, 7, 27]) (by kernel_rfl)⟩ hS
          · replace hS := of_f hb5 hS
            replace hf := Fr.cast (L' := [(4, .pointer (some ⟨w1.heap.size, 0, none⟩)), (5, .slice ao1 p_l.length cp1), (6, .int .i64 ((p_l.length : Nat) : Int)), (7, .int .i64 s2), (19, .bool false), (22, .bool false)]) hf (by rw [hb5])
            refine st tbOk 5 [5, 6, 7, 27] (L' := [(5, .slice ao1 p_l.length cp1), (6, .int .i64 ((p_l.length : Nat) : Int)), (7, .int .i64 s2), (27, .bool false)]) hf (by kernel_rfl) ?_
            clear hf; clear a; intro a hf
            refine wpList_nil ?_
            exact hK3 false _ _ ⟨_, hs.sel [1] rfl rfl, hf.keep (ks := [5, 6, 7, 27]) (by kernel_rfl)⟩ hS
    · replace hS := of_f hb1 hS
      refine wp_exit ?_
      exact hK1 () _ _ ⟨_, hs.sel [] rfl rfl, hf.keep (ks := []) (by kernel_rfl)⟩ hS

set_option maxHeartbeats 4000000 in
theorem law06_awake_ok {w : World} {F : SH}   (hs : Sep w F (blks []) w F []) {r : Bool} (hS : law06_awake = some r) :
    Calls Try.prog 25 [].toArray w (Gives (fun u w' => ∃ (F' : SH), u = .bool r ∧ Sep w F (blks []) w' F' [])) := by
  generalize (blks []) = R at hs ⊢
  unfold law06_awake at hS
  refine fn_ok (vs := []) Try.func25 rfl 65 Try.ntmps25 (Nat.le_of_ble_eq_true rfl) ?_
  intro a hf
  replace hf := Fr.cast (L' := []) hf (by kernel_rfl)
  refine sq ?_
  refine reg ?_
  refine st tbOk 1 [] (L' := []) hf (by kernel_rfl) ?_
  clear hf; clear a; intro a hf
  refine wpList_nil ?_
  refine sq ?_
  refine reg ?_
  refine st tbOk 1 [5] (L' := [(5, .agg #[.int .u32 5, .int .u8 18, .int .u8 0, .int .u16 1, .int .u64 7, .int .u64 0])]) hf (by kernel_rfl) ?_
  clear hf; clear a; intro a hf
  refine al tbOk i65 [.int .u32 0, .int .u8 0, .int .u8 0, .int .u16 0, .int .u64 0, .int .u64 0] rfl (by kernel_rfl) hf (by kernel_rfl) (by kernel_rfl) ?_
  clear hf; clear a; intro w1 a hb hx _ hf
  replace hs : Sep w F R w1 F [.box w.heap.size 65 [.int .u32 0, .int .u8 0, .int .u8 0, .int .u16 0, .int .u64 0, .int .u64 0]] := hs.newBox hb hx
  clear hb hx
  replace hf := Fr.keep (ks := [1, 5]) (L' := [(1, .pointer (some ⟨w.heap.size, 0, none⟩)), (5, .agg #[.int .u32 5, .int .u8 18, .int .u8 0, .int .u16 1, .int .u64 7, .int .u64 0])]) hf (by kernel_rfl)
  refine stB tbOk i65 (hs.bx 0 rfl) 0 [.int .u32 5, .int .u8 18, .int .u8 0, .int .u16 1, .int .u64 7, .int .u64 0] [.int .u32 5, .int .u8 18, .int .u8 0, .int .u16 1, .int .u64 7, .int .u64 0] (v := .agg #[.int .u32 5, .int .u8 18, .int .u8 0, .int .u16 1, .int .u64 7, .int .u64 0]) rfl rfl (by kernel_rfl) (by kernel_rfl) (by kernel_rfl) (by kernel_rfl) hf (by kernel_rfl) (by kernel_rfl) (by kernel_rfl) ?_
  clear hf; clear a; intro w2 a hb hg _ hf
  replace hs : Sep w F R w2 F [.box w.heap.size 65 [.int .u32 5, .int .u8 18, .int .u8 0, .int .u16 1, .int .u64 7, .int .u64 0]] := hs.updBox 0 rfl hb hg
  clear hb hg
  replace hf := Fr.keep (ks := [1]) (L' := [(1, .pointer (some ⟨w.heap.size, 0, none⟩))]) hf (by kernel_rfl)
  refine wpList_nil ?_
  refine sq ?_
  refine reg ?_
  refine ldC tbOk (T := 65) (hs.cbx 0 rfl) (LeH.refl _) 0 (.agg #[.int .u32 5, .int .u8 18, .int .u8 0, .int .u16 1, .int .u64 7, .int .u64 0]) hf (by kernel_rfl) (by kernel_rfl) (by kernel_rfl) (by kernel_rfl) ?_
  clear hf; clear a; intro a hf
  replace hf := Fr.keep (ks := [1, 6]) (L' := [(1, .pointer (some ⟨w.heap.size, 0, none⟩)), (6, .agg #[.int .u32 5, .int .u8 18, .int .u8 0, .int .u16 1, .int .u64 7, .int .u64 0])]) hf (by kernel_rfl)
  have hT := of_bd hS; clear hS; obtain ⟨z1, hz1, hS⟩ := hT
  refine clV ent26 (vs := [.agg #[.int .u32 5, .int .u8 18, .int .u8 0, .int .u16 1, .int .u64 7, .int .u64 0]]) (caps := []) hf (by kernel_rfl) (by kernel_rfl) (by kernel_rfl) (by kernel_rfl) (symbols_Put_ok (p_s := (5, 18, 0, 1, 7, 0)) (hs.enter [] rfl rfl) hz1) ?_
  clear hf; clear a; intro v w3 a hT hf; obtain ⟨ao1, cp1, F1, rfl, hr⟩ := hT
  replace hs : Sep w F R w3 F1 [.row 5 (tI .u8) (.slice ao1 z1.length cp1) z1, .box w.heap.size 65 [.int .u32 5, .int .u8 18, .int .u8 0, .int .u16 1, .int .u64 7, .int .u64 0]] := hs.back [] [0] rfl rfl rfl rfl hr
  clear hr
  replace hf := Fr.keep (ks := [1, 7]) (L' := [(1, .pointer (some ⟨w.heap.size, 0, none⟩)), (7, .slice ao1 z1.length cp1)]) hf (by kernel_rfl)
  refine st tbOk 1 [1, 2] (L' := [(1, .pointer (some ⟨w.heap.size, 0, none⟩)), (2, .slice ao1 z1.length cp1)]) hf (by kernel_rfl) ?_
  clear hf; clear a; intro a hf
  refine wpList_nil ?_
  refine sq ?_
  refine reg ?_
  refine st tbOk 1 [1, 2, 9] (L' := [(1, .pointer (some ⟨w.heap.size, 0, none⟩)), (2, .slice ao1 z1.length cp1), (9, .slice ao1 z1.length cp1)]) hf (by kernel_rfl) ?_
  clear hf; clear a; intro a hf
  have hT := of_bd hS; clear hS; obtain ⟨z2, hz2, hS⟩ := hT
  refine clV ent31 (vs := [.slice ao1 z1.length cp1]) (caps := []) hf (by kernel_rfl) (by kernel_rfl) (by kernel_rfl) (by kernel_rfl) (symbols_Table_ok (b := z1) (hs.lend [0] [] rfl rfl rfl rfl rfl) hz2) ?_
  clear hf; clear a; intro v w4 a hT hf; obtain ⟨ao2, cp2, F2, rfl, hr⟩ := hT
  replace hs : Sep w F R w4 F1 [.row 65 ty64 (.slice ao2 z2.1.length cp2) z2.1, .row 5 (tI .u8) (.slice ao1 z1.length cp1) z1, .box w.heap.size 65 [.int .u32 5, .int .u8 18, .int .u8 0, .int .u16 1, .int .u64 7, .int .u64 0]] := hs.backL [0] [] [0, 1] rfl rfl rfl rfl rfl rfl hr ⟨flat64, trivial⟩
  clear hr
  replace hf := Fr.keep (ks := [1, 2, 10]) (L' := [(1, .pointer (some ⟨w.heap.size, 0, none⟩)), (2, .slice ao1 z1.length cp1), (10, .tuple #[.slice ao2 z2.1.length cp2, .int .i64 z2.2])]) hf (by kernel_rfl)
  refine st tbOk 5 [1, 2, 3, 4] (L' := [(1, .pointer (some ⟨w.heap.size, 0, none⟩)), (2, .slice ao1 z1.length cp1), (3, .slice ao2 z2.1.length cp2), (4, .int .i64 z2.2)]) hf (by kernel_rfl) ?_
  clear hf; clear a; intro a hf
  refine wpList_nil ?_
  refine sq ?_
  refine ctj (fun (s1 : Bool) (a : Act) (w' : World) => ∃ (F3 : SH), Sep w F R w' F3 [] ∧ Fr 65 [(0, .bool s1)] a) hS ?_ ?_
  · clear hS hf hs; clear a; intro s1 a w13 hM hS
    obtain ⟨F3, hs, hf⟩ := hM
    have hr := Option.some.inj hS; subst hr
    refine wp_ret ?_
    exact ret_ok hf (vs := [.bool s1]) (by kernel_rfl) ⟨_, rfl, hs.sel [] rfl rfl⟩
  · clear hS; intro KK1 k1 hK1 hS
    obtain ⟨F4, _, hs⟩ := hs.frz 1 rfl
    replace hs : Sep w F R w4 F4 [.row 65 ty64 (.slice ao2 z2.1.length cp2) z2.1, .ro (tI .u8) (.slice ao1 z1.length cp1) z1, .box w.heap.size 65 [.int .u32 5, .int .u8 18, .int .u8 0, .int .u16 1, .int .u64 7, .int .u64 0]] := hs
    obtain ⟨F5, _, hs⟩ := hs.frz 0 rfl
    replace hs : Sep w F R w4 F5 [.ro ty64 (.slice ao2 z2.1.length cp2) z2.1, .ro (tI .u8) (.slice ao1 z1.length cp1) z1, .box w.heap.size 65 [.int .u32 5, .int .u8 18, .int .u8 0, .int .u16 1, .int .u64 7, .int .u64 0]] := hs
    rcases Bool.eq_false_or_eq_true (((z1.length : Nat) : Int) == 24) with hb1 | hb1
    · replace hS := of_t hb1 hS
      have hT := of_gd hS; clear hS; obtain ⟨hc1, hS⟩ := hT
      rcases Bool.eq_false_or_eq_true ((gt z1 0) == 5) with hb2 | hb2
      · replace hS := of_t hb2 hS
        rcases Bool.eq_false_or_eq_true (z2.2 == 0) with hb3 | hb3
        · replace hS := of_t hb3 hS
          rcases Bool.eq_false_or_eq_true (((z2.1.length : Nat) : Int) == 1) with hb4 | hb4
          · replace hS := of_t hb4 hS
            have hT := of_gd hS; clear hS; obtain ⟨hc2, hS⟩ := hT
            rcases Bool.eq_false_or_eq_true ((((gt z2.1 0).1) == 5) && ((((gt z2.1 0).2.1) == 18) && ((((gt z2.1 0).2.2.1) == 0) && ((((gt z2.1 0).2.2.2.1) == 1) && ((((gt z2.1 0).2.2.2.2.1) == 7) && (((gt z2.1 0).2.2.2.2.2) == 0)))))) with hb5 | hb5
            · replace hS := of_t hb5 hS
              have hT := of_bd hS; clear hS; obtain ⟨z3, hz3, hS⟩ := hT
              rcases Bool.eq_false_or_eq_true (z3 == 1) with hb6 | hb6
              · replace hS := of_t hb6 hS
                have hT := of_bd hS; clear hS; obtain ⟨z4, hz4, hS⟩ := hT
                rcases Bool.eq_false_or_eq_true (z4 == 2) with hb7 | hb7
                · replace hS := of_t hb7 hS
                  have hT := of_bd hS; clear hS; obtain ⟨z5, hz5, hS⟩ := hT
                  rcases Bool.eq_false_or_eq_true (z5) with hb8 | hb8
                  · replace hS := of_t hb8 hS
                    have hT := of_bd hS; clear hS; obtain ⟨z6, hz6, hS⟩ := hT
                    rcases Bool.eq_false_or_eq_true (z6 == 11) with hb9 | hb9
                    · replace hS := of_t hb9 hS
                      have hT := of_bd hS; clear hS; obtain ⟨z7, hz7, hS⟩ := hT
                      have hs0 := hs
                      refine regF 53 [fun u uw => u = .slice ao1 z1.length cp1,
    fun u uw => u = .int .i64 ((z1.length : Nat) : Int),
    fun u uw => u = .bool (((z1.length : Nat) : Int) == 24),
    fun u uw => u = .bool (((z1.length : Nat) : Int) == 24),
    fun u uw => u = .slice ao1 z1.length cp1,
    fun u uw => ∃ (pb2 : Nat) (po2 : Nat) (F' : SH), u = .pointer (some ⟨pb2, po2, none⟩) ∧ Sep w4 F5 noR uw F' [.cel pb2 po2 [.int .u8 (gt z1 0)]],
    fun u uw => u = .int .u8 (gt z1 0),
    fun u uw => u = .bool ((gt z1 0) == 5),
    fun u uw => u = .bool ((gt z1 0) == 5),
    fun u uw => u = .bool ((gt z1 0) == 5),
    fun u uw => u = .int .i64 z2.2,
    fun u uw => u = .bool (z2.2 == 0),
    fun u uw => u = .bool (z2.2 == 0),
    fun u uw => u = .bool (z2.2 == 0),
    fun u uw => u = .slice ao2 z2.1.length cp2,
    fun u uw => u = .int .i64 ((z2.1.length : Nat) : Int),
    fun u uw => u = .bool (((z2.1.length : Nat) : Int) == 1),
    fun u uw => u = .bool (((z2.1.length : Nat) : Int) == 1),
    fun u uw => u = .bool (((z2.1.length : Nat) : Int) == 1),
    fun u uw => u = .slice ao2 z2.1.length cp2,
    fun u uw => ∃ (pb4 : Nat) (po4 : Nat) (F' : SH), u = .pointer (some ⟨pb4, po4, none⟩) ∧ Sep w4 F5 noR uw F' [.cel pb4 po4 [.int .u32 ((gt z2.1 0).1), .int .u8 ((gt z2.1 0).2.1), .int .u8 ((gt z2.1 0).2.2.1), .int .u16 ((gt z2.1 0).2.2.2.1), .int .u64 ((gt z2.1 0).2.2.2.2.1), .int .u64 ((gt z2.1 0).2.2.2.2.2)]],
    fun u uw => u = .agg #[.int .u32 ((gt z2.1 0).1), .int .u8 ((gt z2.1 0).2.1), .int .u8 ((gt z2.1 0).2.2.1), .int .u16 ((gt z2.1 0).2.2.2.1), .int .u64 ((gt z2.1 0).2.2.2.2.1), .int .u64 ((gt z2.1 0).2.2.2.2.2)],
    fun u uw => u = .agg #[.int .u32 5, .int .u8 18, .int .u8 0, .int .u16 1, .int .u64 7, .int .u64 0],
    fun u uw => u = .bool ((((gt z2.1 0).1) == 5) && ((((gt z2.1 0).2.1) == 18) && ((((gt z2.1 0).2.2.1) == 0) && ((((gt z2.1 0).2.2.2.1) == 1) && ((((gt z2.1 0).2.2.2.2.1) == 7) && (((gt z2.1 0).2.2.2.2.2) == 0)))))),
    fun u uw => u = .bool ((((gt z2.1 0).1) == 5) && ((((gt z2.1 0).2.1) == 18) && ((((gt z2.1 0).2.2.1) == 0) && ((((gt z2.1 0).2.2.2.1) == 1) && ((((gt z2.1 0).2.2.2.2.1) == 7) && (((gt z2.1 0).2.2.2.2.2) == 0)))))),
    fun u uw => u = .bool ((((gt z2.1 0).1) == 5) && ((((gt z2.1 0).2.1) == 18) && ((((gt z2.1 0).2.2.1) == 0) && ((((gt z2.1 0).2.2.2.1) == 1) && ((((gt z2.1 0).2.2.2.2.1) == 7) && (((gt z2.1 0).2.2.2.2.2) == 0)))))),
    fun u uw => u = .agg #[.int .u32 5, .int .u8 18, .int .u8 0, .int .u16 1, .int .u64 7, .int .u64 0],
    fun u uw => u = .int .i64 z3,
    fun u uw => u = .bool (z3 == 1),
    fun u uw => u = .bool (z3 == 1),
    fun u uw => u = .bool (z3 == 1),
    fun u uw => u = .agg #[.int .u32 5, .int .u8 18, .int .u8 0, .int .u16 1, .int .u64 7, .int .u64 0],
    fun u uw => u = .int .i64 z4,
    fun u uw => u = .bool (z4 == 2),
    fun u uw => u = .bool (z4 == 2),
    fun u uw => u = .bool (z4 == 2),
    fun u uw => u = .agg #[.int .u32 5, .int .u8 18, .int .u8 0, .int .u16 1, .int .u64 7, .int .u64 0],
    fun u uw => u = .bool z5,
    fun u uw => u = .bool z5,
    fun u uw => u = .bool z5,
    fun u uw => u = .agg #[.int .u32 5, .int .u8 18, .int .u8 0, .int .u16 1, .int .u64 7, .int .u64 0],
    fun u uw => ∃ (ao3 : Option Addr) (cp3 : Nat) (F' : SH), u = .slice ao3 ([(5, 18, 0, 1, 7, 0)] : List (Int × Int × Int × Int × Int × Int)).length cp3 ∧ Sep w4 F5 noR uw F' [.row 65 ty64 (.slice ao3 ([(5, 18, 0, 1, 7, 0)] : List (Int × Int × Int × Int × Int × Int)).length cp3) ([(5, 18, 0, 1, 7, 0)] : List (Int × Int × Int × Int × Int × Int))],
    fun u uw => u = .int .i64 z6,
    fun u uw => u = .bool (z6 == 11),
    fun u uw => u = .bool (z6 == 11),
    fun u uw => u = .bool (z6 == 11),
    fun u uw => u = .agg #[.int .u32 0, .int .u8 0, .int .u8 0, .int .u16 0, .int .u64 0, .int .u64 0],
    fun u uw => u = .agg #[.int .u32 5, .int .u8 18, .int .u8 0, .int .u16 1, .int .u64 7, .int .u64 0],
    fun u uw => ∃ (ao4 : Option Addr) (cp4 : Nat) (F' : SH), u = .slice ao4 ([(0, 0, 0, 0, 0, 0), (5, 18, 0, 1, 7, 0)] : List (Int × Int × Int × Int × Int × Int)).length cp4 ∧ Sep w4 F5 noR uw F' [.row 65 ty64 (.slice ao4 ([(0, 0, 0, 0, 0, 0), (5, 18, 0, 1, 7, 0)] : List (Int × Int × Int × Int × Int × Int)).length cp4) ([(0, 0, 0, 0, 0, 0), (5, 18, 0, 1, 7, 0)] : List (Int × Int × Int × Int × Int × Int))],
    fun u uw => u = .int .i64 z7,
    fun u uw => u = .bool (z7 == 0),
    fun u uw => u = .bool (z7 == 0),
    fun u uw => u = .bool (z7 == 0)] mixed (Fr.keep (ks := [1, 2, 3, 4]) (L' := [(1, .pointer (some ⟨w.heap.size, 0, none⟩)), (2, .slice ao1 z1.length cp1), (3, .slice ao2 z2.1.length cp2), (4, .int .i64 z2.2)]) hf (by kernel_rfl)) (by kernel_rfl) rfl ?_ ?_ ?_
                      · exact ⟨fun _ _ _ h _ => h, fun _ _ _ h _ => h, fun _ _ _ h _ => h, fun _ _ _ h _ => h, fun _ _ _ h _ => h, fun _ _ _ ⟨pb2, po2, F', e, h⟩ hx => ⟨pb2, po2, F', e, h.ext hx⟩, fun _ _ _ h _ => h, fun _ _ _ h _ => h, fun _ _ _ h _ => h, fun _ _ _ h _ => h, fun _ _ _ h _ => h, fun _ _ _ h _ => h, fun _ _ _ h _ => h, fun _ _ _ h _ => h, fun _ _ _ h _ => h, fun _ _ _ h _ => h, fun _ _ _ h _ => h, fun _ _ _ h _ => h, fun _ _ _ h _ => h, fun _ _ _ h _ => h, fun _ _ _ ⟨pb4, po4, F', e, h⟩ hx => ⟨pb4, po4, F', e, h.ext hx⟩, fun _ _ _ h _ => h, fun _ _ _ h _ => h, fun _ _ _ h _ => h, fun _ _ _ h _ => h, fun _ _ _ h _ => h, fun _ _ _ h _ => h, fun _ _ _ h _ => h, fun _ _ _ h _ => h, fun _ _ _ h _ => h, fun _ _ _ h _ => h, fun _ _ _ h _ => h, fun _ _ _ h _ => h, fun _ _ _ h _ => h, fun _ _ _ h _ => h, fun _ _ _ h _ => h, fun _ _ _ h _ => h, fun _ _ _ h _ => h, fun _ _ _ h _ => h, fun _ _ _ h _ => h, fun _ _ _ h _ => h, fun _ _ _ ⟨ao3, cp3, F', e, h⟩ hx => ⟨ao3, cp3, F', e, h.ext hx⟩, fun _ _ _ h _ => h, fun _ _ _ h _ => h, fun _ _ _ h _ => h, fun _ _ _ h _ => h, fun _ _ _ h _ => h, fun _ _ _ h _ => h, fun _ _ _ ⟨ao4, cp4, F', e, h⟩ hx => ⟨ao4, cp4, F', e, h.ext hx⟩, fun _ _ _ h _ => h, fun _ _ _ h _ => h, fun _ _ _ h _ => h, fun _ _ _ h _ => h, trivial⟩
                      · clear hS hf hs; clear a
                        refine ⟨?_, ?_, ?_, ?_, ?_, ?_, ?_, ?_, ?_, ?_, ?_, ?_, ?_, ?_, ?_, ?_, ?_, ?_, ?_, ?_, ?_, ?_, ?_, ?_, ?_, ?_, ?_, ?_, ?_, ?_, ?_, ?_, ?_, ?_, ?_, ?_, ?_, ?_, ?_, ?_, ?_, ?_, ?_, ?_, ?_, ?_, ?_, ?_, ?_, ?_, ?_, ?_, ?_, trivial⟩
                        · intro a wf hX hf hd
                          clear hd
                          have hs : Sep wf (star F5 w4 wf) noR wf (star F5 w4 wf) [.ro ty64 (.slice ao2 z2.1.length cp2) z2.1, .ro (tI .u8) (.slice ao1 z1.length cp1) z1] := hs0.fstart hX [0, 1] rfl rfl
                          refine st tbOk 1 [13] (L' := [(13, .slice ao1 z1.length cp1)]) hf (by kernel_rfl) ?_
                          clear hf; clear a; intro a hf
                          exact fq_ok (d := 13) rfl hf (hs.ex fun _ h => h) hf.1
                        · intro a wf hX hf hd
                          have e_13 : a.tmps.getD 13 undef = .slice ao1 z1.length cp1 := hd 0 13 (by kernel_rfl) (by kernel_rfl)
                          replace hf : Fr 65 [(13, .slice ao1 z1.length cp1), (1, .pointer (some ⟨w.heap.size, 0, none⟩)), (2, .slice ao1 z1.length cp1), (3, .slice ao2 z2.1.length cp2), (4, .int .i64 z2.2)] a := ⟨e_13, hf⟩; clear e_13
                          clear hd
                          have hs : Sep wf (star F5 w4 wf) noR wf (star F5 w4 wf) [.ro ty64 (.slice ao2 z2.1.length cp2) z2.1, .ro (tI .u8) (.slice ao1 z1.length cp1) z1] := hs0.fstart hX [0, 1] rfl rfl
                          refine st tbOk 1 [14] (L' := [(14, .int .i64 ((z1.length : Nat) : Int))]) hf (by kernel_rfl) ?_
                          clear hf; clear a; intro a hf
                          exact fq_ok (d := 14) rfl hf (hs.ex fun _ h => h) hf.1
                        · intro a wf hX hf hd
                          have e_14 : a.tmps.getD 14 undef = .int .i64 ((z1.length : Nat) : Int) := hd 1 14 (by kernel_rfl) (by kernel_rfl)
                          replace hf : Fr 65 [(14, .int .i64 ((z1.length : Nat) : Int)), (1, .pointer (some ⟨w.heap.size, 0, none⟩)), (2, .slice ao1 z1.length cp1), (3, .slice ao2 z2.1.length cp2), (4, .int .i64 z2.2)] a := ⟨e_14, hf⟩; clear e_14
                          clear hd
                          have hs : Sep wf (star F5 w4 wf) noR wf (star F5 w4 wf) [.ro ty64 (.slice ao2 z2.1.length cp2) z2.1, .ro (tI .u8) (.slice ao1 z1.length cp1) z1] := hs0.fstart hX [0, 1] rfl rfl
                          refine st tbOk 1 [15] (L' := [(15, .bool (((z1.length : Nat) : Int) == 24))]) hf (by kernel_rfl) ?_
                          clear hf; clear a; intro a hf
                          exact fq_ok (d := 15) rfl hf (hs.ex fun _ h => h) hf.1
                        · intro a wf hX hf hd
                          have e_15 : a.tmps.getD 15 undef = .bool (((z1.length : Nat) : Int) == 24) := hd 2 15 (by kernel_rfl) (by kernel_rfl)
                          replace hf : Fr 65 [(15, .bool (((z1.length : Nat) : Int) == 24)), (1, .pointer (some ⟨w.heap.size, 0, none⟩)), (2, .slice ao1 z1.length cp1), (3, .slice ao2 z2.1.length cp2), (4, .int .i64 z2.2)] a := ⟨e_15, hf⟩; clear e_15
                          clear hd
                          have hs : Sep wf (star F5 w4 wf) noR wf (star F5 w4 wf) [.ro ty64 (.slice ao2 z2.1.length cp2) z2.1, .ro (tI .u8) (.slice ao1 z1.length cp1) z1] := hs0.fstart hX [0, 1] rfl rfl
                          refine st tbOk 1 [16] (L' := [(16, .bool (((z1.length : Nat) : Int) == 24))]) hf (by kernel_rfl) ?_
                          clear hf; clear a; intro a hf
                          exact fq_ok (d := 16) rfl hf (hs.ex fun _ h => h) hf.1
                        · intro a wf hX hf hd
                          have e_16 : a.tmps.getD 16 undef = .bool (((z1.length : Nat) : Int) == 24) := hd 3 16 (by kernel_rfl) (by kernel_rfl)
                          rw [hb1] at e_16
                          replace hf : Fr 65 [(16, .bool true), (1, .pointer (some ⟨w.heap.size, 0, none⟩)), (2, .slice ao1 z1.length cp1), (3, .slice ao2 z2.1.length cp2), (4, .int .i64 z2.2)] a := ⟨e_16, hf⟩; clear e_16
                          clear hd
                          have hs : Sep wf (star F5 w4 wf) noR wf (star F5 w4 wf) [.ro ty64 (.slice ao2 z2.1.length cp2) z2.1, .ro (tI .u8) (.slice ao1 z1.length cp1) z1] := hs0.fstart hX [0, 1] rfl rfl
                          refine st tbOk 1 [17] (L' := [(17, .slice ao1 z1.length cp1)]) hf (by kernel_rfl) ?_
                          clear hf; clear a; intro a hf
                          exact fq_ok (d := 17) rfl hf (hs.ex fun _ h => h) hf.1
                        · intro a wf hX hf hd
                          have e_17 : a.tmps.getD 17 undef = .slice ao1 z1.length cp1 := hd 4 17 (by kernel_rfl) (by kernel_rfl)
                          have e_16 : a.tmps.getD 16 undef = .bool (((z1.length : Nat) : Int) == 24) := hd 3 16 (by kernel_rfl) (by kernel_rfl)
                          rw [hb1] at e_16
                          replace hf : Fr 65 [(17, .slice ao1 z1.length cp1), (16, .bool true), (1, .pointer (some ⟨w.heap.size, 0, none⟩)), (2, .slice ao1 z1.length cp1), (3, .slice ao2 z2.1.length cp2), (4, .int .i64 z2.2)] a := ⟨e_17, e_16, hf⟩; clear e_17 e_16
                          clear hd
                          have hs : Sep wf (star F5 w4 wf) noR wf (star F5 w4 wf) [.ro ty64 (.slice ao2 z2.1.length cp2) z2.1, .ro (tI .u8) (.slice ao1 z1.length cp1) z1] := hs0.fstart hX [0, 1] rfl rfl
                          refine ixR tbOk u22 i5 rfl rfl ((hs.ro 1 rfl).ra (LeH.refl _)) (k := .i64) (n := 0) hc1 hf (by kernel_rfl) (by kernel_rfl) (by kernel_rfl) (by kernel_rfl) ?_
                          clear hf; clear a; intro pb1 po1 c1 a hp1 hr1 hf
                          obtain rfl : c1 = [.int .u8 (gt z1 0)] := hr1
                          replace hs : Sep wf (star F5 w4 wf) noR wf (star F5 w4 wf) [.cel pb1 po1 [.int .u8 (gt z1 0)], .ro ty64 (.slice ao2 z2.1.length cp2) z2.1, .ro (tI .u8) (.slice ao1 z1.length cp1) z1] := hs.addCel hp1
                          exact fq_ok (d := 18) rfl hf (hs.ex fun _ h => h) ⟨pb1, po1, _, hf.1, (hs.sel [0] rfl rfl).rebase hX⟩
                        · intro a wf hX hf hd
                          obtain ⟨pb2, po2, F_18, e_18, h_18⟩ : ∃ (pb2 : Nat) (po2 : Nat) (F' : SH), a.tmps.getD 18 undef = .pointer (some ⟨pb2, po2, none⟩) ∧ Sep w4 F5 noR wf F' [.cel pb2 po2 [.int .u8 (gt z1 0)]] := hd 5 18 (by kernel_rfl) (by kernel_rfl)
                          have e_16 : a.tmps.getD 16 undef = .bool (((z1.length : Nat) : Int) == 24) := hd 3 16 (by kernel_rfl) (by kernel_rfl)
                          rw [hb1] at e_16
                          replace hf : Fr 65 [(18, .pointer (some ⟨pb2, po2, none⟩)), (16, .bool true), (1, .pointer (some ⟨w.heap.size, 0, none⟩)), (2, .slice ao1 z1.length cp1), (3, .slice ao2 z2.1.length cp2), (4, .int .i64 z2.2)] a := ⟨e_18, e_16, hf⟩; clear e_18 e_16
                          clear hd
                          have hs : Sep wf (star F5 w4 wf) noR wf (star F5 w4 wf) [.ro ty64 (.slice ao2 z2.1.length cp2) z2.1, .ro (tI .u8) (.slice ao1 z1.length cp1) z1] := hs0.fstart hX [0, 1] rfl rfl
                          replace hs : Sep wf (star F5 w4 wf) noR wf (star F5 w4 wf) [.cel pb2 po2 [.int .u8 (gt z1 0)], .ro ty64 (.slice ao2 z2.1.length cp2) z2.1, .ro (tI .u8) (.slice ao1 z1.length cp1) z1] := hs.addStar h_18 0 rfl rfl
                          clear h_18
                          refine ldC tbOk (T := 5) (hs.ccel 0 rfl) (LeH.refl _) 0 (.int .u8 (gt z1 0)) hf (by kernel_rfl) (by kernel_rfl) (by kernel_rfl) (by kernel_rfl) ?_
                          clear hf; clear a; intro a hf
                          exact fq_ok (d := 19) rfl hf (hs.ex fun _ h => h) hf.1
                        · intro a wf hX hf hd
                          have e_19 : a.tmps.getD 19 undef = .int .u8 (gt z1 0) := hd 6 19 (by kernel_rfl) (by kernel_rfl)
                          have e_16 : a.tmps.getD 16 undef = .bool (((z1.length : Nat) : Int) == 24) := hd 3 16 (by kernel_rfl) (by kernel_rfl)
                          rw [hb1] at e_16
                          replace hf : Fr 65 [(19, .int .u8 (gt z1 0)), (16, .bool true), (1, .pointer (some ⟨w.heap.size, 0, none⟩)), (2, .slice ao1 z1.length cp1), (3, .slice ao2 z2.1.length cp2), (4, .int .i64 z2.2)] a := ⟨e_19, e_16, hf⟩; clear e_19 e_16
                          clear hd
                          have hs : Sep wf (star F5 w4 wf) noR wf (star F5 w4 wf) [.ro ty64 (.slice ao2 z2.1.length cp2) z2.1, .ro (tI .u8) (.slice ao1 z1.length cp1) z1] := hs0.fstart hX [0, 1] rfl rfl
                          refine st tbOk 1 [20] (L' := [(20, .bool ((gt z1 0) == 5))]) hf (by kernel_rfl) ?_
                          clear hf; clear a; intro a hf
                          exact fq_ok (d := 20) rfl hf (hs.ex fun _ h => h) hf.1
                        · intro a wf hX hf hd
                          have e_16 : a.tmps.getD 16 undef = .bool (((z1.length : Nat) : Int) == 24) := hd 3 16 (by kernel_rfl) (by kernel_rfl)
                          rw [hb1] at e_16
                          have e_20 : a.tmps.getD 20 undef = .bool ((gt z1 0) == 5) := hd 7 20 (by kernel_rfl) (by kernel_rfl)
                          replace hf : Fr 65 [(16, .bool true), (20, .bool ((gt z1 0) == 5)), (1, .pointer (some ⟨w.heap.size, 0, none⟩)), (2, .slice ao1 z1.length cp1), (3, .slice ao2 z2.1.length cp2), (4, .int .i64 z2.2)] a := ⟨e_16, e_20, hf⟩; clear e_16 e_20
                          clear hd
                          have hs : Sep wf (star F5 w4 wf) noR wf (star F5 w4 wf) [.ro ty64 (.slice ao2 z2.1.length cp2) z2.1, .ro (tI .u8) (.slice ao1 z1.length cp1) z1] := hs0.fstart hX [0, 1] rfl rfl
                          refine st tbOk 1 [21] (L' := [(21, .bool ((gt z1 0) == 5))]) hf (by kernel_rfl) ?_
                          clear hf; clear a; intro a hf
                          exact fq_ok (d := 21) rfl hf (hs.ex fun _ h => h) hf.1
                        · intro a wf hX hf hd
                          have e_21 : a.tmps.getD 21 undef = .bool ((gt z1 0) == 5) := hd 8 21 (by kernel_rfl) (by kernel_rfl)
                          replace hf : Fr 65 [(21, .bool ((gt z1 0) == 5)), (1, .pointer (some ⟨w.heap.size, 0, none⟩)), (2, .slice ao1 z1.length cp1), (3, .slice ao2 z2.1.length cp2), (4, .int .i64 z2.2)] a := ⟨e_21, hf⟩; clear e_21
                          clear hd
                          have hs : Sep wf (star F5 w4 wf) noR wf (star F5 w4 wf) [.ro ty64 (.slice ao2 z2.1.length cp2) z2.1, .ro (tI .u8) (.slice ao1 z1.length cp1) z1] := hs0.fstart hX [0, 1] rfl rfl
                          refine st tbOk 1 [22] (L' := [(22, .bool ((gt z1 0) == 5))]) hf (by kernel_rfl) ?_
                          clear hf; clear a; intro a hf
                          exact fq_ok (d := 22) rfl hf (hs.ex fun _ h => h) hf.1
                        · intro a wf hX hf hd
                          have e_22 : a.tmps.getD 22 undef = .bool ((gt z1 0) == 5) := hd 9 22 (by kernel_rfl) (by kernel_rfl)
                          rw [hb2] at e_22
                          replace hf : Fr 65 [(22, .bool true), (1, .pointer (some ⟨w.heap.size, 0, none⟩)), (2, .slice ao1 z1.length cp1), (3, .slice ao2 z2.1.length cp2), (4, .int .i64 z2.2)] a := ⟨e_22, hf⟩; clear e_22
                          clear hd
                          have hs : Sep wf (star F5 w4 wf) noR wf (star F5 w4 wf) [.ro ty64 (.slice ao2 z2.1.length cp2) z2.1, .ro (tI .u8) (.slice ao1 z1.length cp1) z1] := hs0.fstart hX [0, 1] rfl rfl
                          refine st tbOk 1 [23] (L' := [(23, .int .i64 z2.2)]) hf (by kernel_rfl) ?_
                          clear hf; clear a; intro a hf
                          exact fq_ok (d := 23) rfl hf (hs.ex fun _ h => h) hf.1
                        · intro a wf hX hf hd
                          have e_23 : a.tmps.getD 23 undef = .int .i64 z2.2 := hd 10 23 (by kernel_rfl) (by kernel_rfl)
                          have e_22 : a.tmps.getD 22 undef = .bool ((gt z1 0) == 5) := hd 9 22 (by kernel_rfl) (by kernel_rfl)
                          rw [hb2] at e_22
                          replace hf : Fr 65 [(23, .int .i64 z2.2), (22, .bool true), (1, .pointer (some ⟨w.heap.size, 0, none⟩)), (2, .slice ao1 z1.length cp1), (3, .slice ao2 z2.1.length cp2), (4, .int .i64 z2.2)] a := ⟨e_23, e_22, hf⟩; clear e_23 e_22
                          clear hd
                          have hs : Sep wf (star F5 w4 wf) noR wf (star F5 w4 wf) [.ro ty64 (.slice ao2 z2.1.length cp2) z2.1, .ro (tI .u8) (.slice ao1 z1.length cp1) z1] := hs0.fstart hX [0, 1] rfl rfl
                          refine st tbOk 1 [24] (L' := [(24, .bool (z2.2 == 0))]) hf (by kernel_rfl) ?_
                          clear hf; clear a; intro a hf
                          exact fq_ok (d := 24) rfl hf (hs.ex fun _ h => h) hf.1
                        · intro a wf hX hf hd
                          have e_22 : a.tmps.getD 22 undef = .bool ((gt z1 0) == 5) := hd 9 22 (by kernel_rfl) (by kernel_rfl)
                          rw [hb2] at e_22
                          have e_24 : a.tmps.getD 24 undef = .bool (z2.2 == 0) := hd 11 24 (by kernel_rfl) (by kernel_rfl)
                          replace hf : Fr 65 [(22, .bool true), (24, .bool (z2.2 == 0)), (1, .pointer (some ⟨w.heap.size, 0, none⟩)), (2, .slice ao1 z1.length cp1), (3, .slice ao2 z2.1.length cp2), (4, .int .i64 z2.2)] a := ⟨e_22, e_24, hf⟩; clear e_22 e_24
                          clear hd
                          have hs : Sep wf (star F5 w4 wf) noR wf (star F5 w4 wf) [.ro ty64 (.slice ao2 z2.1.length cp2) z2.1, .ro (tI .u8) (.slice ao1 z1.length cp1) z1] := hs0.fstart hX [0, 1] rfl rfl
                          refine st tbOk 1 [25] (L' := [(25, .bool (z2.2 == 0))]) hf (by kernel_rfl) ?_
                          clear hf; clear a; intro a hf
                          exact fq_ok (d := 25) rfl hf (hs.ex fun _ h => h) hf.1
                        · intro a wf hX hf hd
                          have e_25 : a.tmps.getD 25 undef = .bool (z2.2 == 0) := hd 12 25 (by kernel_rfl) (by kernel_rfl)
                          replace hf : Fr 65 [(25, .bool (z2.2 == 0)), (1, .pointer (some ⟨w.heap.size, 0, none⟩)), (2, .slice ao1 z1.length cp1), (3, .slice ao2 z2.1.length cp2), (4, .int .i64 z2.2)] a := ⟨e_25, hf⟩; clear e_25
                          clear hd
                          have hs : Sep wf (star F5 w4 wf) noR wf (star F5 w4 wf) [.ro ty64 (.slice ao2 z2.1.length cp2) z2.1, .ro (tI .u8) (.slice ao1 z1.length cp1) z1] := hs0.fstart hX [0, 1] rfl rfl
                          refine st tbOk 1 [26] (L' := [(26, .bool (z2.2 == 0))]) hf (by kernel_rfl) ?_
                          clear hf; clear a; intro a hf
                          exact fq_ok (d := 26) rfl hf (hs.ex fun _ h => h) hf.1
                        · intro a wf hX hf hd
                          have e_26 : a.tmps.getD 26 undef = .bool (z2.2 == 0) := hd 13 26 (by kernel_rfl) (by kernel_rfl)
                          rw [hb3] at e_26
                          replace hf : Fr 65 [(26, .bool true), (1, .pointer (some ⟨w.heap.size, 0, none⟩)), (2, .slice ao1 z1.length cp1), (3, .slice ao2 z2.1.length cp2), (4, .int .i64 z2.2)] a := ⟨e_26, hf⟩; clear e_26
                          clear hd
                          have hs : Sep wf (star F5 w4 wf) noR wf (star F5 w4 wf) [.ro ty64 (.slice ao2 z2.1.length cp2) z2.1, .ro (tI .u8) (.slice ao1 z1.length cp1) z1] := hs0.fstart hX [0, 1] rfl rfl
                          refine st tbOk 1 [27] (L' := [(27, .slice ao2 z2.1.length cp2)]) hf (by kernel_rfl) ?_
                          clear hf; clear a; intro a hf
                          exact fq_ok (d := 27) rfl hf (hs.ex fun _ h => h) hf.1
                        · intro a wf hX hf hd
                          have e_27 : a.tmps.getD 27 undef = .slice ao2 z2.1.length cp2 := hd 14 27 (by kernel_rfl) (by kernel_rfl)
                          have e_26 : a.tmps.getD 26 undef = .bool (z2.2 == 0) := hd 13 26 (by kernel_rfl) (by kernel_rfl)
                          rw [hb3] at e_26
                          replace hf : Fr 65 [(27, .slice ao2 z2.1.length cp2), (26, .bool true), (1, .pointer (some ⟨w.heap.size, 0, none⟩)), (2, .slice ao1 z1.length cp1), (3, .slice ao2 z2.1.length cp2), (4, .int .i64 z2.2)] a := ⟨e_27, e_26, hf⟩; clear e_27 e_26
                          clear hd
                          have hs : Sep wf (star F5 w4 wf) noR wf (star F5 w4 wf) [.ro ty64 (.slice ao2 z2.1.length cp2) z2.1, .ro (tI .u8) (.slice ao1 z1.length cp1) z1] := hs0.fstart hX [0, 1] rfl rfl
                          refine st tbOk 1 [28] (L' := [(28, .int .i64 ((z2.1.length : Nat) : Int))]) hf (by kernel_rfl) ?_
                          clear hf; clear a; intro a hf
                          exact fq_ok (d := 28) rfl hf (hs.ex fun _ h => h) hf.1
                        · intro a wf hX hf hd
                          have e_28 : a.tmps.getD 28 undef = .int .i64 ((z2.1.length : Nat) : Int) := hd 15 28 (by kernel_rfl) (by kernel_rfl)
                          have e_26 : a.tmps.getD 26 undef = .bool (z2.2 == 0) := hd 13 26 (by kernel_rfl) (by kernel_rfl)
                          rw [hb3] at e_26
                          replace hf : Fr 65 [(28, .int .i64 ((z2.1.length : Nat) : Int)), (26, .bool true), (1, .pointer (some ⟨w.heap.size, 0, none⟩)), (2, .slice ao1 z1.length cp1), (3, .slice ao2 z2.1.length cp2), (4, .int .i64 z2.2)] a := ⟨e_28, e_26, hf⟩; clear e_28 e_26
                          clear hd
                          have hs : Sep wf (star F5 w4 wf) noR wf (star F5 w4 wf) [.ro ty64 (.slice ao2 z2.1.length cp2) z2.1, .ro (tI .u8) (.slice ao1 z1.length cp1) z1] := hs0.fstart hX [0, 1] rfl rfl
                          refine st tbOk 1 [29] (L' := [(29, .bool (((z2.1.length : Nat) : Int) == 1))]) hf (by kernel_rfl) ?_
                          clear hf; clear a; intro a hf
                          exact fq_ok (d := 29) rfl hf (hs.ex fun _ h => h) hf.1
                        · intro a wf hX hf hd
                          have e_26 : a.tmps.getD 26 undef = .bool (z2.2 == 0) := hd 13 26 (by kernel_rfl) (by kernel_rfl)
                          rw [hb3] at e_26
                          have e_29 : a.tmps.getD 29 undef = .bool (((z2.1.length : Nat) : Int) == 1) := hd 16 29 (by kernel_rfl) (by kernel_rfl)
                          replace hf : Fr 65 [(26, .bool true), (29, .bool (((z2.1.length : Nat) : Int) == 1)), (1, .pointer (some ⟨w.heap.size, 0, none⟩)), (2, .slice ao1 z1.length cp1), (3, .slice ao2 z2.1.length cp2), (4, .int .i64 z2.2)] a := ⟨e_26, e_29, hf⟩; clear e_26 e_29
                          clear hd
                          have hs : Sep wf (star F5 w4 wf) noR wf (star F5 w4 wf) [.ro ty64 (.slice ao2 z2.1.length cp2) z2.1, .ro (tI .u8) (.slice ao1 z1.length cp1) z1] := hs0.fstart hX [0, 1] rfl rfl
                          refine st tbOk 1 [30] (L' := [(30, .bool (((z2.1.length : Nat) : Int) == 1))]) hf (by kernel_rfl) ?_
                          clear hf; clear a; intro a hf
                          exact fq_ok (d := 30) rfl hf (hs.ex fun _ h => h) hf.1
                        · intro a wf hX hf hd
                          have e_30 : a.tmps.getD 30 undef = .bool (((z2.1.length : Nat) : Int) == 1) := hd 17 30 (by kernel_rfl) (by kernel_rfl)
                          replace hf : Fr 65 [(30, .bool (((z2.1.length : Nat) : Int) == 1)), (1, .pointer (some ⟨w.heap.size, 0, none⟩)), (2, .slice ao1 z1.length cp1), (3, .slice ao2 z2.1.length cp2), (4, .int .i64 z2.2)] a := ⟨e_30, hf⟩; clear e_30
                          clear hd
                          have hs : Sep wf (star F5 w4 wf) noR wf (star F5 w4 wf) [.ro ty64 (.slice ao2 z2.1.length cp2) z2.1, .ro (tI .u8) (.slice ao1 z1.length cp1) z1] := hs0.fstart hX [0, 1] rfl rfl
                          refine st tbOk 1 [31] (L' := [(31, .bool (((z2.1.length : Nat) : Int) == 1))]) hf (by kernel_rfl) ?_
                          clear hf; clear a; intro a hf
                          exact fq_ok (d := 31) rfl hf (hs.ex fun _ h => h) hf.1
                        · intro a wf hX hf hd
                          have e_31 : a.tmps.getD 31 undef = .bool (((z2.1.length : Nat) : Int) == 1) := hd 18 31 (by kernel_rfl) (by kernel_rfl)
                          rw [hb4] at e_31
                          replace hf : Fr 65 [(31, .bool true), (1, .pointer (some ⟨w.heap.size, 0, none⟩)), (2, .slice ao1 z1.length cp1), (3, .slice ao2 z2.1.length cp2), (4, .int .i64 z2.2)] a := ⟨e_31, hf⟩; clear e_31
                          clear hd
                          have hs : Sep wf (star F5 w4 wf) noR wf (star F5 w4 wf) [.ro ty64 (.slice ao2 z2.1.length cp2) z2.1, .ro (tI .u8) (.slice ao1 z1.length cp1) z1] := hs0.fstart hX [0, 1] rfl rfl
                          refine st tbOk 1 [32] (L' := [(32, .slice ao2 z2.1.length cp2)]) hf (by kernel_rfl) ?_
                          clear hf; clear a; intro a hf
                          exact fq_ok (d := 32) rfl hf (hs.ex fun _ h => h) hf.1
                        · intro a wf hX hf hd
                          have e_32 : a.tmps.getD 32 undef = .slice ao2 z2.1.length cp2 := hd 19 32 (by kernel_rfl) (by kernel_rfl)
                          have e_31 : a.tmps.getD 31 undef = .bool (((z2.1.length : Nat) : Int) == 1) := hd 18 31 (by kernel_rfl) (by kernel_rfl)
                          rw [hb4] at e_31
                          replace hf : Fr 65 [(32, .slice ao2 z2.1.length cp2), (31, .bool true), (1, .pointer (some ⟨w.heap.size, 0, none⟩)), (2, .slice ao1 z1.length cp1), (3, .slice ao2 z2.1.length cp2), (4, .int .i64 z2.2)] a := ⟨e_32, e_31, hf⟩; clear e_32 e_31
                          clear hd
                          have hs : Sep wf (star F5 w4 wf) noR wf (star F5 w4 wf) [.ro ty64 (.slice ao2 z2.1.length cp2) z2.1, .ro (tI .u8) (.slice ao1 z1.length cp1) z1] := hs0.fstart hX [0, 1] rfl rfl
                          refine ixR tbOk u69 i65 rfl rfl ((hs.ro 0 rfl).ra (LeH.refl _)) (k := .i64) (n := 0) hc2 hf (by kernel_rfl) (by kernel_rfl) (by kernel_rfl) (by kernel_rfl) ?_
                          clear hf; clear a; intro pb3 po3 c2 a hp2 hr2 hf
                          obtain rfl : c2 = [.int .u32 ((gt z2.1 0).1), .int .u8 ((gt z2.1 0).2.1), .int .u8 ((gt z2.1 0).2.2.1), .int .u16 ((gt z2.1 0).2.2.2.1), .int .u64 ((gt z2.1 0).2.2.2.2.1), .int .u64 ((gt z2.1 0).2.2.2.2.2)] := hr2
                          replace hs : Sep wf (star F5 w4 wf) noR wf (star F5 w4 wf) [.cel pb3 po3 [.int .u32 ((gt z2.1 0).1), .int .u8 ((gt z2.1 0).2.1), .int .u8 ((gt z2.1 0).2.2.1), .int .u16 ((gt z2.1 0).2.2.2.1), .int .u64 ((gt z2.1 0).2.2.2.2.1), .int .u64 ((gt z2.1 0).2.2.2.2.2)], .ro ty64 (.slice ao2 z2.1.length cp2) z2.1, .ro (tI .u8) (.slice ao1 z1.length cp1) z1] := hs.addCel hp2
                          exact fq_ok (d := 33) rfl hf (hs.ex fun _ h => h) ⟨pb3, po3, _, hf.1, (hs.sel [0] rfl rfl).rebase hX⟩
                        · intro a wf hX hf hd
                          obtain ⟨pb4, po4, F_33, e_33, h_33⟩ : ∃ (pb4 : Nat) (po4 : Nat) (F' : SH), a.tmps.getD 33 undef = .pointer (some ⟨pb4, po4, none⟩) ∧ Sep w4 F5 noR wf F' [.cel pb4 po4 [.int .u32 ((gt z2.1 0).1), .int .u8 ((gt z2.1 0).2.1), .int .u8 ((gt z2.1 0).2.2.1), .int .u16 ((gt z2.1 0).2.2.2.1), .int .u64 ((gt z2.1 0).2.2.2.2.1), .int .u64 ((gt z2.1 0).2.2.2.2.2)]] := hd 20 33 (by kernel_rfl) (by kernel_rfl)
                          have e_31 : a.tmps.getD 31 undef = .bool (((z2.1.length : Nat) : Int) == 1) := hd 18 31 (by kernel_rfl) (by kernel_rfl)
                          rw [hb4] at e_31
                          replace hf : Fr 65 [(33, .pointer (some ⟨pb4, po4, none⟩)), (31, .bool true), (1, .pointer (some ⟨w.heap.size, 0, none⟩)), (2, .slice ao1 z1.length cp1), (3, .slice ao2 z2.1.length cp2), (4, .int .i64 z2.2)] a := ⟨e_33, e_31, hf⟩; clear e_33 e_31
                          clear hd
                          have hs : Sep wf (star F5 w4 wf) noR wf (star F5 w4 wf) [.ro ty64 (.slice ao2 z2.1.length cp2) z2.1, .ro (tI .u8) (.slice ao1 z1.length cp1) z1] := hs0.fstart hX [0, 1] rfl rfl
                          replace hs : Sep wf (star F5 w4 wf) noR wf (star F5 w4 wf) [.cel pb4 po4 [.int .u32 ((gt z2.1 0).1), .int .u8 ((gt z2.1 0).2.1), .int .u8 ((gt z2.1 0).2.2.1), .int .u16 ((gt z2.1 0).2.2.2.1), .int .u64 ((gt z2.1 0).2.2.2.2.1), .int .u64 ((gt z2.1 0).2.2.2.2.2)], .ro ty64 (.slice ao2 z2.1.length cp2) z2.1, .ro (tI .u8) (.slice ao1 z1.length cp1) z1] := hs.addStar h_33 0 rfl rfl
                          clear h_33
                          refine ldC tbOk (T := 65) (hs.ccel 0 rfl) (LeH.refl _) 0 (.agg #[.int .u32 ((gt z2.1 0).1), .int .u8 ((gt z2.1 0).2.1), .int .u8 ((gt z2.1 0).2.2.1), .int .u16 ((gt z2.1 0).2.2.2.1), .int .u64 ((gt z2.1 0).2.2.2.2.1), .int .u64 ((gt z2.1 0).2.2.2.2.2)]) hf (by kernel_rfl) (by kernel_rfl) (by kernel_rfl) (by kernel_rfl) ?_
                          clear hf; clear a; intro a hf
                          exact fq_ok (d := 34) rfl hf (hs.ex fun _ h => h) hf.1
                        · intro a wf hX hf hd
                          have e_31 : a.tmps.getD 31 undef = .bool (((z2.1.length : Nat) : Int) == 1) := hd 18 31 (by kernel_rfl) (by kernel_rfl)
                          rw [hb4] at e_31
                          replace hf : Fr 65 [(31, .bool true), (1, .pointer (some ⟨w.heap.size, 0, none⟩)), (2, .slice ao1 z1.length cp1), (3, .slice ao2 z2.1.length cp2), (4, .int .i64 z2.2)] a := ⟨e_31, hf⟩; clear e_31
                          clear hd
                          have hs : Sep wf (star F5 w4 wf) noR wf (star F5 w4 wf) [.ro ty64 (.slice ao2 z2.1.length cp2) z2.1, .ro (tI .u8) (.slice ao1 z1.length cp1) z1] := hs0.fstart hX [0, 1] rfl rfl
                          refine ldC tbOk (T := 65) ((hs0.cbx 2 rfl).mono hX.le) (LeH.refl _) 0 (.agg #[.int .u32 5, .int .u8 18, .int .u8 0, .int .u16 1, .int .u64 7, .int .u64 0]) hf (by kernel_rfl) (by kernel_rfl) (by kernel_rfl) (by kernel_rfl) ?_
                          clear hf; clear a; intro a hf
                          exact fq_ok (d := 35) rfl hf (hs.ex fun _ h => h) hf.1
                        · intro a wf hX hf hd
                          have e_34 : a.tmps.getD 34 undef = .agg #[.int .u32 ((gt z2.1 0).1), .int .u8 ((gt z2.1 0).2.1), .int .u8 ((gt z2.1 0).2.2.1), .int .u16 ((gt z2.1 0).2.2.2.1), .int .u64 ((gt z2.1 0).2.2.2.2.1), .int .u64 ((gt z2.1 0).2.2.2.2.2)] := hd 21 34 (by kernel_rfl) (by kernel_rfl)
                          have e_35 : a.tmps.getD 35 undef = .agg #[.int .u32 5, .int .u8 18, .int .u8 0, .int .u16 1, .int .u64 7, .int .u64 0] := hd 22 35 (by kernel_rfl) (by kernel_rfl)
                          have e_31 : a.tmps.getD 31 undef = .bool (((z2.1.length : Nat) : Int) == 1) := hd 18 31 (by kernel_rfl) (by kernel_rfl)
                          rw [hb4] at e_31
                          replace hf : Fr 65 [(34, .agg #[.int .u32 ((gt z2.1 0).1), .int .u8 ((gt z2.1 0).2.1), .int .u8 ((gt z2.1 0).2.2.1), .int .u16 ((gt z2.1 0).2.2.2.1), .int .u64 ((gt z2.1 0).2.2.2.2.1), .int .u64 ((gt z2.1 0).2.2.2.2.2)]), (35, .agg #[.int .u32 5, .int .u8 18, .int .u8 0, .int .u16 1, .int .u64 7, .int .u64 0]), (31, .bool true), (1, .pointer (some ⟨w.heap.size, 0, none⟩)), (2, .slice ao1 z1.length cp1), (3, .slice ao2 z2.1.length cp2), (4, .int .i64 z2.2)] a := ⟨e_34, e_35, e_31, hf⟩; clear e_34 e_35 e_31
                          clear hd
                          have hs : Sep wf (star F5 w4 wf) noR wf (star F5 w4 wf) [.ro ty64 (.slice ao2 z2.1.length cp2) z2.1, .ro (tI .u8) (.slice ao1 z1.length cp1) z1] := hs0.fstart hX [0, 1] rfl rfl
                          refine st tbOk 1 [36] (L' := [(36, .bool ((((gt z2.1 0).1) == 5) && ((((gt z2.1 0).2.1) == 18) && ((((gt z2.1 0).2.2.1) == 0) && ((((gt z2.1 0).2.2.2.1) == 1) && ((((gt z2.1 0).2.2.2.2.1) == 7) && (((gt z2.1 0).2.2.2.2.2) == 0)))))))]) hf (by kernel_rfl) ?_
                          clear hf; clear a; intro a hf
                          exact fq_ok (d := 36) rfl hf (hs.ex fun _ h => h) hf.1
                        · intro a wf hX hf hd
                          have e_31 : a.tmps.getD 31 undef = .bool (((z2.1.length : Nat) : Int) == 1) := hd 18 31 (by kernel_rfl) (by kernel_rfl)
                          rw [hb4] at e_31
                          have e_36 : a.tmps.getD 36 undef = .bool ((((gt z2.1 0).1) == 5) && ((((gt z2.1 0).2.1) == 18) && ((((gt z2.1 0).2.2.1) == 0) && ((((gt z2.1 0).2.2.2.1) == 1) && ((((gt z2.1 0).2.2.2.2.1) == 7) && (((gt z2.1 0).2.2.2.2.2) == 0)))))) := hd 23 36 (by kernel_rfl) (by kernel_rfl)
                          replace hf : Fr 65 [(31, .bool true), (36, .bool ((((gt z2.1 0).1) == 5) && ((((gt z2.1 0).2.1) == 18) && ((((gt z2.1 0).2.2.1) == 0) && ((((gt z2.1 0).2.2.2.1) == 1) && ((((gt z2.1 0).2.2.2.2.1) == 7) && (((gt z2.1 0).2.2.2.2.2) == 0))))))), (1, .pointer (some ⟨w.heap.size, 0, none⟩)), (2, .slice ao1 z1.length cp1), (3, .slice ao2 z2.1.length cp2), (4, .int .i64 z2.2)] a := ⟨e_31, e_36, hf⟩; clear e_31 e_36
                          clear hd
                          have hs : Sep wf (star F5 w4 wf) noR wf (star F5 w4 wf) [.ro ty64 (.slice ao2 z2.1.length cp2) z2.1, .ro (tI .u8) (.slice ao1 z1.length cp1) z1] := hs0.fstart hX [0, 1] rfl rfl
                          refine st tbOk 1 [37] (L' := [(37, .bool ((((gt z2.1 0).1) == 5) && ((((gt z2.1 0).2.1) == 18) && ((((gt z2.1 0).2.2.1) == 0) && ((((gt z2.1 0).2.2.2.1) == 1) && ((((gt z2.1 0).2.2.2.2.1) == 7) && (((gt z2.1 0).2.2.2.2.2) == 0)))))))]) hf (by kernel_rfl) ?_
                          clear hf; clear a; intro a hf
                          exact fq_ok (d := 37) rfl hf (hs.ex fun _ h => h) hf.1
                        · intro a wf hX hf hd
                          have e_37 : a.tmps.getD 37 undef = .bool ((((gt z2.1 0).1) == 5) && ((((gt z2.1 0).2.1) == 18) && ((((gt z2.1 0).2.2.1) == 0) && ((((gt z2.1 0).2.2.2.1) == 1) && ((((gt z2.1 0).2.2.2.2.1) == 7) && (((gt z2.1 0).2.2.2.2.2) == 0)))))) := hd 24 37 (by kernel_rfl) (by kernel_rfl)
                          replace hf : Fr 65 [(37, .bool ((((gt z2.1 0).1) == 5) && ((((gt z2.1 0).2.1) == 18) && ((((gt z2.1 0).2.2.1) == 0) && ((((gt z2.1 0).2.2.2.1) == 1) && ((((gt z2.1 0).2.2.2.2.1) == 7) && (((gt z2.1 0).2.2.2.2.2) == 0))))))), (1, .pointer (some ⟨w.heap.size, 0, none⟩)), (2, .slice ao1 z1.length cp1), (3, .slice ao2 z2.1.length cp2), (4, .int .i64 z2.2)] a := ⟨e_37, hf⟩; clear e_37
                          clear hd
                          have hs : Sep wf (star F5 w4 wf) noR wf (star F5 w4 wf) [.ro ty64 (.slice ao2 z2.1.length cp2) z2.1, .ro (tI .u8) (.slice ao1 z1.length cp1) z1] := hs0.fstart hX [0, 1] rfl rfl
                          refine st tbOk 1 [38] (L' := [(38, .bool ((((gt z2.1 0).1) == 5) && ((((gt z2.1 0).2.1) == 18) && ((((gt z2.1 0).2.2.1) == 0) && ((((gt z2.1 0).2.2.2.1) == 1) && ((((gt z2.1 0).2.2.2.2.1) == 7) && (((gt z2.1 0).2.2.2.2.2) == 0)))))))]) hf (by kernel_rfl) ?_
                          clear hf; clear a; intro a hf
                          exact fq_ok (d := 38) rfl hf (hs.ex fun _ h => h) hf.1
                        · intro a wf hX hf hd
                          have e_38 : a.tmps.getD 38 undef = .bool ((((gt z2.1 0).1) == 5) && ((((gt z2.1 0).2.1) == 18) && ((((gt z2.1 0).2.2.1) == 0) && ((((gt z2.1 0).2.2.2.1) == 1) && ((((gt z2.1 0).2.2.2.2.1) == 7) && (((gt z2.1 0).2.2.2.2.2) == 0)))))) := hd 25 38 (by kernel_rfl) (by kernel_rfl)
                          rw [hb5] at e_38
                          replace hf : Fr 65 [(38, .bool true), (1, .pointer (some ⟨w.heap.size, 0, none⟩)), (2, .slice ao1 z1.length cp1), (3, .slice ao2 z2.1.length cp2), (4, .int .i64 z2.2)] a := ⟨e_38, hf⟩; clear e_38
                          clear hd
                          have hs : Sep wf (star F5 w4 wf) noR wf (star F5 w4 wf) [.ro ty64 (.slice ao2 z2.1.length cp2) z2.1, .ro (tI .u8) (.slice ao1 z1.length cp1) z1] := hs0.fstart hX [0, 1] rfl rfl
                          refine ldC tbOk (T := 65) ((hs0.cbx 2 rfl).mono hX.le) (LeH.refl _) 0 (.agg #[.int .u32 5, .int .u8 18, .int .u8 0, .int .u16 1, .int .u64 7, .int .u64 0]) hf (by kernel_rfl) (by kernel_rfl) (by kernel_rfl) (by kernel_rfl) ?_
                          clear hf; clear a; intro a hf
                          exact fq_ok (d := 39) rfl hf (hs.ex fun _ h => h) hf.1
                        · intro a wf hX hf hd
                          have e_39 : a.tmps.getD 39 undef = .agg #[.int .u32 5, .int .u8 18, .int .u8 0, .int .u16 1, .int .u64 7, .int .u64 0] := hd 26 39 (by kernel_rfl) (by kernel_rfl)
                          have e_38 : a.tmps.getD 38 undef = .bool ((((gt z2.1 0).1) == 5) && ((((gt z2.1 0).2.1) == 18) && ((((gt z2.1 0).2.2.1) == 0) && ((((gt z2.1 0).2.2.2.1) == 1) && ((((gt z2.1 0).2.2.2.2.1) == 7) && (((gt z2.1 0).2.2.2.2.2) == 0)))))) := hd 25 38 (by kernel_rfl) (by kernel_rfl)
                          rw [hb5] at e_38
                          replace hf : Fr 65 [(39, .agg #[.int .u32 5, .int .u8 18, .int .u8 0, .int .u16 1, .int .u64 7, .int .u64 0]), (38, .bool true), (1, .pointer (some ⟨w.heap.size, 0, none⟩)), (2, .slice ao1 z1.length cp1), (3, .slice ao2 z2.1.length cp2), (4, .int .i64 z2.2)] a := ⟨e_39, e_38, hf⟩; clear e_39 e_38
                          clear hd
                          have hs : Sep wf (star F5 w4 wf) noR wf (star F5 w4 wf) [.ro ty64 (.slice ao2 z2.1.length cp2) z2.1, .ro (tI .u8) (.slice ao1 z1.length cp1) z1] := hs0.fstart hX [0, 1] rfl rfl
                          refine clV ent28 (vs := [.agg #[.int .u32 5, .int .u8 18, .int .u8 0, .int .u16 1, .int .u64 7, .int .u64 0]]) (caps := []) hf (by kernel_rfl) (by kernel_rfl) (by kernel_rfl) (by kernel_rfl) (symbols_Bind_ok (p_s := (5, 18, 0, 1, 7, 0)) (hs.enter [] rfl rfl) hz3) ?_
                          clear hf; clear a; intro v w5 a hT hf; obtain ⟨F6, rfl, hr⟩ := hT
                          replace hs : Sep wf (star F5 w4 wf) noR w5 F6 [.ro ty64 (.slice ao2 z2.1.length cp2) z2.1, .ro (tI .u8) (.slice ao1 z1.length cp1) z1] := hs.back [] [0, 1] rfl rfl rfl rfl hr
                          clear hr
                          exact fq_ok (d := 40) rfl hf (hs.ex fun _ h => h) hf.1
                        · intro a wf hX hf hd
                          have e_40 : a.tmps.getD 40 undef = .int .i64 z3 := hd 27 40 (by kernel_rfl) (by kernel_rfl)
                          have e_38 : a.tmps.getD 38 undef = .bool ((((gt z2.1 0).1) == 5) && ((((gt z2.1 0).2.1) == 18) && ((((gt z2.1 0).2.2.1) == 0) && ((((gt z2.1 0).2.2.2.1) == 1) && ((((gt z2.1 0).2.2.2.2.1) == 7) && (((gt z2.1 0).2.2.2.2.2) == 0)))))) := hd 25 38 (by kernel_rfl) (by kernel_rfl)
                          rw [hb5] at e_38
                          replace hf : Fr 65 [(40, .int .i64 z3), (38, .bool true), (1, .pointer (some ⟨w.heap.size, 0, none⟩)), (2, .slice ao1 z1.length cp1), (3, .slice ao2 z2.1.length cp2), (4, .int .i64 z2.2)] a := ⟨e_40, e_38, hf⟩; clear e_40 e_38
                          clear hd
                          have hs : Sep wf (star F5 w4 wf) noR wf (star F5 w4 wf) [.ro ty64 (.slice ao2 z2.1.length cp2) z2.1, .ro (tI .u8) (.slice ao1 z1.length cp1) z1] := hs0.fstart hX [0, 1] rfl rfl
                          refine st tbOk 1 [41] (L' := [(41, .bool (z3 == 1))]) hf (by kernel_rfl) ?_
                          clear hf; clear a; intro a hf
                          exact fq_ok (d := 41) rfl hf (hs.ex fun _ h => h) hf.1
                        · intro a wf hX hf hd
                          have e_38 : a.tmps.getD 38 undef = .bool ((((gt z2.1 0).1) == 5) && ((((gt z2.1 0).2.1) == 18) && ((((gt z2.1 0).2.2.1) == 0) && ((((gt z2.1 0).2.2.2.1) == 1) && ((((gt z2.1 0).2.2.2.2.1) == 7) && (((gt z2.1 0).2.2.2.2.2) == 0)))))) := hd 25 38 (by kernel_rfl) (by kernel_rfl)
                          rw [hb5] at e_38
                          have e_41 : a.tmps.getD 41 undef = .bool (z3 == 1) := hd 28 41 (by kernel_rfl) (by kernel_rfl)
                          replace hf : Fr 65 [(38, .bool true), (41, .bool (z3 == 1)), (1, .pointer (some ⟨w.heap.size, 0, none⟩)), (2, .slice ao1 z1.length cp1), (3, .slice ao2 z2.1.length cp2), (4, .int .i64 z2.2)] a := ⟨e_38, e_41, hf⟩; clear e_38 e_41
                          clear hd
                          have hs : Sep wf (star F5 w4 wf) noR wf (star F5 w4 wf) [.ro ty64 (.slice ao2 z2.1.length cp2) z2.1, .ro (tI .u8) (.slice ao1 z1.length cp1) z1] := hs0.fstart hX [0, 1] rfl rfl
                          refine st tbOk 1 [42] (L' := [(42, .bool (z3 == 1))]) hf (by kernel_rfl) ?_
                          clear hf; clear a; intro a hf
                          exact fq_ok (d := 42) rfl hf (hs.ex fun _ h => h) hf.1
                        · intro a wf hX hf hd
                          have e_42 : a.tmps.getD 42 undef = .bool (z3 == 1) := hd 29 42 (by kernel_rfl) (by kernel_rfl)
                          replace hf : Fr 65 [(42, .bool (z3 == 1)), (1, .pointer (some ⟨w.heap.size, 0, none⟩)), (2, .slice ao1 z1.length cp1), (3, .slice ao2 z2.1.length cp2), (4, .int .i64 z2.2)] a := ⟨e_42, hf⟩; clear e_42
                          clear hd
                          have hs : Sep wf (star F5 w4 wf) noR wf (star F5 w4 wf) [.ro ty64 (.slice ao2 z2.1.length cp2) z2.1, .ro (tI .u8) (.slice ao1 z1.length cp1) z1] := hs0.fstart hX [0, 1] rfl rfl
                          refine st tbOk 1 [43] (L' := [(43, .bool (z3 == 1))]) hf (by kernel_rfl) ?_
                          clear hf; clear a; intro a hf
                          exact fq_ok (d := 43) rfl hf (hs.ex fun _ h => h) hf.1
                        · intro a wf hX hf hd
                          have e_43 : a.tmps.getD 43 undef = .bool (z3 == 1) := hd 30 43 (by kernel_rfl) (by kernel_rfl)
                          rw [hb6] at e_43
                          replace hf : Fr 65 [(43, .bool true), (1, .pointer (some ⟨w.heap.size, 0, none⟩)), (2, .slice ao1 z1.length cp1), (3, .slice ao2 z2.1.length cp2), (4, .int .i64 z2.2)] a := ⟨e_43, hf⟩; clear e_43
                          clear hd
                          have hs : Sep wf (star F5 w4 wf) noR wf (star F5 w4 wf) [.ro ty64 (.slice ao2 z2.1.length cp2) z2.1, .ro (tI .u8) (.slice ao1 z1.length cp1) z1] := hs0.fstart hX [0, 1] rfl rfl
                          refine ldC tbOk (T := 65) ((hs0.cbx 2 rfl).mono hX.le) (LeH.refl _) 0 (.agg #[.int .u32 5, .int .u8 18, .int .u8 0, .int .u16 1, .int .u64 7, .int .u64 0]) hf (by kernel_rfl) (by kernel_rfl) (by kernel_rfl) (by kernel_rfl) ?_
                          clear hf; clear a; intro a hf
                          exact fq_ok (d := 44) rfl hf (hs.ex fun _ h => h) hf.1
                        · intro a wf hX hf hd
                          have e_44 : a.tmps.getD 44 undef = .agg #[.int .u32 5, .int .u8 18, .int .u8 0, .int .u16 1, .int .u64 7, .int .u64 0] := hd 31 44 (by kernel_rfl) (by kernel_rfl)
                          have e_43 : a.tmps.getD 43 undef = .bool (z3 == 1) := hd 30 43 (by kernel_rfl) (by kernel_rfl)
                          rw [hb6] at e_43
                          replace hf : Fr 65 [(44, .agg #[.int .u32 5, .int .u8 18, .int .u8 0, .int .u16 1, .int .u64 7, .int .u64 0]), (43, .bool true), (1, .pointer (some ⟨w.heap.size, 0, none⟩)), (2, .slice ao1 z1.length cp1), (3, .slice ao2 z2.1.length cp2), (4, .int .i64 z2.2)] a := ⟨e_44, e_43, hf⟩; clear e_44 e_43
                          clear hd
                          have hs : Sep wf (star F5 w4 wf) noR wf (star F5 w4 wf) [.ro ty64 (.slice ao2 z2.1.length cp2) z2.1, .ro (tI .u8) (.slice ao1 z1.length cp1) z1] := hs0.fstart hX [0, 1] rfl rfl
                          refine clV ent29 (vs := [.agg #[.int .u32 5, .int .u8 18, .int .u8 0, .int .u16 1, .int .u64 7, .int .u64 0]]) (caps := []) hf (by kernel_rfl) (by kernel_rfl) (by kernel_rfl) (by kernel_rfl) (symbols_Kind_ok (p_s := (5, 18, 0, 1, 7, 0)) (hs.enter [] rfl rfl) hz4) ?_
                          clear hf; clear a; intro v w6 a hT hf; obtain ⟨F7, rfl, hr⟩ := hT
                          replace hs : Sep wf (star F5 w4 wf) noR w6 F7 [.ro ty64 (.slice ao2 z2.1.length cp2) z2.1, .ro (tI .u8) (.slice ao1 z1.length cp1) z1] := hs.back [] [0, 1] rfl rfl rfl rfl hr
                          clear hr
                          exact fq_ok (d := 45) rfl hf (hs.ex fun _ h => h) hf.1
                        · intro a wf hX hf hd
                          have e_45 : a.tmps.getD 45 undef = .int .i64 z4 := hd 32 45 (by kernel_rfl) (by kernel_rfl)
                          have e_43 : a.tmps.getD 43 undef = .bool (z3 == 1) := hd 30 43 (by kernel_rfl) (by kernel_rfl)
                          rw [hb6] at e_43
                          replace hf : Fr 65 [(45, .int .i64 z4), (43, .bool true), (1, .pointer (some ⟨w.heap.size, 0, none⟩)), (2, .slice ao1 z1.length cp1), (3, .slice ao2 z2.1.length cp2), (4, .int .i64 z2.2)] a := ⟨e_45, e_43, hf⟩; clear e_45 e_43
                          clear hd
                          have hs : Sep wf (star F5 w4 wf) noR wf (star F5 w4 wf) [.ro ty64 (.slice ao2 z2.1.length cp2) z2.1, .ro (tI .u8) (.slice ao1 z1.length cp1) z1] := hs0.fstart hX [0, 1] rfl rfl
                          refine st tbOk 1 [46] (L' := [(46, .bool (z4 == 2))]) hf (by kernel_rfl) ?_
                          clear hf; clear a; intro a hf
                          exact fq_ok (d := 46) rfl hf (hs.ex fun _ h => h) hf.1
                        · intro a wf hX hf hd
                          have e_43 : a.tmps.getD 43 undef = .bool (z3 == 1) := hd 30 43 (by kernel_rfl) (by kernel_rfl)
                          rw [hb6] at e_43
                          have e_46 : a.tmps.getD 46 undef = .bool (z4 == 2) := hd 33 46 (by kernel_rfl) (by kernel_rfl)
                          replace hf : Fr 65 [(43, .bool true), (46, .bool (z4 == 2)), (1, .pointer (some ⟨w.heap.size, 0, none⟩)), (2, .slice ao1 z1.length cp1), (3, .slice ao2 z2.1.length cp2), (4, .int .i64 z2.2)] a := ⟨e_43, e_46, hf⟩; clear e_43 e_46
                          clear hd
                          have hs : Sep wf (star F5 w4 wf) noR wf (star F5 w4 wf) [.ro ty64 (.slice ao2 z2.1.length cp2) z2.1, .ro (tI .u8) (.slice ao1 z1.length cp1) z1] := hs0.fstart hX [0, 1] rfl rfl
                          refine st tbOk 1 [47] (L' := [(47, .bool (z4 == 2))]) hf (by kernel_rfl) ?_
                          clear hf; clear a; intro a hf
                          exact fq_ok (d := 47) rfl hf (hs.ex fun _ h => h) hf.1
                        · intro a wf hX hf hd
                          have e_47 : a.tmps.getD 47 undef = .bool (z4 == 2) := hd 34 47 (by kernel_rfl) (by kernel_rfl)
                          replace hf : Fr 65 [(47, .bool (z4 == 2)), (1, .pointer (some ⟨w.heap.size, 0, none⟩)), (2, .slice ao1 z1.length cp1), (3, .slice ao2 z2.1.length cp2), (4, .int .i64 z2.2)] a := ⟨e_47, hf⟩; clear e_47
                          clear hd
                          have hs : Sep wf (star F5 w4 wf) noR wf (star F5 w4 wf) [.ro ty64 (.slice ao2 z2.1.length cp2) z2.1, .ro (tI .u8) (.slice ao1 z1.length cp1) z1] := hs0.fstart hX [0, 1] rfl rfl
                          refine st tbOk 1 [48] (L' := [(48, .bool (z4 == 2))]) hf (by kernel_rfl) ?_
                          clear hf; clear a; intro a hf
                          exact fq_ok (d := 48) rfl hf (hs.ex fun _ h => h) hf.1
                        · intro a wf hX hf hd
                          have e_48 : a.tmps.getD 48 undef = .bool (z4 == 2) := hd 35 48 (by kernel_rfl) (by kernel_rfl)
                          rw [hb7] at e_48
                          replace hf : Fr 65 [(48, .bool true), (1, .pointer (some ⟨w.heap.size, 0, none⟩)), (2, .slice ao1 z1.length cp1), (3, .slice ao2 z2.1.length cp2), (4, .int .i64 z2.2)] a := ⟨e_48, hf⟩; clear e_48
                          clear hd
                          have hs : Sep wf (star F5 w4 wf) noR wf (star F5 w4 wf) [.ro ty64 (.slice ao2 z2.1.length cp2) z2.1, .ro (tI .u8) (.slice ao1 z1.length cp1) z1] := hs0.fstart hX [0, 1] rfl rfl
                          refine ldC tbOk (T := 65) ((hs0.cbx 2 rfl).mono hX.le) (LeH.refl _) 0 (.agg #[.int .u32 5, .int .u8 18, .int .u8 0, .int .u16 1, .int .u64 7, .int .u64 0]) hf (by kernel_rfl) (by kernel_rfl) (by kernel_rfl) (by kernel_rfl) ?_
                          clear hf; clear a; intro a hf
                          exact fq_ok (d := 49) rfl hf (hs.ex fun _ h => h) hf.1
                        · intro a wf hX hf hd
                          have e_49 : a.tmps.getD 49 undef = .agg #[.int .u32 5, .int .u8 18, .int .u8 0, .int .u16 1, .int .u64 7, .int .u64 0] := hd 36 49 (by kernel_rfl) (by kernel_rfl)
                          have e_48 : a.tmps.getD 48 undef = .bool (z4 == 2) := hd 35 48 (by kernel_rfl) (by kernel_rfl)
                          rw [hb7] at e_48
                          replace hf : Fr 65 [(49, .agg #[.int .u32 5, .int .u8 18, .int .u8 0, .int .u16 1, .int .u64 7, .int .u64 0]), (48, .bool true), (1, .pointer (some ⟨w.heap.size, 0, none⟩)), (2, .slice ao1 z1.length cp1), (3, .slice ao2 z2.1.length cp2), (4, .int .i64 z2.2)] a := ⟨e_49, e_48, hf⟩; clear e_49 e_48
                          clear hd
                          have hs : Sep wf (star F5 w4 wf) noR wf (star F5 w4 wf) [.ro ty64 (.slice ao2 z2.1.length cp2) z2.1, .ro (tI .u8) (.slice ao1 z1.length cp1) z1] := hs0.fstart hX [0, 1] rfl rfl
                          refine clV ent30 (vs := [.agg #[.int .u32 5, .int .u8 18, .int .u8 0, .int .u16 1, .int .u64 7, .int .u64 0]]) (caps := []) hf (by kernel_rfl) (by kernel_rfl) (by kernel_rfl) (by kernel_rfl) (symbols_Defined_ok (p_s := (5, 18, 0, 1, 7, 0)) (hs.enter [] rfl rfl) hz5) ?_
                          clear hf; clear a; intro v w7 a hT hf; obtain ⟨F8, rfl, hr⟩ := hT
                          replace hs : Sep wf (star F5 w4 wf) noR w7 F8 [.ro ty64 (.slice ao2 z2.1.length cp2) z2.1, .ro (tI .u8) (.slice ao1 z1.length cp1) z1] := hs.back [] [0, 1] rfl rfl rfl rfl hr
                          clear hr
                          exact fq_ok (d := 50) rfl hf (hs.ex fun _ h => h) hf.1
                        · intro a wf hX hf hd
                          have e_48 : a.tmps.getD 48 undef = .bool (z4 == 2) := hd 35 48 (by kernel_rfl) (by kernel_rfl)
                          rw [hb7] at e_48
                          have e_50 : a.tmps.getD 50 undef = .bool z5 := hd 37 50 (by kernel_rfl) (by kernel_rfl)
                          replace hf : Fr 65 [(48, .bool true), (50, .bool z5), (1, .pointer (some ⟨w.heap.size, 0, none⟩)), (2, .slice ao1 z1.length cp1), (3, .slice ao2 z2.1.length cp2), (4, .int .i64 z2.2)] a := ⟨e_48, e_50, hf⟩; clear e_48 e_50
                          clear hd
                          have hs : Sep wf (star F5 w4 wf) noR wf (star F5 w4 wf) [.ro ty64 (.slice ao2 z2.1.length cp2) z2.1, .ro (tI .u8) (.slice ao1 z1.length cp1) z1] := hs0.fstart hX [0, 1] rfl rfl
                          refine st tbOk 1 [51] (L' := [(51, .bool z5)]) hf (by kernel_rfl) ?_
                          clear hf; clear a; intro a hf
                          exact fq_ok (d := 51) rfl hf (hs.ex fun _ h => h) hf.1
                        · intro a wf hX hf hd
                          have e_51 : a.tmps.getD 51 undef = .bool z5 := hd 38 51 (by kernel_rfl) (by kernel_rfl)
                          replace hf : Fr 65 [(51, .bool z5), (1, .pointer (some ⟨w.heap.size, 0, none⟩)), (2, .slice ao1 z1.length cp1), (3, .slice ao2 z2.1.length cp2), (4, .int .i64 z2.2)] a := ⟨e_51, hf⟩; clear e_51
                          clear hd
                          have hs : Sep wf (star F5 w4 wf) noR wf (star F5 w4 wf) [.ro ty64 (.slice ao2 z2.1.length cp2) z2.1, .ro (tI .u8) (.slice ao1 z1.length cp1) z1] := hs0.fstart hX [0, 1] rfl rfl
                          refine st tbOk 1 [52] (L' := [(52, .bool z5)]) hf (by kernel_rfl) ?_
                          clear hf; clear a; intro a hf
                          exact fq_ok (d := 52) rfl hf (hs.ex fun _ h => h) hf.1
                        · intro a wf hX hf hd
                          have e_52 : a.tmps.getD 52 undef = .bool z5 := hd 39 52 (by kernel_rfl) (by kernel_rfl)
                          rw [hb8] at e_52
                          replace hf : Fr 65 [(52, .bool true), (1, .pointer (some ⟨w.heap.size, 0, none⟩)), (2, .slice ao1 z1.length cp1), (3, .slice ao2 z2.1.length cp2), (4, .int .i64 z2.2)] a := ⟨e_52, hf⟩; clear e_52
                          clear hd
                          have hs : Sep wf (star F5 w4 wf) noR wf (star F5 w4 wf) [.ro ty64 (.slice ao2 z2.1.length cp2) z2.1, .ro (tI .u8) (.slice ao1 z1.length cp1) z1] := hs0.fstart hX [0, 1] rfl rfl
                          refine ldC tbOk (T := 65) ((hs0.cbx 2 rfl).mono hX.le) (LeH.refl _) 0 (.agg #[.int .u32 5, .int .u8 18, .int .u8 0, .int .u16 1, .int .u64 7, .int .u64 0]) hf (by kernel_rfl) (by kernel_rfl) (by kernel_rfl) (by kernel_rfl) ?_
                          clear hf; clear a; intro a hf
                          exact fq_ok (d := 53) rfl hf (hs.ex fun _ h => h) hf.1
                        · intro a wf hX hf hd
                          have e_53 : a.tmps.getD 53 undef = .agg #[.int .u32 5, .int .u8 18, .int .u8 0, .int .u16 1, .int .u64 7, .int .u64 0] := hd 40 53 (by kernel_rfl) (by kernel_rfl)
                          have e_52 : a.tmps.getD 52 undef = .bool z5 := hd 39 52 (by kernel_rfl) (by kernel_rfl)
                          rw [hb8] at e_52
                          replace hf : Fr 65 [(53, .agg #[.int .u32 5, .int .u8 18, .int .u8 0, .int .u16 1, .int .u64 7, .int .u64 0]), (52, .bool true), (1, .pointer (some ⟨w.heap.size, 0, none⟩)), (2, .slice ao1 z1.length cp1), (3, .slice ao2 z2.1.length cp2), (4, .int .i64 z2.2)] a := ⟨e_53, e_52, hf⟩; clear e_53 e_52
                          clear hd
                          have hs : Sep wf (star F5 w4 wf) noR wf (star F5 w4 wf) [.ro ty64 (.slice ao2 z2.1.length cp2) z2.1, .ro (tI .u8) (.slice ao1 z1.length cp1) z1] := hs0.fstart hX [0, 1] rfl rfl
                          refine bsR tbOk u69 i65 rfl (t := ty64) (vs := [(0, .agg #[.int .u32 5, .int .u8 18, .int .u8 0, .int .u16 1, .int .u64 7, .int .u64 0])]) (cells := #[.int .u32 5, .int .u8 18, .int .u8 0, .int .u16 1, .int .u64 7, .int .u64 0]) ([(5, 18, 0, 1, 7, 0)] : List (Int × Int × Int × Int × Int × Int)) hs.le hf (by kernel_rfl) (by kernel_rfl) (by kernel_rfl) rfl (by kernel_rfl) (reps_flat _) rfl ?_
                          clear hf; clear a; intro w8 a ho hx hf
                          replace hs : Sep wf (star F5 w4 wf) noR w8 (star F5 w4 wf) [.row 65 ty64 (.slice (some ⟨wf.heap.size, 0, none⟩) ([(5, 18, 0, 1, 7, 0)] : List (Int × Int × Int × Int × Int × Int)).length ([(5, 18, 0, 1, 7, 0)] : List (Int × Int × Int × Int × Int × Int)).length) ([(5, 18, 0, 1, 7, 0)] : List (Int × Int × Int × Int × Int × Int)), .ro ty64 (.slice ao2 z2.1.length cp2) z2.1, .ro (tI .u8) (.slice ao1 z1.length cp1) z1] := hs.newRow ho hx
                          clear ho hx
                          exact fq_ok (d := 54) rfl hf (hs.ex fun _ h => h) ⟨(some ⟨wf.heap.size, 0, none⟩), ([(5, 18, 0, 1, 7, 0)] : List (Int × Int × Int × Int × Int × Int)).length, _, hf.1, (hs.sel [0] rfl rfl).rebase hX⟩
                        · intro a wf hX hf hd
                          obtain ⟨ao3, cp3, F_54, e_54, h_54⟩ : ∃ (ao3 : Option Addr) (cp3 : Nat) (F' : SH), a.tmps.getD 54 undef = .slice ao3 ([(5, 18, 0, 1, 7, 0)] : List (Int × Int × Int × Int × Int × Int)).length cp3 ∧ Sep w4 F5 noR wf F' [.row 65 ty64 (.slice ao3 ([(5, 18, 0, 1, 7, 0)] : List (Int × Int × Int × Int × Int × Int)).length cp3) ([(5, 18, 0, 1, 7, 0)] : List (Int × Int × Int × Int × Int × Int))] := hd 41 54 (by kernel_rfl) (by kernel_rfl)
                          have e_52 : a.tmps.getD 52 undef = .bool z5 := hd 39 52 (by kernel_rfl) (by kernel_rfl)
                          rw [hb8] at e_52
                          replace hf : Fr 65 [(54, .slice ao3 ([(5, 18, 0, 1, 7, 0)] : List (Int × Int × Int × Int × Int × Int)).length cp3), (52, .bool true), (1, .pointer (some ⟨w.heap.size, 0, none⟩)), (2, .slice ao1 z1.length cp1), (3, .slice ao2 z2.1.length cp2), (4, .int .i64 z2.2)] a := ⟨e_54, e_52, hf⟩; clear e_54 e_52
                          clear hd
                          have hs : Sep wf (star F5 w4 wf) noR wf (star F5 w4 wf) [.ro ty64 (.slice ao2 z2.1.length cp2) z2.1, .ro (tI .u8) (.slice ao1 z1.length cp1) z1] := hs0.fstart hX [0, 1] rfl rfl
                          replace hs : Sep wf (star F5 w4 wf) noR wf (star F5 w4 wf) [.ro ty64 (.slice ao3 ([(5, 18, 0, 1, 7, 0)] : List (Int × Int × Int × Int × Int × Int)).length cp3) ([(5, 18, 0, 1, 7, 0)] : List (Int × Int × Int × Int × Int × Int)), .ro ty64 (.slice ao2 z2.1.length cp2) z2.1, .ro (tI .u8) (.slice ao1 z1.length cp1) z1] := hs.addStar h_54 0 rfl rfl
                          clear h_54
                          refine clV ent33 (vs := [.slice ao3 ([(5, 18, 0, 1, 7, 0)] : List (Int × Int × Int × Int × Int × Int)).length cp3]) (caps := []) hf (by kernel_rfl) (by kernel_rfl) (by kernel_rfl) (by kernel_rfl) (symbols_Check_ok (p_l := ([(5, 18, 0, 1, 7, 0)] : List (Int × Int × Int × Int × Int × Int))) (hs.enter [0] rfl rfl) hz6) ?_
                          clear hf; clear a; intro v w9 a hT hf; obtain ⟨F9, rfl, hr⟩ := hT
                          replace hs : Sep wf (star F5 w4 wf) noR w9 F9 [.ro ty64 (.slice ao3 ([(5, 18, 0, 1, 7, 0)] : List (Int × Int × Int × Int × Int × Int)).length cp3) ([(5, 18, 0, 1, 7, 0)] : List (Int × Int × Int × Int × Int × Int)), .ro ty64 (.slice ao2 z2.1.length cp2) z2.1, .ro (tI .u8) (.slice ao1 z1.length cp1) z1] := hs.back [0] [0, 1, 2] rfl rfl rfl rfl hr
                          clear hr
                          exact fq_ok (d := 55) rfl hf (hs.ex fun _ h => h) hf.1
                        · intro a wf hX hf hd
                          have e_55 : a.tmps.getD 55 undef = .int .i64 z6 := hd 42 55 (by kernel_rfl) (by kernel_rfl)
                          have e_52 : a.tmps.getD 52 undef = .bool z5 := hd 39 52 (by kernel_rfl) (by kernel_rfl)
                          rw [hb8] at e_52
                          replace hf : Fr 65 [(55, .int .i64 z6), (52, .bool true), (1, .pointer (some ⟨w.heap.size, 0, none⟩)), (2, .slice ao1 z1.length cp1), (3, .slice ao2 z2.1.length cp2), (4, .int .i64 z2.2)] a := ⟨e_55, e_52, hf⟩; clear e_55 e_52
                          clear hd
                          have hs : Sep wf (star F5 w4 wf) noR wf (star F5 w4 wf) [.ro ty64 (.slice ao2 z2.1.length cp2) z2.1, .ro (tI .u8) (.slice ao1 z1.length cp1) z1] := hs0.fstart hX [0, 1] rfl rfl
                          refine st tbOk 1 [56] (L' := [(56, .bool (z6 == 11))]) hf (by kernel_rfl) ?_
                          clear hf; clear a; intro a hf
                          exact fq_ok (d := 56) rfl hf (hs.ex fun _ h => h) hf.1
                        · intro a wf hX hf hd
                          have e_52 : a.tmps.getD 52 undef = .bool z5 := hd 39 52 (by kernel_rfl) (by kernel_rfl)
                          rw [hb8] at e_52
                          have e_56 : a.tmps.getD 56 undef = .bool (z6 == 11) := hd 43 56 (by kernel_rfl) (by kernel_rfl)
                          replace hf : Fr 65 [(52, .bool true), (56, .bool (z6 == 11)), (1, .pointer (some ⟨w.heap.size, 0, none⟩)), (2, .slice ao1 z1.length cp1), (3, .slice ao2 z2.1.length cp2), (4, .int .i64 z2.2)] a := ⟨e_52, e_56, hf⟩; clear e_52 e_56
                          clear hd
                          have hs : Sep wf (star F5 w4 wf) noR wf (star F5 w4 wf) [.ro ty64 (.slice ao2 z2.1.length cp2) z2.1, .ro (tI .u8) (.slice ao1 z1.length cp1) z1] := hs0.fstart hX [0, 1] rfl rfl
                          refine st tbOk 1 [57] (L' := [(57, .bool (z6 == 11))]) hf (by kernel_rfl) ?_
                          clear hf; clear a; intro a hf
                          exact fq_ok (d := 57) rfl hf (hs.ex fun _ h => h) hf.1
                        · intro a wf hX hf hd
                          have e_57 : a.tmps.getD 57 undef = .bool (z6 == 11) := hd 44 57 (by kernel_rfl) (by kernel_rfl)
                          replace hf : Fr 65 [(57, .bool (z6 == 11)), (1, .pointer (some ⟨w.heap.size, 0, none⟩)), (2, .slice ao1 z1.length cp1), (3, .slice ao2 z2.1.length cp2), (4, .int .i64 z2.2)] a := ⟨e_57, hf⟩; clear e_57
                          clear hd
                          have hs : Sep wf (star F5 w4 wf) noR wf (star F5 w4 wf) [.ro ty64 (.slice ao2 z2.1.length cp2) z2.1, .ro (tI .u8) (.slice ao1 z1.length cp1) z1] := hs0.fstart hX [0, 1] rfl rfl
                          refine st tbOk 1 [58] (L' := [(58, .bool (z6 == 11))]) hf (by kernel_rfl) ?_
                          clear hf; clear a; intro a hf
                          exact fq_ok (d := 58) rfl hf (hs.ex fun _ h => h) hf.1
                        · intro a wf hX hf hd
                          have e_58 : a.tmps.getD 58 undef = .bool (z6 == 11) := hd 45 58 (by kernel_rfl) (by kernel_rfl)
                          rw [hb9] at e_58
                          replace hf : Fr 65 [(58, .bool true), (1, .pointer (some ⟨w.heap.size, 0, none⟩)), (2, .slice ao1 z1.length cp1), (3, .slice ao2 z2.1.length cp2), (4, .int .i64 z2.2)] a := ⟨e_58, hf⟩; clear e_58
                          clear hd
                          have hs : Sep wf (star F5 w4 wf) noR wf (star F5 w4 wf) [.ro ty64 (.slice ao2 z2.1.length cp2) z2.1, .ro (tI .u8) (.slice ao1 z1.length cp1) z1] := hs0.fstart hX [0, 1] rfl rfl
                          refine st tbOk 1 [59] (L' := [(59, .agg #[.int .u32 0, .int .u8 0, .int .u8 0, .int .u16 0, .int .u64 0, .int .u64 0])]) hf (by kernel_rfl) ?_
                          clear hf; clear a; intro a hf
                          exact fq_ok (d := 59) rfl hf (hs.ex fun _ h => h) hf.1
                        · intro a wf hX hf hd
                          have e_58 : a.tmps.getD 58 undef = .bool (z6 == 11) := hd 45 58 (by kernel_rfl) (by kernel_rfl)
                          rw [hb9] at e_58
                          replace hf : Fr 65 [(58, .bool true), (1, .pointer (some ⟨w.heap.size, 0, none⟩)), (2, .slice ao1 z1.length cp1), (3, .slice ao2 z2.1.length cp2), (4, .int .i64 z2.2)] a := ⟨e_58, hf⟩; clear e_58
                          clear hd
                          have hs : Sep wf (star F5 w4 wf) noR wf (star F5 w4 wf) [.ro ty64 (.slice ao2 z2.1.length cp2) z2.1, .ro (tI .u8) (.slice ao1 z1.length cp1) z1] := hs0.fstart hX [0, 1] rfl rfl
                          refine ldC tbOk (T := 65) ((hs0.cbx 2 rfl).mono hX.le) (LeH.refl _) 0 (.agg #[.int .u32 5, .int .u8 18, .int .u8 0, .int .u16 1, .int .u64 7, .int .u64 0]) hf (by kernel_rfl) (by kernel_rfl) (by kernel_rfl) (by kernel_rfl) ?_
                          clear hf; clear a; intro a hf
                          exact fq_ok (d := 60) rfl hf (hs.ex fun _ h => h) hf.1
                        · intro a wf hX hf hd
                          have e_59 : a.tmps.getD 59 undef = .agg #[.int .u32 0, .int .u8 0, .int .u8 0, .int .u16 0, .int .u64 0, .int .u64 0] := hd 46 59 (by kernel_rfl) (by kernel_rfl)
                          have e_60 : a.tmps.getD 60 undef = .agg #[.int .u32 5, .int .u8 18, .int .u8 0, .int .u16 1, .int .u64 7, .int .u64 0] := hd 47 60 (by kernel_rfl) (by kernel_rfl)
                          have e_58 : a.tmps.getD 58 undef = .bool (z6 == 11) := hd 45 58 (by kernel_rfl) (by kernel_rfl)
                          rw [hb9] at e_58
                          replace hf : Fr 65 [(59, .agg #[.int .u32 0, .int .u8 0, .int .u8 0, .int .u16 0, .int .u64 0, .int .u64 0]), (60, .agg #[.int .u32 5, .int .u8 18, .int .u8 0, .int .u16 1, .int .u64 7, .int .u64 0]), (58, .bool true), (1, .pointer (some ⟨w.heap.size, 0, none⟩)), (2, .slice ao1 z1.length cp1), (3, .slice ao2 z2.1.length cp2), (4, .int .i64 z2.2)] a := ⟨e_59, e_60, e_58, hf⟩; clear e_59 e_60 e_58
                          clear hd
                          have hs : Sep wf (star F5 w4 wf) noR wf (star F5 w4 wf) [.ro ty64 (.slice ao2 z2.1.length cp2) z2.1, .ro (tI .u8) (.slice ao1 z1.length cp1) z1] := hs0.fstart hX [0, 1] rfl rfl
                          refine bsR tbOk u69 i65 rfl (t := ty64) (vs := [(0, .agg #[.int .u32 0, .int .u8 0, .int .u8 0, .int .u16 0, .int .u64 0, .int .u64 0]), (1, .agg #[.int .u32 5, .int .u8 18, .int .u8 0, .int .u16 1, .int .u64 7, .int .u64 0])]) (cells := #[.int .u32 0, .int .u8 0, .int .u8 0, .int .u16 0, .int .u64 0, .int .u64 0, .int .u32 5, .int .u8 18, .int .u8 0, .int .u16 1, .int .u64 7, .int .u64 0]) ([(0, 0, 0, 0, 0, 0), (5, 18, 0, 1, 7, 0)] : List (Int × Int × Int × Int × Int × Int)) hs.le hf (by kernel_rfl) (by kernel_rfl) (by kernel_rfl) rfl (by kernel_rfl) (reps_flat _) rfl ?_
                          clear hf; clear a; intro w10 a ho hx hf
                          replace hs : Sep wf (star F5 w4 wf) noR w10 (star F5 w4 wf) [.row 65 ty64 (.slice (some ⟨wf.heap.size, 0, none⟩) ([(0, 0, 0, 0, 0, 0), (5, 18, 0, 1, 7, 0)] : List (Int × Int × Int × Int × Int × Int)).length ([(0, 0, 0, 0, 0, 0), (5, 18, 0, 1, 7, 0)] : List (Int × Int × Int × Int × Int × Int)).length) ([(0, 0, 0, 0, 0, 0), (5, 18, 0, 1, 7, 0)] : List (Int × Int × Int × Int × Int × Int)), .ro ty64 (.slice ao2 z2.1.length cp2) z2.1, .ro (tI .u8) (.slice ao1 z1.length cp1) z1] := hs.newRow ho hx
                          clear ho hx
                          exact fq_ok (d := 61) rfl hf (hs.ex fun _ h => h) ⟨(some ⟨wf.heap.size, 0, none⟩), ([(0, 0, 0, 0, 0, 0), (5, 18, 0, 1, 7, 0)] : List (Int × Int × Int × Int × Int × Int)).length, _, hf.1, (hs.sel [0] rfl rfl).rebase hX⟩
                        · intro a wf hX hf hd
                          obtain ⟨ao4, cp4, F_61, e_61, h_61⟩ : ∃ (ao4 : Option Addr) (cp4 : Nat) (F' : SH), a.tmps.getD 61 undef = .slice ao4 ([(0, 0, 0, 0, 0, 0), (5, 18, 0, 1, 7, 0)] : List (Int × Int × Int × Int × Int × Int)).length cp4 ∧ Sep w4 F5 noR wf F' [.row 65 ty64 (.slice ao4 ([(0, 0, 0, 0, 0, 0), (5, 18, 0, 1, 7, 0)] : List (Int × Int × Int × Int × Int × Int)).length cp4) ([(0, 0, 0, 0, 0, 0), (5, 18, 0, 1, 7, 0)] : List (Int × Int × Int × Int × Int × Int))] := hd 48 61 (by kernel_rfl) (by kernel_rfl)
                          have e_58 : a.tmps.getD 58 undef = .bool (z6 == 11) := hd 45 58 (by kernel_rfl) (by kernel_rfl)
                          rw [hb9] at e_58
                          replace hf : Fr 65 [(61, .slice ao4 ([(0, 0, 0, 0, 0, 0), (5, 18, 0, 1, 7, 0)] : List (Int × Int × Int × Int × Int × Int)).length cp4), (58, .bool true), (1, .pointer (some ⟨w.heap.size, 0, none⟩)), (2, .slice ao1 z1.length cp1), (3, .slice ao2 z2.1.length cp2), (4, .int .i64 z2.2)] a := ⟨e_61, e_58, hf⟩; clear e_61 e_58
                          clear hd
                          have hs : Sep wf (star F5 w4 wf) noR wf (star F5 w4 wf) [.ro ty64 (.slice ao2 z2.1.length cp2) z2.1, .ro (tI .u8) (.slice ao1 z1.length cp1) z1] := hs0.fstart hX [0, 1] rfl rfl
                          replace hs : Sep wf (star F5 w4 wf) noR wf (star F5 w4 wf) [.ro ty64 (.slice ao4 ([(0, 0, 0, 0, 0, 0), (5, 18, 0, 1, 7, 0)] : List (Int × Int × Int × Int × Int × Int)).length cp4) ([(0, 0, 0, 0, 0, 0), (5, 18, 0, 1, 7, 0)] : List (Int × Int × Int × Int × Int × Int)), .ro ty64 (.slice ao2 z2.1.length cp2) z2.1, .ro (tI .u8) (.slice ao1 z1.length cp1) z1] := hs.addStar h_61 0 rfl rfl
                          clear h_61
                          refine clV ent33 (vs := [.slice ao4 ([(0, 0, 0, 0, 0, 0), (5, 18, 0, 1, 7, 0)] : List (Int × Int × Int × Int × Int × Int)).length cp4]) (caps := []) hf (by kernel_rfl) (by kernel_rfl) (by kernel_rfl) (by kernel_rfl) (symbols_Check_ok (p_l := ([(0, 0, 0, 0, 0, 0), (5, 18, 0, 1, 7, 0)] : List (Int × Int × Int × Int × Int × Int))) (hs.enter [0] rfl rfl) hz7) ?_
                          clear hf; clear a; intro v w11 a hT hf; obtain ⟨F10, rfl, hr⟩ := hT
                          replace hs : Sep wf (star F5 w4 wf) noR w11 F10 [.ro ty64 (.slice ao4 ([(0, 0, 0, 0, 0, 0), (5, 18, 0, 1, 7, 0)] : List (Int × Int × Int × Int × Int × Int)).length cp4) ([(0, 0, 0, 0, 0, 0), (5, 18, 0, 1, 7, 0)] : List (Int × Int × Int × Int × Int × Int)), .ro ty64 (.slice ao2 z2.1.length cp2) z2.1, .ro (tI .u8) (.slice ao1 z1.length cp1) z1] := hs.back [0] [0, 1, 2] rfl rfl rfl rfl hr
                          clear hr
                          exact fq_ok (d := 62) rfl hf (hs.ex fun _ h => h) hf.1
                        · intro a wf hX hf hd
                          have e_62 : a.tmps.getD 62 undef = .int .i64 z7 := hd 49 62 (by kernel_rfl) (by kernel_rfl)
                          have e_58 : a.tmps.getD 58 undef = .bool (z6 == 11) := hd 45 58 (by kernel_rfl) (by kernel_rfl)
                          rw [hb9] at e_58
                          replace hf : Fr 65 [(62, .int .i64 z7), (58, .bool true), (1, .pointer (some ⟨w.heap.size, 0, none⟩)), (2, .slice ao1 z1.length cp1), (3, .slice ao2 z2.1.length cp2), (4, .int .i64 z2.2)] a := ⟨e_62, e_58, hf⟩; clear e_62 e_58
                          clear hd
                          have hs : Sep wf (star F5 w4 wf) noR wf (star F5 w4 wf) [.ro ty64 (.slice ao2 z2.1.length cp2) z2.1, .ro (tI .u8) (.slice ao1 z1.length cp1) z1] := hs0.fstart hX [0, 1] rfl rfl
                          refine st tbOk 1 [63] (L' := [(63, .bool (z7 == 0))]) hf (by kernel_rfl) ?_
                          clear hf; clear a; intro a hf
                          exact fq_ok (d := 63) rfl hf (hs.ex fun _ h => h) hf.1
                        · intro a wf hX hf hd
                          have e_58 : a.tmps.getD 58 undef = .bool (z6 == 11) := hd 45 58 (by kernel_rfl) (by kernel_rfl)
                          rw [hb9] at e_58
                          have e_63 : a.tmps.getD 63 undef = .bool (z7 == 0) := hd 50 63 (by kernel_rfl) (by kernel_rfl)
                          replace hf : Fr 65 [(58, .bool true), (63, .bool (z7 == 0)), (1, .pointer (some ⟨w.heap.size, 0, none⟩)), (2, .slice ao1 z1.length cp1), (3, .slice ao2 z2.1.length cp2), (4, .int .i64 z2.2)] a := ⟨e_58, e_63, hf⟩; clear e_58 e_63
                          clear hd
                          have hs : Sep wf (star F5 w4 wf) noR wf (star F5 w4 wf) [.ro ty64 (.slice ao2 z2.1.length cp2) z2.1, .ro (tI .u8) (.slice ao1 z1.length cp1) z1] := hs0.fstart hX [0, 1] rfl rfl
                          refine st tbOk 1 [64] (L' := [(64, .bool (z7 == 0))]) hf (by kernel_rfl) ?_
                          clear hf; clear a; intro a hf
                          exact fq_ok (d := 64) rfl hf (hs.ex fun _ h => h) hf.1
                        · intro a wf hX hf hd
                          have e_64 : a.tmps.getD 64 undef = .bool (z7 == 0) := hd 51 64 (by kernel_rfl) (by kernel_rfl)
                          replace hf : Fr 65 [(64, .bool (z7 == 0)), (1, .pointer (some ⟨w.heap.size, 0, none⟩)), (2, .slice ao1 z1.length cp1), (3, .slice ao2 z2.1.length cp2), (4, .int .i64 z2.2)] a := ⟨e_64, hf⟩; clear e_64
                          clear hd
                          have hs : Sep wf (star F5 w4 wf) noR wf (star F5 w4 wf) [.ro ty64 (.slice ao2 z2.1.length cp2) z2.1, .ro (tI .u8) (.slice ao1 z1.length cp1) z1] := hs0.fstart hX [0, 1] rfl rfl
                          refine st tbOk 1 [0] (L' := [(0, .bool (z7 == 0))]) hf (by kernel_rfl) ?_
                          clear hf; clear a; intro a hf
                          exact fq_ok (d := 0) rfl hf (hs.ex fun _ h => h) hf.1
                      · clear hf hs; clear a; intro a w12 hx hf hd
                        have hs : Sep w F R w12 (star F5 w4 w12) [.ro ty64 (.slice ao2 z2.1.length cp2) z2.1, .ro (tI .u8) (.slice ao1 z1.length cp1) z1, .box w.heap.size 65 [.int .u32 5, .int .u8 18, .int .u8 0, .int .u16 1, .int .u64 7, .int .u64 0]] := hs0.starX hx
                        have e_0 : a.tmps.getD 0 undef = .bool (z7 == 0) := hd 52 0 (by kernel_rfl) (by kernel_rfl)
                        clear hd hx
                        clear hs0
                        replace hf : Fr 65 [(0, .bool (z7 == 0)), (1, .pointer (some ⟨w.heap.size, 0, none⟩)), (2, .slice ao1 z1.length cp1), (3, .slice ao2 z2.1.length cp2), (4, .int .i64 z2.2)] a := ⟨e_0, hf⟩
                        clear e_0
                        replace hs : Sep w F R w12 (star F5 w4 w12) [] := hs.sel [] rfl rfl
                        replace hf := Fr.keep (ks := [0]) (L' := [(0, .bool (z7 == 0))]) hf (by kernel_rfl)
                        refine wpList_nil ?_
                        exact hK1 (z7 == 0) _ _ ⟨_, hs.sel [] rfl rfl, hf.keep (ks := [0]) (by kernel_rfl)⟩ hS
                    · have hk : ((symbols_Put (5, 18, 0, 1, 7, 0)).bind fun z1 => (symbols_Table z1).bind fun z2 => (symbols_Check ([(5, 18, 0, 1, 7, 0)] : List (Int × Int × Int × Int × Int × Int))).bind fun z6 => some (z6 == 11)) = some true := by kernel_rfl
                      rw [bdz hz1, bdz hz2, bdz hz6] at hk
                      exact Bool.noConfusion (hb9.symm.trans (Option.some.inj hk))
                  · have hk : ((symbols_Put (5, 18, 0, 1, 7, 0)).bind fun z1 => (symbols_Table z1).bind fun z2 => (symbols_Defined (5, 18, 0, 1, 7, 0)).bind fun z5 => some (z5)) = some true := by kernel_rfl
                    rw [bdz hz1, bdz hz2, bdz hz5] at hk
                    exact Bool.noConfusion (hb8.symm.trans (Option.some.inj hk))
                · have hk : ((symbols_Put (5, 18, 0, 1, 7, 0)).bind fun z1 => (symbols_Table z1).bind fun z2 => (symbols_Kind (5, 18, 0, 1, 7, 0)).bind fun z4 => some (z4 == 2)) = some true := by kernel_rfl
                  rw [bdz hz1, bdz hz2, bdz hz4] at hk
                  exact Bool.noConfusion (hb7.symm.trans (Option.some.inj hk))
              · have hk : ((symbols_Put (5, 18, 0, 1, 7, 0)).bind fun z1 => (symbols_Table z1).bind fun z2 => (symbols_Bind (5, 18, 0, 1, 7, 0)).bind fun z3 => some (z3 == 1)) = some true := by kernel_rfl
                rw [bdz hz1, bdz hz2, bdz hz3] at hk
                exact Bool.noConfusion (hb6.symm.trans (Option.some.inj hk))
            · have hk : ((symbols_Put (5, 18, 0, 1, 7, 0)).bind fun z1 => (symbols_Table z1).bind fun z2 => some ((((gt z2.1 0).1) == 5) && ((((gt z2.1 0).2.1) == 18) && ((((gt z2.1 0).2.2.1) == 0) && ((((gt z2.1 0).2.2.2.1) == 1) && ((((gt z2.1 0).2.2.2.2.1) == 7) && (((gt z2.1 0).2.2.2.2.2) == 0))))))) = some true := by kernel_rfl
              rw [bdz hz1, bdz hz2] at hk
              exact Bool.noConfusion (hb5.symm.trans (Option.some.inj hk))
          · have hk : ((symbols_Put (5, 18, 0, 1, 7, 0)).bind fun z1 => (symbols_Table z1).bind fun z2 => some (((z2.1.length : Nat) : Int) == 1)) = some true := by kernel_rfl
            rw [bdz hz1, bdz hz2] at hk
            exact Bool.noConfusion (hb4.symm.trans (Option.some.inj hk))
        · have hk : ((symbols_Put (5, 18, 0, 1, 7, 0)).bind fun z1 => (symbols_Table z1).bind fun z2 => some (z2.2 == 0)) = some true := by kernel_rfl
          rw [bdz hz1, bdz hz2] at hk
          exact Bool.noConfusion (hb3.symm.trans (Option.some.inj hk))
      · have hk : ((symbols_Put (5, 18, 0, 1, 7, 0)).bind fun z1 => (symbols_Table z1).bind fun z2 => some ((gt z1 0) == 5)) = some true := by kernel_rfl
        rw [bdz hz1, bdz hz2] at hk
        exact Bool.noConfusion (hb2.symm.trans (Option.some.inj hk))
    · have hk : ((symbols_Put (5, 18, 0, 1, 7, 0)).bind fun z1 => (symbols_Table z1).bind fun z2 => some (((z1.length : Nat) : Int) == 24)) = some true := by kernel_rfl
      rw [bdz hz1, bdz hz2] at hk
      exact Bool.noConfusion (hb1.symm.trans (Option.some.inj hk))

end Dm
