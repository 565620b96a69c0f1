/-
  The walks: a call of each Go function gives what its shallow form gives, where that form gives something; printed by a program of this repo. No condition.
-/
import Derived.Test.YtmlghbdlhjinaaaWT
namespace Dm
open Go Go.RowKit Go.Proofs

set_option maxHeartbeats 4000000 in
theorem ref01_Inside_ok {w : World} {F : SH} {p_many : Int} {p_at : Int} {size : Int}  (hs : Sep w F (blks []) w F []) {r : Bool} (hS : ref01_Inside p_many p_at size = some r) :
    Calls Try.prog 43 [.int .i64 p_many, .int .u64 p_at, .int .u64 size].toArray w (Gives (fun u w' => ∃ (F' : SH), u = .bool r ∧ Sep w F (blks []) w' F' [])) := by
  generalize (blks []) = R at hs ⊢
  unfold ref01_Inside at hS
  refine fn_ok (vs := [.int .i64 p_many, .int .u64 p_at, .int .u64 size]) Try.func43 rfl 17 Try.ntmps43 (Nat.le_of_ble_eq_true rfl) ?_
  intro a hf
  replace hf := Fr.cast (L' := [(0, .int .i64 p_many), (1, .int .u64 p_at), (2, .int .u64 size)]) hf (by kernel_rfl)
  refine sq ?_
  refine reg ?_
  refine st tbOk 1 [0, 1, 2] (L' := [(0, .int .i64 p_many), (1, .int .u64 p_at), (2, .int .u64 size)]) hf (by kernel_rfl) ?_
  clear hf; clear a; intro a hf
  refine wpList_nil ?_
  refine sq ?_
  refine sq ?_
  refine reg ?_
  refine st tbOk 4 [0, 1, 2, 10] (L' := [(0, .int .i64 p_many), (1, .int .u64 p_at), (2, .int .u64 size), (10, .bool (decide (p_at > (IntKind.u64.wrap p_many))))]) hf (by kernel_rfl) ?_
  clear hf; clear a; intro a hf
  refine wpList_nil ?_
  refine cnd (b := decide (p_at > (IntKind.u64.wrap p_many))) hf (by kernel_rfl) (fun hb1 => ?_) (fun hb1 => ?_)
  · replace hS := of_t hb1 hS
    refine sq ?_
    refine reg ?_
    refine st tbOk 1 [6] (L' := [(6, .bool false)]) hf (by kernel_rfl) ?_
    clear hf; clear a; intro a hf
    refine wpList_nil ?_
    have hr := Option.some.inj hS; subst hr
    refine wp_ret ?_
    exact ret_ok hf (vs := [.bool false]) (by kernel_rfl) ⟨_, rfl, hs.sel [] rfl rfl⟩
  · replace hS := of_f hb1 hS
    refine wp_skip ?_
    refine sq ?_
    refine reg ?_
    refine st tbOk 7 [6] (L' := [(6, .bool (decide (size ≤ (IntKind.u64.wrap ((IntKind.u64.wrap p_many) - p_at)))))]) hf (by kernel_rfl) ?_
    clear hf; clear a; intro a hf
    refine wpList_nil ?_
    have hr := Option.some.inj hS; subst hr
    refine wp_ret ?_
    exact ret_ok hf (vs := [.bool (decide (size ≤ (IntKind.u64.wrap ((IntKind.u64.wrap p_many) - p_at))))]) (by kernel_rfl) ⟨_, rfl, hs.sel [] rfl rfl⟩

set_option maxHeartbeats 4000000 in
theorem ref01_width_ok {w : World} {F : SH} {n : Int}  (hs : Sep w F (blks []) w F []) {r : Bool} (hS : ref01_width n = some r) :
    Calls Try.prog 51 [.int .i64 n].toArray w (Gives (fun u w' => ∃ (F' : SH), u = .bool r ∧ Sep w F (blks []) w' F' [])) := by
  generalize (blks []) = R at hs ⊢
  unfold ref01_width at hS
  refine fn_ok (vs := [.int .i64 n]) Try.func51 rfl 17 Try.ntmps51 (Nat.le_of_ble_eq_true rfl) ?_
  intro a hf
  replace hf := Fr.cast (L' := [(0, .int .i64 n)]) hf (by kernel_rfl)
  refine sq ?_
  refine reg ?_
  refine st tbOk 1 [0] (L' := [(0, .int .i64 n)]) hf (by kernel_rfl) ?_
  clear hf; clear a; intro a hf
  refine wpList_nil ?_
  refine sq ?_
  refine ctj (fun (s1 : Bool) (a : Act) (w' : World) => ∃ (F1 : SH), Sep w F R w' F1 [] ∧ Fr 17 [(2, .bool s1)] a) hS ?_ ?_
  · clear hS hf hs; clear a; intro s1 a w1 hM hS
    obtain ⟨F1, hs, hf⟩ := hM
    have hr := Option.some.inj hS; subst hr
    refine wp_ret ?_
    exact ret_ok hf (vs := [.bool s1]) (by kernel_rfl) ⟨_, rfl, hs.sel [] rfl rfl⟩
  · clear hS; intro KK1 k1 hK1 hS
    refine reg ?_
    refine st tbOk 3 [0, 5] (L' := [(0, .int .i64 n), (5, .bool (n == 1))]) hf (by kernel_rfl) ?_
    clear hf; clear a; intro a hf
    rcases Bool.eq_false_or_eq_true (n == 1) with hb1 | hb1
    · replace hS := of_t hb1 hS
      replace hf := Fr.cast (L' := [(0, .int .i64 n), (5, .bool true)]) hf (by rw [hb1])
      refine st tbOk 12 [2] (L' := [(2, .bool true)]) hf (by kernel_rfl) ?_
      clear hf; clear a; intro a hf
      refine wpList_nil ?_
      exact hK1 true _ _ ⟨_, hs.sel [] rfl rfl, hf.keep (ks := [2]) (by kernel_rfl)⟩ hS
    · replace hS := of_f hb1 hS
      replace hf := Fr.cast (L' := [(0, .int .i64 n), (5, .bool false)]) hf (by rw [hb1])
      refine st tbOk 4 [0, 9] (L' := [(0, .int .i64 n), (9, .bool (n == 2))]) hf (by kernel_rfl) ?_
      clear hf; clear a; intro a hf
      rcases Bool.eq_false_or_eq_true (n == 2) with hb2 | hb2
      · replace hS := of_t hb2 hS
        replace hf := Fr.cast (L' := [(0, .int .i64 n), (9, .bool true)]) hf (by rw [hb2])
        refine st tbOk 8 [2] (L' := [(2, .bool true)]) hf (by kernel_rfl) ?_
        clear hf; clear a; intro a hf
        refine wpList_nil ?_
        exact hK1 true _ _ ⟨_, hs.sel [] rfl rfl, hf.keep (ks := [2]) (by kernel_rfl)⟩ hS
      · replace hS := of_f hb2 hS
        replace hf := Fr.cast (L' := [(0, .int .i64 n), (9, .bool false)]) hf (by rw [hb2])
        refine st tbOk 4 [0, 13] (L' := [(0, .int .i64 n), (13, .bool (n == 4))]) hf (by kernel_rfl) ?_
        clear hf; clear a; intro a hf
        rcases Bool.eq_false_or_eq_true (n == 4) with hb3 | hb3
        · replace hS := of_t hb3 hS
          replace hf := Fr.cast (L' := [(0, .int .i64 n), (13, .bool true)]) hf (by rw [hb3])
          refine st tbOk 4 [2] (L' := [(2, .bool true)]) hf (by kernel_rfl) ?_
          clear hf; clear a; intro a hf
          refine wpList_nil ?_
          exact hK1 true _ _ ⟨_, hs.sel [] rfl rfl, hf.keep (ks := [2]) (by kernel_rfl)⟩ hS
        · replace hS := of_f hb3 hS
          replace hf := Fr.cast (L' := [(0, .int .i64 n), (13, .bool false)]) hf (by rw [hb3])
          refine st tbOk 4 [2] (L' := [(2, .bool (n == 8))]) hf (by kernel_rfl) ?_
          clear hf; clear a; intro a hf
          refine wpList_nil ?_
          exact hK1 (n == 8) _ _ ⟨_, hs.sel [] rfl rfl, hf.keep (ks := [2]) (by kernel_rfl)⟩ hS

set_option maxHeartbeats 4000000 in
theorem ref01_Get_ok {w : World} {F : SH} {b : List Int} {p_at : Int} {n : Int} {ao1 : Option Addr} {cp1 : Nat} (hs : Sep w F (blks [.ro (tI .u8) (.slice ao1 b.length cp1) b]) w F [.ro (tI .u8) (.slice ao1 b.length cp1) b]) {r : Int × Int} (hS : ref01_Get b p_at n = some r) :
    Calls Try.prog 44 [.slice ao1 b.length cp1, .int .u64 p_at, .int .i64 n].toArray w (Gives (fun u w' => ∃ (F' : SH), u = .tuple #[.int .u64 r.1, .int .i64 r.2] ∧ Sep w F (blks [.ro (tI .u8) (.slice ao1 b.length cp1) b]) w' F' [])) := by
  generalize (blks [.ro (tI .u8) (.slice ao1 b.length cp1) b]) = R at hs ⊢
  unfold ref01_Get at hS
  refine fn_ok (vs := [.slice ao1 b.length cp1, .int .u64 p_at, .int .i64 n]) Try.func44 rfl 41 Try.ntmps44 (Nat.le_of_ble_eq_true rfl) ?_
  intro a hf
  replace hf := Fr.cast (L' := [(0, .slice ao1 b.length cp1), (1, .int .u64 p_at), (2, .int .i64 n)]) hf (by kernel_rfl)
  refine sq ?_
  refine reg ?_
  refine st tbOk 2 [0, 1, 2] (L' := [(0, .slice ao1 b.length cp1), (1, .int .u64 p_at), (2, .int .i64 n)]) hf (by kernel_rfl) ?_
  clear hf; clear a; intro a hf
  refine wpList_nil ?_
  refine sq ?_
  refine reg ?_
  refine st tbOk 1 [0, 1, 2, 11] (L' := [(0, .slice ao1 b.length cp1), (1, .int .u64 p_at), (2, .int .i64 n), (11, .int .i64 n)]) hf (by kernel_rfl) ?_
  clear hf; clear a; intro a hf
  have hT := of_bd hS; clear hS; obtain ⟨z1, hz1, hS⟩ := hT
  refine clV ent51 (vs := [.int .i64 n]) (caps := []) hf (by kernel_rfl) (by kernel_rfl) (by kernel_rfl) (by kernel_rfl) (ref01_width_ok (n := n) (hs.enter [] rfl rfl) hz1) ?_
  clear hf; clear a; intro v w1 a hT hf; obtain ⟨F1, rfl, hr⟩ := hT
  replace hs : Sep w F R w1 F1 [.ro (tI .u8) (.slice ao1 b.length cp1) b] := hs.back [] [0] rfl rfl rfl rfl hr
  clear hr
  replace hf := Fr.keep (ks := [0, 1, 2, 12]) (L' := [(0, .slice ao1 b.length cp1), (1, .int .u64 p_at), (2, .int .i64 n), (12, .bool z1)]) hf (by kernel_rfl)
  refine st tbOk 1 [0, 1, 2, 8] (L' := [(0, .slice ao1 b.length cp1), (1, .int .u64 p_at), (2, .int .i64 n), (8, .bool z1)]) hf (by kernel_rfl) ?_
  clear hf; clear a; intro a hf
  refine wpList_nil ?_
  refine sq ?_
  refine sq ?_
  refine reg ?_
  refine st tbOk 2 [0, 1, 2, 14] (L' := [(0, .slice ao1 b.length cp1), (1, .int .u64 p_at), (2, .int .i64 n), (14, .bool (!z1))]) hf (by kernel_rfl) ?_
  clear hf; clear a; intro a hf
  refine wpList_nil ?_
  refine cnd (b := !z1) hf (by kernel_rfl) (fun hb1 => ?_) (fun hb1 => ?_)
  · replace hS := of_t hb1 hS
    refine sq ?_
    refine reg ?_
    refine st tbOk 2 [6, 7] (L' := [(6, .int .u64 0), (7, .int .i64 1)]) hf (by kernel_rfl) ?_
    clear hf; clear a; intro a hf
    refine wpList_nil ?_
    have hr := Option.some.inj hS; subst hr
    refine wp_ret ?_
    exact ret_ok hf (vs := [.int .u64 0, .int .i64 1]) (by kernel_rfl) ⟨_, rfl, hs.sel [] rfl rfl⟩
  · replace hS := of_f hb1 hS
    refine wp_skip ?_
    refine sq ?_
    refine reg ?_
    refine st tbOk 5 [0, 1, 2, 16, 17, 19] (L' := [(0, .slice ao1 b.length cp1), (1, .int .u64 p_at), (2, .int .i64 n), (16, .int .i64 ((b.length : Nat) : Int)), (17, .int .u64 p_at), (19, .int .u64 (IntKind.u64.wrap n))]) hf (by kernel_rfl) ?_
    clear hf; clear a; intro a hf
    have hT := of_bd hS; clear hS; obtain ⟨z2, hz2, hS⟩ := hT
    refine clV ent43 (vs := [.int .i64 ((b.length : Nat) : Int), .int .u64 p_at, .int .u64 (IntKind.u64.wrap n)]) (caps := []) hf (by kernel_rfl) (by kernel_rfl) (by kernel_rfl) (by kernel_rfl) (ref01_Inside_ok (p_many := ((b.length : Nat) : Int)) (p_at := p_at) (size := IntKind.u64.wrap n) (hs.enter [] rfl rfl) hz2) ?_
    clear hf; clear a; intro v w2 a hT hf; obtain ⟨F2, rfl, hr⟩ := hT
    replace hs : Sep w F R w2 F2 [.ro (tI .u8) (.slice ao1 b.length cp1) b] := hs.back [] [0] rfl rfl rfl rfl hr
    clear hr
    replace hf := Fr.keep (ks := [0, 1, 2, 20]) (L' := [(0, .slice ao1 b.length cp1), (1, .int .u64 p_at), (2, .int .i64 n), (20, .bool z2)]) hf (by kernel_rfl)
    refine st tbOk 1 [0, 1, 2, 8] (L' := [(0, .slice ao1 b.length cp1), (1, .int .u64 p_at), (2, .int .i64 n), (8, .bool z2)]) hf (by kernel_rfl) ?_
    clear hf; clear a; intro a hf
    refine wpList_nil ?_
    refine sq ?_
    refine sq ?_
    refine reg ?_
    refine st tbOk 2 [0, 1, 2, 22] (L' := [(0, .slice ao1 b.length cp1), (1, .int .u64 p_at), (2, .int .i64 n), (22, .bool (!z2))]) hf (by kernel_rfl) ?_
    clear hf; clear a; intro a hf
    refine wpList_nil ?_
    refine cnd (b := !z2) hf (by kernel_rfl) (fun hb2 => ?_) (fun hb2 => ?_)
    · replace hS := of_t hb2 hS
      refine sq ?_
      refine reg ?_
      refine st tbOk 2 [6, 7] (L' := [(6, .int .u64 0), (7, .int .i64 10)]) hf (by kernel_rfl) ?_
      clear hf; clear a; intro a hf
      refine wpList_nil ?_
      have hr := Option.some.inj hS; subst hr
      refine wp_ret ?_
      exact ret_ok hf (vs := [.int .u64 0, .int .i64 10]) (by kernel_rfl) ⟨_, rfl, hs.sel [] rfl rfl⟩
    · replace hS := of_f hb2 hS
      refine wp_skip ?_
      refine sq ?_
      refine reg ?_
      refine st tbOk 1 [0, 1, 2, 9] (L' := [(0, .slice ao1 b.length cp1), (1, .int .u64 p_at), (2, .int .i64 n), (9, .int .u64 0)]) hf (by kernel_rfl) ?_
      clear hf; clear a; intro a hf
      refine wpList_nil ?_
      refine sq ?_
      refine sq ?_
      refine reg ?_
      have hT := of_let hS; clear hS; obtain ⟨i_1, hl1, hS⟩ := hT
      refine st tbOk 3 [0, 1, 9, 10] (L' := [(0, .slice ao1 b.length cp1), (1, .int .u64 p_at), (9, .int .u64 0), (10, .int .i64 i_1)]) hf (by subst hl1; kernel_rfl) ?_
      clear hf; clear a; intro a hf
      refine wpList_nil ?_
      refine ctj (fun (s1 : Int) (a : Act) (w' : World) => ∃ (F3 : SH), Sep w F R w' F3 [] ∧ Fr 41 [(9, .int .u64 s1)] a) hS ?_ ?_
      · clear hS hf hs; clear a; intro s1 a w4 hM hS
        obtain ⟨F3, hs, hf⟩ := hM
        refine sq ?_
        refine reg ?_
        refine st tbOk 3 [6, 7] (L' := [(6, .int .u64 s1), (7, .int .i64 0)]) hf (by kernel_rfl) ?_
        clear hf; clear a; intro a hf
        refine wpList_nil ?_
        have hr := Option.some.inj hS; subst hr
        refine wp_ret ?_
        exact ret_ok hf (vs := [.int .u64 s1, .int .i64 0]) (by kernel_rfl) ⟨_, rfl, hs.sel [] rfl rfl⟩
      · clear hS; intro KK1 k1 hK1 hS
        refine blk ?_
        refine lp (st := (0, i_1)) (fun (s2 : Int × Int) (a : Act) (w' : World) => ∃ (F4 : SH), Sep w F R w' F4 [.ro (tI .u8) (.slice ao1 b.length cp1) b] ∧ Fr 41 [(0, .slice ao1 b.length cp1), (1, .int .u64 p_at), (9, .int .u64 s2.1), (10, .int .i64 s2.2)] a) ?_ ⟨_, hs.sel [0] rfl rfl, hf.keep (ks := [0, 1, 9, 10]) (by kernel_rfl)⟩ hS
        clear hS hf hs; clear a
        intro rec1 KK2 hK2 s2 a w3 hM hS
        obtain ⟨F4, hs, hf⟩ := hM
        refine sq ?_
        refine sq ?_
        refine reg ?_
        refine st tbOk 2 [0, 1, 9, 10, 26] (L' := [(0, .slice ao1 b.length cp1), (1, .int .u64 p_at), (9, .int .u64 s2.1), (10, .int .i64 s2.2), (26, .bool (decide (s2.2 ≥ 0)))]) hf (by kernel_rfl) ?_
        clear hf; clear a; intro a hf
        refine wpList_nil ?_
        refine cnd (b := decide (s2.2 ≥ 0)) hf (by kernel_rfl) (fun hb3 => ?_) (fun hb3 => ?_)
        · replace hS := of_t hb3 hS
          refine wp_skip ?_
          refine sq ?_
          refine blk ?_
          refine reg ?_
          refine st tbOk 7 [0, 1, 10, 30, 31, 35] (L' := [(0, .slice ao1 b.length cp1), (1, .int .u64 p_at), (10, .int .i64 s2.2), (30, .int .u64 (IntKind.u64.wrap (s2.1 * 256))), (31, .slice ao1 b.length cp1), (35, .int .i64 (IntKind.i64.wrap ((IntKind.i64.wrap p_at) + s2.2)))]) hf (by kernel_rfl) ?_
          clear hf; clear a; intro a hf
          have hT := of_gd hS; clear hS; obtain ⟨hc1, hS⟩ := hT
          refine ixR tbOk u22 i5 rfl rfl ((hs.ro 0 rfl).ra (LeH.refl _)) (k := .i64) (n := IntKind.i64.wrap ((IntKind.i64.wrap p_at) + s2.2)) hc1 hf (by kernel_rfl) (by kernel_rfl) (by kernel_rfl) (by kernel_rfl) ?_
          clear hf; clear a; intro pb1 po1 c1 a hp1 hr1 hf
          obtain rfl : c1 = [.int .u8 (gt b (IntKind.i64.wrap ((IntKind.i64.wrap p_at) + s2.2)))] := hr1
          replace hs : Sep w F R w3 F4 [.cel pb1 po1 [.int .u8 (gt b (IntKind.i64.wrap ((IntKind.i64.wrap p_at) + s2.2)))], .ro (tI .u8) (.slice ao1 b.length cp1) b] := hs.addCel hp1
          replace hf := Fr.keep (ks := [0, 1, 10, 30, 36]) (L' := [(0, .slice ao1 b.length cp1), (1, .int .u64 p_at), (10, .int .i64 s2.2), (30, .int .u64 (IntKind.u64.wrap (s2.1 * 256))), (36, .pointer (some ⟨pb1, po1, none⟩))]) hf (by kernel_rfl)
          refine ldC tbOk (T := 5) (hs.ccel 0 rfl) (LeH.refl _) 0 (.int .u8 (gt b (IntKind.i64.wrap ((IntKind.i64.wrap p_at) + s2.2)))) hf (by kernel_rfl) (by kernel_rfl) (by kernel_rfl) (by kernel_rfl) ?_
          clear hf; clear a; intro a hf
          replace hs : Sep w F R w3 F4 [.ro (tI .u8) (.slice ao1 b.length cp1) b] := hs.sel [1] rfl rfl
          replace hf := Fr.keep (ks := [0, 1, 10, 30, 37]) (L' := [(0, .slice ao1 b.length cp1), (1, .int .u64 p_at), (10, .int .i64 s2.2), (30, .int .u64 (IntKind.u64.wrap (s2.1 * 256))), (37, .int .u8 (gt b (IntKind.i64.wrap ((IntKind.i64.wrap p_at) + s2.2))))]) hf (by kernel_rfl)
          have hT := of_let hS; clear hS; obtain ⟨x_1, hl2, hS⟩ := hT
          refine st tbOk 3 [0, 1, 9, 10] (L' := [(0, .slice ao1 b.length cp1), (1, .int .u64 p_at), (9, .int .u64 x_1), (10, .int .i64 s2.2)]) hf (by subst hl2; kernel_rfl) ?_
          clear hf; clear a; intro a hf
          refine wpList_nil ?_
          refine reg ?_
          have hT := of_let hS; clear hS; obtain ⟨i_2, hl3, hS⟩ := hT
          refine st tbOk 3 [0, 1, 9, 10] (L' := [(0, .slice ao1 b.length cp1), (1, .int .u64 p_at), (9, .int .u64 x_1), (10, .int .i64 i_2)]) hf (by subst hl3; kernel_rfl) ?_
          clear hf; clear a; intro a hf
          refine wpList_nil ?_
          exact hK2 (x_1, i_2) _ _ ⟨_, hs.sel [0] rfl rfl, hf.keep (ks := [0, 1, 9, 10]) (by kernel_rfl)⟩ hS
        · replace hS := of_f hb3 hS
          refine wp_exit ?_
          exact hK1 s2.1 _ _ ⟨_, hs.sel [] rfl rfl, hf.keep (ks := [9]) (by kernel_rfl)⟩ hS

set_option maxHeartbeats 4000000 in
theorem ref08_up_ok {w : World} {F : SH} {n : Int}  (hs : Sep w F (blks []) w F []) {r : Int} (hS : ref08_up n = some r) :
    Calls Try.prog 45 [.int .u64 n].toArray w (Gives (fun u w' => ∃ (F' : SH), u = .int .u64 r ∧ Sep w F (blks []) w' F' [])) := by
  generalize (blks []) = R at hs ⊢
  unfold ref08_up at hS
  refine fn_ok (vs := [.int .u64 n]) Try.func45 rfl 7 Try.ntmps45 (Nat.le_of_ble_eq_true rfl) ?_
  intro a hf
  replace hf := Fr.cast (L' := [(0, .int .u64 n)]) hf (by kernel_rfl)
  refine sq ?_
  refine reg ?_
  refine st tbOk 1 [0] (L' := [(0, .int .u64 n)]) hf (by kernel_rfl) ?_
  clear hf; clear a; intro a hf
  refine wpList_nil ?_
  refine sq ?_
  refine reg ?_
  refine st tbOk 5 [2] (L' := [(2, .int .u64 (IntKind.u64.wrap ((IntKind.u64.wrap (Int.tdiv (IntKind.u64.wrap (n + 3)) 4)) * 4)))]) hf (by kernel_rfl) ?_
  clear hf; clear a; intro a hf
  refine wpList_nil ?_
  have hr := Option.some.inj hS; subst hr
  refine wp_ret ?_
  exact ret_ok hf (vs := [.int .u64 (IntKind.u64.wrap ((IntKind.u64.wrap (Int.tdiv (IntKind.u64.wrap (n + 3)) 4)) * 4))]) (by kernel_rfl) ⟨_, rfl, hs.sel [] rfl rfl⟩

set_option maxHeartbeats 4000000 in
theorem ref08_Get_ok {w : World} {F : SH} {b : List Int} {ao1 : Option Addr} {cp1 : Nat} (hs : Sep w F (blks [.ro (tI .u8) (.slice ao1 b.length cp1) b]) w F [.ro (tI .u8) (.slice ao1 b.length cp1) b]) {r : (List ((List UInt8) × Int × (List Int))) × Int} (hS : ref08_Get b = some r) :
    Calls Try.prog 29 [.slice ao1 b.length cp1].toArray w (Gives (fun u w' => ∃ (ao8 : Option Addr) (cp8 : Nat) (F' : SH), u = .tuple #[.slice ao8 r.1.length cp8, .int .i64 r.2] ∧ Sep w F (blks [.ro (tI .u8) (.slice ao1 b.length cp1) b]) w' F' [.row 65 ty53 (.slice ao8 r.1.length cp8) r.1])) := by
  generalize (blks [.ro (tI .u8) (.slice ao1 b.length cp1) b]) = R at hs ⊢
  unfold ref08_Get at hS
  refine fn_ok (vs := [.slice ao1 b.length cp1]) Try.func29 rfl 132 Try.ntmps29 (Nat.le_of_ble_eq_true rfl) ?_
  intro a hf
  replace hf := Fr.cast (L' := [(0, .slice ao1 b.length cp1)]) hf (by kernel_rfl)
  refine sq ?_
  refine reg ?_
  refine st tbOk 2 [0] (L' := [(0, .slice ao1 b.length cp1)]) hf (by kernel_rfl) ?_
  clear hf; clear a; intro a hf
  refine wpList_nil ?_
  refine sq ?_
  refine sq ?_
  refine reg ?_
  refine st tbOk 3 [0, 18] (L' := [(0, .slice ao1 b.length cp1), (18, .bool (decide (((b.length : Nat) : Int) > 65536)))]) hf (by kernel_rfl) ?_
  clear hf; clear a; intro a hf
  refine wpList_nil ?_
  refine cnd (b := decide (((b.length : Nat) : Int) > 65536)) hf (by kernel_rfl) (fun hb1 => ?_) (fun hb1 => ?_)
  · replace hS := of_t hb1 hS
    refine sq ?_
    refine reg ?_
    refine st tbOk 2 [2, 3] (L' := [(2, .slice none 0 0), (3, .int .i64 13)]) hf (by kernel_rfl) ?_
    clear hf; clear a; intro a hf
    refine wpList_nil ?_
    have hr := Option.some.inj hS; subst hr
    refine wp_ret ?_
    replace hs : Sep w F R w F [.row 65 ty53 (.slice none 0 0) ([] : List ((List UInt8) × Int × (List Int))), .ro (tI .u8) (.slice ao1 b.length cp1) b] := hs.addNil 65 ty53
    exact ret_ok hf (vs := [.slice none 0 0, .int .i64 13]) (by kernel_rfl) ⟨none, 0, _, rfl, hs.sel [0] rfl rfl⟩
  · replace hS := of_f hb1 hS
    refine wp_skip ?_
    refine sq ?_
    refine reg ?_
    refine st tbOk 1 [0, 4] (L' := [(0, .slice ao1 b.length cp1), (4, .slice none 0 0)]) hf (by kernel_rfl) ?_
    clear hf; clear a; intro a hf
    refine wpList_nil ?_
    refine sq ?_
    refine reg ?_
    refine st tbOk 1 [0, 4, 5] (L' := [(0, .slice ao1 b.length cp1), (4, .slice none 0 0), (5, .int .u64 0)]) hf (by kernel_rfl) ?_
    clear hf; clear a; intro a hf
    refine wpList_nil ?_
    refine sq ?_
    refine ctj (fun (s1 : List ((List UInt8) × Int × (List Int))) (a : Act) (w' : World) => ∃ (ao2 : Option Addr) (cp2 : Nat) (F1 : SH), Sep w F R w' F1 [.row 65 ty53 (.slice ao2 s1.length cp2) s1] ∧ Fr 132 [(4, .slice ao2 s1.length cp2)] a) hS ?_ ?_
    · clear hS hf hs; clear a; intro s1 a w21 hM hS
      obtain ⟨ao2, cp2, F1, hs, hf⟩ := hM
      refine sq ?_
      refine reg ?_
      refine st tbOk 3 [2, 3] (L' := [(2, .slice ao2 s1.length cp2), (3, .int .i64 0)]) hf (by kernel_rfl) ?_
      clear hf; clear a; intro a hf
      refine wpList_nil ?_
      have hr := Option.some.inj hS; subst hr
      refine wp_ret ?_
      exact ret_ok hf (vs := [.slice ao2 s1.length cp2, .int .i64 0]) (by kernel_rfl) ⟨ao2, cp2, _, rfl, hs.sel [0] rfl rfl⟩
    · clear hS; intro KK1 k1 hK1 hS
      refine blk ?_
      replace hs : Sep w F R w F [.row 65 ty53 (.slice none 0 0) ([] : List ((List UInt8) × Int × (List Int))), .ro (tI .u8) (.slice ao1 b.length cp1) b] := hs.addNil 65 ty53
      refine lp (st := ([], 0)) (fun (s2 : (List ((List UInt8) × Int × (List Int))) × Int) (a : Act) (w' : World) => ∃ (ao3 : Option Addr) (cp3 : Nat) (F2 : SH), Sep w F R w' F2 [.row 65 ty53 (.slice ao3 s2.1.length cp3) s2.1, .ro (tI .u8) (.slice ao1 b.length cp1) b] ∧ Fr 132 [(0, .slice ao1 b.length cp1), (4, .slice ao3 s2.1.length cp3), (5, .int .u64 s2.2)] a) ?_ ⟨none, 0, _, hs.sel [0, 1] rfl rfl, hf.keep (ks := [0, 4, 5]) (by kernel_rfl)⟩ hS
      clear hS hf hs; clear a
      intro rec1 KK2 hK2 s2 a w1 hM hS
      obtain ⟨ao3, cp3, F2, hs, hf⟩ := hM
      refine sq ?_
      refine sq ?_
      refine reg ?_
      refine st tbOk 5 [0, 4, 5, 23] (L' := [(0, .slice ao1 b.length cp1), (4, .slice ao3 s2.1.length cp3), (5, .int .u64 s2.2), (23, .bool (decide (s2.2 < (IntKind.u64.wrap ((b.length : Nat) : Int)))))]) hf (by kernel_rfl) ?_
      clear hf; clear a; intro a hf
      refine wpList_nil ?_
      refine cnd (b := decide (s2.2 < (IntKind.u64.wrap ((b.length : Nat) : Int)))) hf (by kernel_rfl) (fun hb2 => ?_) (fun hb2 => ?_)
      · replace hS := of_t hb2 hS
        refine wp_skip ?_
        refine ctj (fun (s3 : (List ((List UInt8) × Int × (List Int))) × Int) (a : Act) (w' : World) => ∃ (ao4 : Option Addr) (cp4 : Nat) (F3 : SH), Sep w F R w' F3 [.row 65 ty53 (.slice ao4 s3.1.length cp4) s3.1, .ro (tI .u8) (.slice ao1 b.length cp1) b] ∧ Fr 132 [(0, .slice ao1 b.length cp1), (4, .slice ao4 s3.1.length cp4), (5, .int .u64 s3.2)] a) hS ?_ ?_
        · clear hS hf hs; clear a; intro s3 a w20 hM hS
          obtain ⟨ao4, cp4, F3, hs, hf⟩ := hM
          exact hK2 (s3.1, s3.2) _ _ ⟨ao4, cp4, _, hs.sel [0, 1] rfl rfl, hf.keep (ks := [0, 4, 5]) (by kernel_rfl)⟩ hS
        · clear hS; intro KK3 k2 hK3 hS
          refine blk ?_
          refine sq ?_
          refine reg ?_
          refine st tbOk 3 [0, 4, 5, 25, 26] (L' := [(0, .slice ao1 b.length cp1), (4, .slice ao3 s2.1.length cp3), (5, .int .u64 s2.2), (25, .int .i64 ((b.length : Nat) : Int)), (26, .int .u64 s2.2)]) hf (by kernel_rfl) ?_
          clear hf; clear a; intro a hf
          have hT := of_bd hS; clear hS; obtain ⟨z1, hz1, hS⟩ := hT
          refine clV ent43 (vs := [.int .i64 ((b.length : Nat) : Int), .int .u64 s2.2, .int .u64 12]) (caps := []) hf (by kernel_rfl) (by kernel_rfl) (by kernel_rfl) (by kernel_rfl) (ref01_Inside_ok (p_many := ((b.length : Nat) : Int)) (p_at := s2.2) (size := 12) (hs.enter [] rfl rfl) hz1) ?_
          clear hf; clear a; intro v w2 a hT hf; obtain ⟨F4, rfl, hr⟩ := hT
          replace hs : Sep w F R w2 F4 [.row 65 ty53 (.slice ao3 s2.1.length cp3) s2.1, .ro (tI .u8) (.slice ao1 b.length cp1) b] := hs.back [] [0, 1] rfl rfl rfl rfl hr
          clear hr
          replace hf := Fr.keep (ks := [0, 4, 5, 27]) (L' := [(0, .slice ao1 b.length cp1), (4, .slice ao3 s2.1.length cp3), (5, .int .u64 s2.2), (27, .bool z1)]) hf (by kernel_rfl)
          refine st tbOk 1 [0, 4, 5, 6] (L' := [(0, .slice ao1 b.length cp1), (4, .slice ao3 s2.1.length cp3), (5, .int .u64 s2.2), (6, .bool z1)]) hf (by kernel_rfl) ?_
          clear hf; clear a; intro a hf
          refine wpList_nil ?_
          refine sq ?_
          refine sq ?_
          refine reg ?_
          refine st tbOk 2 [0, 4, 5, 29] (L' := [(0, .slice ao1 b.length cp1), (4, .slice ao3 s2.1.length cp3), (5, .int .u64 s2.2), (29, .bool (!z1))]) hf (by kernel_rfl) ?_
          clear hf; clear a; intro a hf
          refine wpList_nil ?_
          refine cnd (b := !z1) hf (by kernel_rfl) (fun hb3 => ?_) (fun hb3 => ?_)
          · replace hS := of_t hb3 hS
            refine sq ?_
            refine reg ?_
            refine st tbOk 2 [2, 3] (L' := [(2, .slice none 0 0), (3, .int .i64 10)]) hf (by kernel_rfl) ?_
            clear hf; clear a; intro a hf
            refine wpList_nil ?_
            have hr := Option.some.inj hS; subst hr
            refine wp_ret ?_
            replace hs : Sep w F R w2 F4 [.row 65 ty53 (.slice none 0 0) ([] : List ((List UInt8) × Int × (List Int))), .row 65 ty53 (.slice ao3 s2.1.length cp3) s2.1, .ro (tI .u8) (.slice ao1 b.length cp1) b] := hs.addNil 65 ty53
            exact ret_ok hf (vs := [.slice none 0 0, .int .i64 10]) (by kernel_rfl) ⟨none, 0, _, rfl, hs.sel [0] rfl rfl⟩
          · replace hS := of_f hb3 hS
            refine wp_skip ?_
            refine sq ?_
            refine reg ?_
            refine st tbOk 2 [0, 4, 5, 31, 32] (L' := [(0, .slice ao1 b.length cp1), (4, .slice ao3 s2.1.length cp3), (5, .int .u64 s2.2), (31, .slice ao1 b.length cp1), (32, .int .u64 s2.2)]) hf (by kernel_rfl) ?_
            clear hf; clear a; intro a hf
            have hT := of_bd hS; clear hS; obtain ⟨z2, hz2, hS⟩ := hT
            refine clV ent44 (vs := [.slice ao1 b.length cp1, .int .u64 s2.2, .int .i64 4]) (caps := []) hf (by kernel_rfl) (by kernel_rfl) (by kernel_rfl) (by kernel_rfl) (ref01_Get_ok (b := b) (p_at := s2.2) (n := 4) (hs.enter [1] rfl rfl) hz2) ?_
            clear hf; clear a; intro v w3 a hT hf; obtain ⟨F5, rfl, hr⟩ := hT
            replace hs : Sep w F R w3 F5 [.row 65 ty53 (.slice ao3 s2.1.length cp3) s2.1, .ro (tI .u8) (.slice ao1 b.length cp1) b] := hs.back [1] [0, 1] rfl rfl rfl rfl hr
            clear hr
            replace hf := Fr.keep (ks := [0, 4, 5, 33]) (L' := [(0, .slice ao1 b.length cp1), (4, .slice ao3 s2.1.length cp3), (5, .int .u64 s2.2), (33, .tuple #[.int .u64 z2.1, .int .i64 z2.2])]) hf (by kernel_rfl)
            refine st tbOk 5 [0, 4, 5, 7] (L' := [(0, .slice ao1 b.length cp1), (4, .slice ao3 s2.1.length cp3), (5, .int .u64 s2.2), (7, .int .u64 z2.1)]) hf (by kernel_rfl) ?_
            clear hf; clear a; intro a hf
            refine wpList_nil ?_
            refine sq ?_
            refine reg ?_
            refine st tbOk 3 [0, 4, 5, 7, 37, 39] (L' := [(0, .slice ao1 b.length cp1), (4, .slice ao3 s2.1.length cp3), (5, .int .u64 s2.2), (7, .int .u64 z2.1), (37, .slice ao1 b.length cp1), (39, .int .u64 (IntKind.u64.wrap (s2.2 + 4)))]) hf (by kernel_rfl) ?_
            clear hf; clear a; intro a hf
            have hT := of_bd hS; clear hS; obtain ⟨z3, hz3, hS⟩ := hT
            refine clV ent44 (vs := [.slice ao1 b.length cp1, .int .u64 (IntKind.u64.wrap (s2.2 + 4)), .int .i64 4]) (caps := []) hf (by kernel_rfl) (by kernel_rfl) (by kernel_rfl) (by kernel_rfl) (ref01_Get_ok (b := b) (p_at := IntKind.u64.wrap (s2.2 + 4)) (n := 4) (hs.enter [1] rfl rfl) hz3) ?_
            clear hf; clear a; intro v w4 a hT hf; obtain ⟨F6, rfl, hr⟩ := hT
            replace hs : Sep w F R w4 F6 [.row 65 ty53 (.slice ao3 s2.1.length cp3) s2.1, .ro (tI .u8) (.slice ao1 b.length cp1) b] := hs.back [1] [0, 1] rfl rfl rfl rfl hr
            clear hr
            replace hf := Fr.keep (ks := [0, 4, 5, 7, 40]) (L' := [(0, .slice ao1 b.length cp1), (4, .slice ao3 s2.1.length cp3), (5, .int .u64 s2.2), (7, .int .u64 z2.1), (40, .tuple #[.int .u64 z3.1, .int .i64 z3.2])]) hf (by kernel_rfl)
            refine st tbOk 5 [0, 4, 5, 7, 9] (L' := [(0, .slice ao1 b.length cp1), (4, .slice ao3 s2.1.length cp3), (5, .int .u64 s2.2), (7, .int .u64 z2.1), (9, .int .u64 z3.1)]) hf (by kernel_rfl) ?_
            clear hf; clear a; intro a hf
            refine wpList_nil ?_
            refine sq ?_
            refine reg ?_
            refine st tbOk 3 [0, 4, 5, 7, 9, 44, 46] (L' := [(0, .slice ao1 b.length cp1), (4, .slice ao3 s2.1.length cp3), (5, .int .u64 s2.2), (7, .int .u64 z2.1), (9, .int .u64 z3.1), (44, .slice ao1 b.length cp1), (46, .int .u64 (IntKind.u64.wrap (s2.2 + 8)))]) hf (by kernel_rfl) ?_
            clear hf; clear a; intro a hf
            have hT := of_bd hS; clear hS; obtain ⟨z4, hz4, hS⟩ := hT
            refine clV ent44 (vs := [.slice ao1 b.length cp1, .int .u64 (IntKind.u64.wrap (s2.2 + 8)), .int .i64 4]) (caps := []) hf (by kernel_rfl) (by kernel_rfl) (by kernel_rfl) (by kernel_rfl) (ref01_Get_ok (b := b) (p_at := IntKind.u64.wrap (s2.2 + 8)) (n := 4) (hs.enter [1] rfl rfl) hz4) ?_
            clear hf; clear a; intro v w5 a hT hf; obtain ⟨F7, rfl, hr⟩ := hT
            replace hs : Sep w F R w5 F7 [.row 65 ty53 (.slice ao3 s2.1.length cp3) s2.1, .ro (tI .u8) (.slice ao1 b.length cp1) b] := hs.back [1] [0, 1] rfl rfl rfl rfl hr
            clear hr
            replace hf := Fr.keep (ks := [0, 4, 5, 7, 9, 47]) (L' := [(0, .slice ao1 b.length cp1), (4, .slice ao3 s2.1.length cp3), (5, .int .u64 s2.2), (7, .int .u64 z2.1), (9, .int .u64 z3.1), (47, .tuple #[.int .u64 z4.1, .int .i64 z4.2])]) hf (by kernel_rfl)
            refine st tbOk 5 [0, 4, 5, 7, 9, 11] (L' := [(0, .slice ao1 b.length cp1), (4, .slice ao3 s2.1.length cp3), (5, .int .u64 s2.2), (7, .int .u64 z2.1), (9, .int .u64 z3.1), (11, .int .u64 z4.1)]) hf (by kernel_rfl) ?_
            clear hf; clear a; intro a hf
            refine wpList_nil ?_
            refine sq ?_
            refine reg ?_
            have hT := of_let hS; clear hS; obtain ⟨at_1, hl1, hS⟩ := hT
            refine st tbOk 3 [0, 4, 5, 7, 9, 11] (L' := [(0, .slice ao1 b.length cp1), (4, .slice ao3 s2.1.length cp3), (5, .int .u64 at_1), (7, .int .u64 z2.1), (9, .int .u64 z3.1), (11, .int .u64 z4.1)]) hf (by subst hl1; kernel_rfl) ?_
            clear hf; clear a; intro a hf
            refine wpList_nil ?_
            refine sq ?_
            refine sq ?_
            refine reg ?_
            refine st tbOk 2 [0, 4, 5, 7, 9, 11, 53] (L' := [(0, .slice ao1 b.length cp1), (4, .slice ao3 s2.1.length cp3), (5, .int .u64 at_1), (7, .int .u64 z2.1), (9, .int .u64 z3.1), (11, .int .u64 z4.1), (53, .bool (z2.1 == 0))]) hf (by kernel_rfl) ?_
            clear hf; clear a; intro a hf
            refine wpList_nil ?_
            refine cnd (b := z2.1 == 0) hf (by kernel_rfl) (fun hb4 => ?_) (fun hb4 => ?_)
            · replace hS := of_t hb4 hS
              refine sq ?_
              refine reg ?_
              refine st tbOk 2 [2, 3] (L' := [(2, .slice none 0 0), (3, .int .i64 11)]) hf (by kernel_rfl) ?_
              clear hf; clear a; intro a hf
              refine wpList_nil ?_
              have hr := Option.some.inj hS; subst hr
              refine wp_ret ?_
              replace hs : Sep w F R w5 F7 [.row 65 ty53 (.slice none 0 0) ([] : List ((List UInt8) × Int × (List Int))), .row 65 ty53 (.slice ao3 s2.1.length cp3) s2.1, .ro (tI .u8) (.slice ao1 b.length cp1) b] := hs.addNil 65 ty53
              exact ret_ok hf (vs := [.slice none 0 0, .int .i64 11]) (by kernel_rfl) ⟨none, 0, _, rfl, hs.sel [0] rfl rfl⟩
            · replace hS := of_f hb4 hS
              refine wp_skip ?_
              refine sq ?_
              refine reg ?_
              refine st tbOk 4 [0, 4, 5, 7, 9, 11, 55, 56, 57] (L' := [(0, .slice ao1 b.length cp1), (4, .slice ao3 s2.1.length cp3), (5, .int .u64 at_1), (7, .int .u64 z2.1), (9, .int .u64 z3.1), (11, .int .u64 z4.1), (55, .int .i64 ((b.length : Nat) : Int)), (56, .int .u64 at_1), (57, .int .u64 z2.1)]) hf (by kernel_rfl) ?_
              clear hf; clear a; intro a hf
              have hT := of_bd hS; clear hS; obtain ⟨z5, hz5, hS⟩ := hT
              refine clV ent45 (vs := [.int .u64 z2.1]) (caps := []) hf (by kernel_rfl) (by kernel_rfl) (by kernel_rfl) (by kernel_rfl) (ref08_up_ok (n := z2.1) (hs.enter [] rfl rfl) hz5) ?_
              clear hf; clear a; intro v w6 a hT hf; obtain ⟨F8, rfl, hr⟩ := hT
              replace hs : Sep w F R w6 F8 [.row 65 ty53 (.slice ao3 s2.1.length cp3) s2.1, .ro (tI .u8) (.slice ao1 b.length cp1) b] := hs.back [] [0, 1] rfl rfl rfl rfl hr
              clear hr
              replace hf := Fr.keep (ks := [0, 4, 5, 7, 9, 11, 55, 56, 58]) (L' := [(0, .slice ao1 b.length cp1), (4, .slice ao3 s2.1.length cp3), (5, .int .u64 at_1), (7, .int .u64 z2.1), (9, .int .u64 z3.1), (11, .int .u64 z4.1), (55, .int .i64 ((b.length : Nat) : Int)), (56, .int .u64 at_1), (58, .int .u64 z5)]) hf (by kernel_rfl)
              have hT := of_bd hS; clear hS; obtain ⟨z6, hz6, hS⟩ := hT
              refine clV ent43 (vs := [.int .i64 ((b.length : Nat) : Int), .int .u64 at_1, .int .u64 z5]) (caps := []) hf (by kernel_rfl) (by kernel_rfl) (by kernel_rfl) (by kernel_rfl) (ref01_Inside_ok (p_many := ((b.length : Nat) : Int)) (p_at := at_1) (size := z5) (hs.enter [] rfl rfl) hz6) ?_
              clear hf; clear a; intro v w7 a hT hf; obtain ⟨F9, rfl, hr⟩ := hT
              replace hs : Sep w F R w7 F9 [.row 65 ty53 (.slice ao3 s2.1.length cp3) s2.1, .ro (tI .u8) (.slice ao1 b.length cp1) b] := hs.back [] [0, 1] rfl rfl rfl rfl hr
              clear hr
              replace hf := Fr.keep (ks := [0, 4, 5, 7, 9, 11, 59]) (L' := [(0, .slice ao1 b.length cp1), (4, .slice ao3 s2.1.length cp3), (5, .int .u64 at_1), (7, .int .u64 z2.1), (9, .int .u64 z3.1), (11, .int .u64 z4.1), (59, .bool z6)]) hf (by kernel_rfl)
              refine st tbOk 1 [0, 4, 5, 6, 7, 9, 11] (L' := [(0, .slice ao1 b.length cp1), (4, .slice ao3 s2.1.length cp3), (5, .int .u64 at_1), (6, .bool z6), (7, .int .u64 z2.1), (9, .int .u64 z3.1), (11, .int .u64 z4.1)]) hf (by kernel_rfl) ?_
              clear hf; clear a; intro a hf
              refine wpList_nil ?_
              refine sq ?_
              refine sq ?_
              refine reg ?_
              refine st tbOk 2 [0, 4, 5, 7, 9, 11, 61] (L' := [(0, .slice ao1 b.length cp1), (4, .slice ao3 s2.1.length cp3), (5, .int .u64 at_1), (7, .int .u64 z2.1), (9, .int .u64 z3.1), (11, .int .u64 z4.1), (61, .bool (!z6))]) hf (by kernel_rfl) ?_
              clear hf; clear a; intro a hf
              refine wpList_nil ?_
              refine cnd (b := !z6) hf (by kernel_rfl) (fun hb5 => ?_) (fun hb5 => ?_)
              · replace hS := of_t hb5 hS
                refine sq ?_
                refine reg ?_
                refine st tbOk 2 [2, 3] (L' := [(2, .slice none 0 0), (3, .int .i64 10)]) hf (by kernel_rfl) ?_
                clear hf; clear a; intro a hf
                refine wpList_nil ?_
                have hr := Option.some.inj hS; subst hr
                refine wp_ret ?_
                replace hs : Sep w F R w7 F9 [.row 65 ty53 (.slice none 0 0) ([] : List ((List UInt8) × Int × (List Int))), .row 65 ty53 (.slice ao3 s2.1.length cp3) s2.1, .ro (tI .u8) (.slice ao1 b.length cp1) b] := hs.addNil 65 ty53
                exact ret_ok hf (vs := [.slice none 0 0, .int .i64 10]) (by kernel_rfl) ⟨none, 0, _, rfl, hs.sel [0] rfl rfl⟩
              · replace hS := of_f hb5 hS
                refine wp_skip ?_
                refine sq ?_
                refine sq ?_
                refine reg ?_
                refine st tbOk 1 [0, 4, 5, 7, 9, 11, 13] (L' := [(0, .slice ao1 b.length cp1), (4, .slice ao3 s2.1.length cp3), (5, .int .u64 at_1), (7, .int .u64 z2.1), (9, .int .u64 z3.1), (11, .int .u64 z4.1), (13, .int .u64 0)]) hf (by kernel_rfl) ?_
                clear hf; clear a; intro a hf
                refine wpList_nil ?_
                refine ctj (fun (s4 : Unit) (a : Act) (w' : World) => ∃ (F10 : SH), Sep w F R w' F10 [.row 65 ty53 (.slice ao3 s2.1.length cp3) s2.1, .ro (tI .u8) (.slice ao1 b.length cp1) b] ∧ Fr 132 [(0, .slice ao1 b.length cp1), (4, .slice ao3 s2.1.length cp3), (5, .int .u64 at_1), (7, .int .u64 z2.1), (9, .int .u64 z3.1), (11, .int .u64 z4.1)] a) hS ?_ ?_
                · clear hS hf hs; clear a; intro s4 a w10 hM hS
                  obtain ⟨F10, hs, hf⟩ := hM
                  refine sq ?_
                  refine reg ?_
                  refine st tbOk 6 [0, 4, 5, 7, 9, 11, 80, 81, 85] (L' := [(0, .slice ao1 b.length cp1), (4, .slice ao3 s2.1.length cp3), (5, .int .u64 at_1), (7, .int .u64 z2.1), (9, .int .u64 z3.1), (11, .int .u64 z4.1), (80, .slice ao1 b.length cp1), (81, .int .u64 at_1), (85, .int .u64 (IntKind.u64.wrap ((IntKind.u64.wrap (at_1 + z2.1)) - 1)))]) hf (by kernel_rfl) ?_
                  clear hf; clear a; intro a hf
                  have hT := of_gd hS; clear hS; obtain ⟨hc2, hS⟩ := hT
                  refine sl tbOk u22 i5 rfl (hs.ro 1 rfl) (lo := at_1) (hi := IntKind.u64.wrap ((IntKind.u64.wrap (at_1 + z2.1)) - 1)) (m := 0) hc2 (.inr ⟨_, .u64, rfl, by kernel_rfl⟩) (.inr ⟨_, .u64, rfl, by kernel_rfl⟩) (.inl rfl) hf (by kernel_rfl) (by kernel_rfl) (by kernel_rfl) ?_
                  clear hf; clear a; intro ao5 cp5 a hr2 hf
                  replace hs : Sep w F R w10 F10 [.ro (tI .u8) (.slice ao5 (cutL b at_1 (IntKind.u64.wrap ((IntKind.u64.wrap (at_1 + z2.1)) - 1))).length cp5) (cutL b at_1 (IntKind.u64.wrap ((IntKind.u64.wrap (at_1 + z2.1)) - 1))), .row 65 ty53 (.slice ao3 s2.1.length cp3) s2.1, .ro (tI .u8) (.slice ao1 b.length cp1) b] := hs.addRo hr2
                  replace hf := Fr.keep (ks := [0, 4, 5, 7, 9, 11, 86]) (L' := [(0, .slice ao1 b.length cp1), (4, .slice ao3 s2.1.length cp3), (5, .int .u64 at_1), (7, .int .u64 z2.1), (9, .int .u64 z3.1), (11, .int .u64 z4.1), (86, .slice ao5 (cutL b at_1 (IntKind.u64.wrap ((IntKind.u64.wrap (at_1 + z2.1)) - 1))).length cp5)]) hf (by kernel_rfl)
                  refine b2sR tbOk u22 u5 u9 (hs.raR 0 rfl) hf (by kernel_rfl) (by kernel_rfl) (by kernel_rfl) ?_
                  clear hf; clear a; intro a hf
                  replace hs : Sep w F R w10 F10 [.row 65 ty53 (.slice ao3 s2.1.length cp3) s2.1, .ro (tI .u8) (.slice ao1 b.length cp1) b] := hs.sel [1, 2] rfl rfl
                  replace hf := Fr.keep (ks := [0, 4, 5, 7, 9, 11, 87]) (L' := [(0, .slice ao1 b.length cp1), (4, .slice ao3 s2.1.length cp3), (5, .int .u64 at_1), (7, .int .u64 z2.1), (9, .int .u64 z3.1), (11, .int .u64 z4.1), (87, strV (toStr (cutL b at_1 (IntKind.u64.wrap ((IntKind.u64.wrap (at_1 + z2.1)) - 1)))))]) hf (by kernel_rfl)
                  have hT := of_let hS; clear hS; obtain ⟨name_1, hl3, hS⟩ := hT
                  refine st tbOk 1 [0, 4, 5, 7, 9, 11, 14] (L' := [(0, .slice ao1 b.length cp1), (4, .slice ao3 s2.1.length cp3), (5, .int .u64 at_1), (7, .int .u64 z2.1), (9, .int .u64 z3.1), (11, .int .u64 z4.1), (14, strV name_1)]) hf (by subst hl3; kernel_rfl) ?_
                  clear hf; clear a; intro a hf
                  refine wpList_nil ?_
                  refine sq ?_
                  refine reg ?_
                  refine st tbOk 2 [0, 4, 9, 11, 14, 88, 89] (L' := [(0, .slice ao1 b.length cp1), (4, .slice ao3 s2.1.length cp3), (9, .int .u64 z3.1), (11, .int .u64 z4.1), (14, strV name_1), (88, .int .u64 at_1), (89, .int .u64 z2.1)]) hf (by kernel_rfl) ?_
                  clear hf; clear a; intro a hf
                  have hT := of_bd hS; clear hS; obtain ⟨z8, hz8, hS⟩ := hT
                  refine clV ent45 (vs := [.int .u64 z2.1]) (caps := []) hf (by kernel_rfl) (by kernel_rfl) (by kernel_rfl) (by kernel_rfl) (ref08_up_ok (n := z2.1) (hs.enter [] rfl rfl) hz8) ?_
                  clear hf; clear a; intro v w11 a hT hf; obtain ⟨F13, rfl, hr⟩ := hT
                  replace hs : Sep w F R w11 F13 [.row 65 ty53 (.slice ao3 s2.1.length cp3) s2.1, .ro (tI .u8) (.slice ao1 b.length cp1) b] := hs.back [] [0, 1] rfl rfl rfl rfl hr
                  clear hr
                  replace hf := Fr.keep (ks := [0, 4, 9, 11, 14, 88, 90]) (L' := [(0, .slice ao1 b.length cp1), (4, .slice ao3 s2.1.length cp3), (9, .int .u64 z3.1), (11, .int .u64 z4.1), (14, strV name_1), (88, .int .u64 at_1), (90, .int .u64 z8)]) hf (by kernel_rfl)
                  have hT := of_let hS; clear hS; obtain ⟨at_2, hl4, hS⟩ := hT
                  refine st tbOk 2 [0, 4, 5, 9, 11, 14] (L' := [(0, .slice ao1 b.length cp1), (4, .slice ao3 s2.1.length cp3), (5, .int .u64 at_2), (9, .int .u64 z3.1), (11, .int .u64 z4.1), (14, strV name_1)]) hf (by subst hl4; kernel_rfl) ?_
                  clear hf; clear a; intro a hf
                  refine wpList_nil ?_
                  refine sq ?_
                  refine reg ?_
                  refine st tbOk 4 [0, 4, 5, 9, 11, 14, 93, 94, 95] (L' := [(0, .slice ao1 b.length cp1), (4, .slice ao3 s2.1.length cp3), (5, .int .u64 at_2), (9, .int .u64 z3.1), (11, .int .u64 z4.1), (14, strV name_1), (93, .int .i64 ((b.length : Nat) : Int)), (94, .int .u64 at_2), (95, .int .u64 z3.1)]) hf (by kernel_rfl) ?_
                  clear hf; clear a; intro a hf
                  have hT := of_bd hS; clear hS; obtain ⟨z9, hz9, hS⟩ := hT
                  refine clV ent45 (vs := [.int .u64 z3.1]) (caps := []) hf (by kernel_rfl) (by kernel_rfl) (by kernel_rfl) (by kernel_rfl) (ref08_up_ok (n := z3.1) (hs.enter [] rfl rfl) hz9) ?_
                  clear hf; clear a; intro v w12 a hT hf; obtain ⟨F14, rfl, hr⟩ := hT
                  replace hs : Sep w F R w12 F14 [.row 65 ty53 (.slice ao3 s2.1.length cp3) s2.1, .ro (tI .u8) (.slice ao1 b.length cp1) b] := hs.back [] [0, 1] rfl rfl rfl rfl hr
                  clear hr
                  replace hf := Fr.keep (ks := [0, 4, 5, 9, 11, 14, 93, 94, 96]) (L' := [(0, .slice ao1 b.length cp1), (4, .slice ao3 s2.1.length cp3), (5, .int .u64 at_2), (9, .int .u64 z3.1), (11, .int .u64 z4.1), (14, strV name_1), (93, .int .i64 ((b.length : Nat) : Int)), (94, .int .u64 at_2), (96, .int .u64 z9)]) hf (by kernel_rfl)
                  have hT := of_bd hS; clear hS; obtain ⟨z10, hz10, hS⟩ := hT
                  refine clV ent43 (vs := [.int .i64 ((b.length : Nat) : Int), .int .u64 at_2, .int .u64 z9]) (caps := []) hf (by kernel_rfl) (by kernel_rfl) (by kernel_rfl) (by kernel_rfl) (ref01_Inside_ok (p_many := ((b.length : Nat) : Int)) (p_at := at_2) (size := z9) (hs.enter [] rfl rfl) hz10) ?_
                  clear hf; clear a; intro v w13 a hT hf; obtain ⟨F15, rfl, hr⟩ := hT
                  replace hs : Sep w F R w13 F15 [.row 65 ty53 (.slice ao3 s2.1.length cp3) s2.1, .ro (tI .u8) (.slice ao1 b.length cp1) b] := hs.back [] [0, 1] rfl rfl rfl rfl hr
                  clear hr
                  replace hf := Fr.keep (ks := [0, 4, 5, 9, 11, 14, 97]) (L' := [(0, .slice ao1 b.length cp1), (4, .slice ao3 s2.1.length cp3), (5, .int .u64 at_2), (9, .int .u64 z3.1), (11, .int .u64 z4.1), (14, strV name_1), (97, .bool z10)]) hf (by kernel_rfl)
                  refine st tbOk 1 [0, 4, 5, 6, 9, 11, 14] (L' := [(0, .slice ao1 b.length cp1), (4, .slice ao3 s2.1.length cp3), (5, .int .u64 at_2), (6, .bool z10), (9, .int .u64 z3.1), (11, .int .u64 z4.1), (14, strV name_1)]) hf (by kernel_rfl) ?_
                  clear hf; clear a; intro a hf
                  refine wpList_nil ?_
                  refine sq ?_
                  refine sq ?_
                  refine reg ?_
                  refine st tbOk 2 [0, 4, 5, 9, 11, 14, 99] (L' := [(0, .slice ao1 b.length cp1), (4, .slice ao3 s2.1.length cp3), (5, .int .u64 at_2), (9, .int .u64 z3.1), (11, .int .u64 z4.1), (14, strV name_1), (99, .bool (!z10))]) hf (by kernel_rfl) ?_
                  clear hf; clear a; intro a hf
                  refine wpList_nil ?_
                  refine cnd (b := !z10) hf (by kernel_rfl) (fun hb8 => ?_) (fun hb8 => ?_)
                  · replace hS := of_t hb8 hS
                    refine sq ?_
                    refine reg ?_
                    refine st tbOk 2 [2, 3] (L' := [(2, .slice none 0 0), (3, .int .i64 10)]) hf (by kernel_rfl) ?_
                    clear hf; clear a; intro a hf
                    refine wpList_nil ?_
                    have hr := Option.some.inj hS; subst hr
                    refine wp_ret ?_
                    replace hs : Sep w F R w13 F15 [.row 65 ty53 (.slice none 0 0) ([] : List ((List UInt8) × Int × (List Int))), .row 65 ty53 (.slice ao3 s2.1.length cp3) s2.1, .ro (tI .u8) (.slice ao1 b.length cp1) b] := hs.addNil 65 ty53
                    exact ret_ok hf (vs := [.slice none 0 0, .int .i64 10]) (by kernel_rfl) ⟨none, 0, _, rfl, hs.sel [0] rfl rfl⟩
                  · replace hS := of_f hb8 hS
                    refine wp_skip ?_
                    refine sq ?_
                    refine sq ?_
                    refine reg ?_
                    refine st tbOk 2 [0, 4, 5, 9, 11, 14, 15] (L' := [(0, .slice ao1 b.length cp1), (4, .slice ao3 s2.1.length cp3), (5, .int .u64 at_2), (9, .int .u64 z3.1), (11, .int .u64 z4.1), (14, strV name_1), (15, .int .u64 z3.1)]) hf (by kernel_rfl) ?_
                    clear hf; clear a; intro a hf
                    refine wpList_nil ?_
                    refine ctj (fun (s6 : Unit) (a : Act) (w' : World) => ∃ (F16 : SH), Sep w F R w' F16 [.row 65 ty53 (.slice ao3 s2.1.length cp3) s2.1, .ro (tI .u8) (.slice ao1 b.length cp1) b] ∧ Fr 132 [(0, .slice ao1 b.length cp1), (4, .slice ao3 s2.1.length cp3), (5, .int .u64 at_2), (9, .int .u64 z3.1), (11, .int .u64 z4.1), (14, strV name_1)] a) hS ?_ ?_
                    · clear hS hf hs; clear a; intro s6 a w16 hM hS
                      obtain ⟨F16, hs, hf⟩ := hM
                      refine sq ?_
                      refine reg ?_
                      refine st tbOk 9 [0, 5, 9, 114, 115, 117, 118, 119, 122] (L' := [(0, .slice ao1 b.length cp1), (5, .int .u64 at_2), (9, .int .u64 z3.1), (114, .slice ao3 s2.1.length cp3), (115, strV name_1), (117, .int .u32 (IntKind.u32.wrap z4.1)), (118, .slice ao1 b.length cp1), (119, .int .u64 at_2), (122, .int .u64 (IntKind.u64.wrap (at_2 + z3.1)))]) hf (by kernel_rfl) ?_
                      clear hf; clear a; intro a hf
                      have hT := of_gd hS; clear hS; obtain ⟨hc4, hS⟩ := hT
                      refine sl tbOk u22 i5 rfl (hs.ro 1 rfl) (lo := at_2) (hi := IntKind.u64.wrap (at_2 + z3.1)) (m := 0) hc4 (.inr ⟨_, .u64, rfl, by kernel_rfl⟩) (.inr ⟨_, .u64, rfl, by kernel_rfl⟩) (.inl rfl) hf (by kernel_rfl) (by kernel_rfl) (by kernel_rfl) ?_
                      clear hf; clear a; intro ao6 cp6 a hr4 hf
                      replace hs : Sep w F R w16 F16 [.ro (tI .u8) (.slice ao6 (cutL b at_2 (IntKind.u64.wrap (at_2 + z3.1))).length cp6) (cutL b at_2 (IntKind.u64.wrap (at_2 + z3.1))), .row 65 ty53 (.slice ao3 s2.1.length cp3) s2.1, .ro (tI .u8) (.slice ao1 b.length cp1) b] := hs.addRo hr4
                      replace hf := Fr.keep (ks := [0, 5, 9, 114, 115, 117, 123]) (L' := [(0, .slice ao1 b.length cp1), (5, .int .u64 at_2), (9, .int .u64 z3.1), (114, .slice ao3 s2.1.length cp3), (115, strV name_1), (117, .int .u32 (IntKind.u32.wrap z4.1)), (123, .slice ao6 (cutL b at_2 (IntKind.u64.wrap (at_2 + z3.1))).length cp6)]) hf (by kernel_rfl)
                      refine st tbOk 1 [0, 5, 9, 114, 124] (L' := [(0, .slice ao1 b.length cp1), (5, .int .u64 at_2), (9, .int .u64 z3.1), (114, .slice ao3 s2.1.length cp3), (124, .agg #[strV name_1, .int .u32 (IntKind.u32.wrap z4.1), .slice ao6 (cutL b at_2 (IntKind.u64.wrap (at_2 + z3.1))).length cp6])]) hf (by kernel_rfl) ?_
                      clear hf; clear a; intro a hf
                      refine bsR tbOk u42 i65 rfl (t := ty53) (vs := [(0, .agg #[strV name_1, .int .u32 (IntKind.u32.wrap z4.1), .slice ao6 (cutL b at_2 (IntKind.u64.wrap (at_2 + z3.1))).length cp6])]) (cells := #[strV name_1, .int .u32 (IntKind.u32.wrap z4.1), .slice ao6 (cutL b at_2 (IntKind.u64.wrap (at_2 + z3.1))).length cp6]) ([(name_1, IntKind.u32.wrap z4.1, (cutL b at_2 (IntKind.u64.wrap (at_2 + z3.1))))] : List ((List UInt8) × Int × (List Int))) hs.le hf (by kernel_rfl) (by kernel_rfl) (by kernel_rfl) rfl (by kernel_rfl) ⟨_, _, rfl, ⟨ao6, cp6, rfl, hs.ro 0 rfl⟩, rfl⟩ rfl ?_
                      clear hf; clear a; intro w17 a ho hx hf
                      replace hs : Sep w F R w17 F16 [.row 65 ty53 (.slice (some ⟨w16.heap.size, 0, none⟩) ([(name_1, IntKind.u32.wrap z4.1, (cutL b at_2 (IntKind.u64.wrap (at_2 + z3.1))))] : List ((List UInt8) × Int × (List Int))).length ([(name_1, IntKind.u32.wrap z4.1, (cutL b at_2 (IntKind.u64.wrap (at_2 + z3.1))))] : List ((List UInt8) × Int × (List Int))).length) ([(name_1, IntKind.u32.wrap z4.1, (cutL b at_2 (IntKind.u64.wrap (at_2 + z3.1))))] : List ((List UInt8) × Int × (List Int))), .ro (tI .u8) (.slice ao6 (cutL b at_2 (IntKind.u64.wrap (at_2 + z3.1))).length cp6) (cutL b at_2 (IntKind.u64.wrap (at_2 + z3.1))), .row 65 ty53 (.slice ao3 s2.1.length cp3) s2.1, .ro (tI .u8) (.slice ao1 b.length cp1) b] := hs.newRow ho hx
                      clear ho hx
                      replace hs : Sep w F R w17 F16 [.row 65 ty53 (.slice (some ⟨w16.heap.size, 0, none⟩) ([(name_1, IntKind.u32.wrap z4.1, (cutL b at_2 (IntKind.u64.wrap (at_2 + z3.1))))] : List ((List UInt8) × Int × (List Int))).length ([(name_1, IntKind.u32.wrap z4.1, (cutL b at_2 (IntKind.u64.wrap (at_2 + z3.1))))] : List ((List UInt8) × Int × (List Int))).length) ([(name_1, IntKind.u32.wrap z4.1, (cutL b at_2 (IntKind.u64.wrap (at_2 + z3.1))))] : List ((List UInt8) × Int × (List Int))), .row 65 ty53 (.slice ao3 s2.1.length cp3) s2.1, .ro (tI .u8) (.slice ao1 b.length cp1) b] := hs.sel [0, 2, 3] rfl rfl
                      replace hf := Fr.keep (ks := [0, 5, 9, 114, 125]) (L' := [(0, .slice ao1 b.length cp1), (5, .int .u64 at_2), (9, .int .u64 z3.1), (114, .slice ao3 s2.1.length cp3), (125, .slice (some ⟨w16.heap.size, 0, none⟩) ([(name_1, IntKind.u32.wrap z4.1, (cutL b at_2 (IntKind.u64.wrap (at_2 + z3.1))))] : List ((List UInt8) × Int × (List Int))).length ([(name_1, IntKind.u32.wrap z4.1, (cutL b at_2 (IntKind.u64.wrap (at_2 + z3.1))))] : List ((List UInt8) × Int × (List Int))).length)]) hf (by kernel_rfl)
                      have hT := of_gd hS; clear hS; obtain ⟨hc5, hS⟩ := hT
                      refine apR tbOk u42 i65 rfl rfl rfl rfl hs.le (hs.own 1 rfl) (hs.raW 0 rfl) hc5 hf (by kernel_rfl) (by kernel_rfl) (by kernel_rfl) (by kernel_rfl) ?_
                      clear hf; clear a; intro ao7 cp7 w18 a ho hg hl hf
                      replace hs : Sep w F R w18 F16 [.row 65 ty53 (.slice (some ⟨w16.heap.size, 0, none⟩) ([(name_1, IntKind.u32.wrap z4.1, (cutL b at_2 (IntKind.u64.wrap (at_2 + z3.1))))] : List ((List UInt8) × Int × (List Int))).length ([(name_1, IntKind.u32.wrap z4.1, (cutL b at_2 (IntKind.u64.wrap (at_2 + z3.1))))] : List ((List UInt8) × Int × (List Int))).length) ([(name_1, IntKind.u32.wrap z4.1, (cutL b at_2 (IntKind.u64.wrap (at_2 + z3.1))))] : List ((List UInt8) × Int × (List Int))), .row 65 ty53 (.slice ao7 (s2.1 ++ ([(name_1, IntKind.u32.wrap z4.1, (cutL b at_2 (IntKind.u64.wrap (at_2 + z3.1))))] : List ((List UInt8) × Int × (List Int)))).length cp7) (s2.1 ++ ([(name_1, IntKind.u32.wrap z4.1, (cutL b at_2 (IntKind.u64.wrap (at_2 + z3.1))))] : List ((List UInt8) × Int × (List Int)))), .ro (tI .u8) (.slice ao1 b.length cp1) b] := hs.updRow 1 rfl ho hg hl
                      clear ho hg hl
                      replace hs : Sep w F R w18 F16 [.row 65 ty53 (.slice ao7 (s2.1 ++ ([(name_1, IntKind.u32.wrap z4.1, (cutL b at_2 (IntKind.u64.wrap (at_2 + z3.1))))] : List ((List UInt8) × Int × (List Int)))).length cp7) (s2.1 ++ ([(name_1, IntKind.u32.wrap z4.1, (cutL b at_2 (IntKind.u64.wrap (at_2 + z3.1))))] : List ((List UInt8) × Int × (List Int)))), .ro (tI .u8) (.slice ao1 b.length cp1) b] := hs.sel [1, 2] rfl rfl
                      replace hf := Fr.keep (ks := [0, 5, 9, 126]) (L' := [(0, .slice ao1 b.length cp1), (5, .int .u64 at_2), (9, .int .u64 z3.1), (126, .slice ao7 (s2.1 ++ ([(name_1, IntKind.u32.wrap z4.1, (cutL b at_2 (IntKind.u64.wrap (at_2 + z3.1))))] : List ((List UInt8) × Int × (List Int)))).length cp7)]) hf (by kernel_rfl)
                      refine st tbOk 1 [0, 4, 5, 9] (L' := [(0, .slice ao1 b.length cp1), (4, .slice ao7 (s2.1 ++ ([(name_1, IntKind.u32.wrap z4.1, (cutL b at_2 (IntKind.u64.wrap (at_2 + z3.1))))] : List ((List UInt8) × Int × (List Int)))).length cp7), (5, .int .u64 at_2), (9, .int .u64 z3.1)]) hf (by kernel_rfl) ?_
                      clear hf; clear a; intro a hf
                      refine wpList_nil ?_
                      refine reg ?_
                      refine st tbOk 2 [0, 4, 127, 128] (L' := [(0, .slice ao1 b.length cp1), (4, .slice ao7 (s2.1 ++ ([(name_1, IntKind.u32.wrap z4.1, (cutL b at_2 (IntKind.u64.wrap (at_2 + z3.1))))] : List ((List UInt8) × Int × (List Int)))).length cp7), (127, .int .u64 at_2), (128, .int .u64 z3.1)]) hf (by kernel_rfl) ?_
                      clear hf; clear a; intro a hf
                      have hT := of_bd hS; clear hS; obtain ⟨z12, hz12, hS⟩ := hT
                      refine clV ent45 (vs := [.int .u64 z3.1]) (caps := []) hf (by kernel_rfl) (by kernel_rfl) (by kernel_rfl) (by kernel_rfl) (ref08_up_ok (n := z3.1) (hs.enter [] rfl rfl) hz12) ?_
                      clear hf; clear a; intro v w19 a hT hf; obtain ⟨F19, rfl, hr⟩ := hT
                      replace hs : Sep w F R w19 F19 [.row 65 ty53 (.slice ao7 (s2.1 ++ ([(name_1, IntKind.u32.wrap z4.1, (cutL b at_2 (IntKind.u64.wrap (at_2 + z3.1))))] : List ((List UInt8) × Int × (List Int)))).length cp7) (s2.1 ++ ([(name_1, IntKind.u32.wrap z4.1, (cutL b at_2 (IntKind.u64.wrap (at_2 + z3.1))))] : List ((List UInt8) × Int × (List Int)))), .ro (tI .u8) (.slice ao1 b.length cp1) b] := hs.back [] [0, 1] rfl rfl rfl rfl hr
                      clear hr
                      replace hf := Fr.keep (ks := [0, 4, 127, 129]) (L' := [(0, .slice ao1 b.length cp1), (4, .slice ao7 (s2.1 ++ ([(name_1, IntKind.u32.wrap z4.1, (cutL b at_2 (IntKind.u64.wrap (at_2 + z3.1))))] : List ((List UInt8) × Int × (List Int)))).length cp7), (127, .int .u64 at_2), (129, .int .u64 z12)]) hf (by kernel_rfl)
                      have hT := of_let hS; clear hS; obtain ⟨at_3, hl6, hS⟩ := hT
                      refine st tbOk 2 [0, 4, 5] (L' := [(0, .slice ao1 b.length cp1), (4, .slice ao7 (s2.1 ++ ([(name_1, IntKind.u32.wrap z4.1, (cutL b at_2 (IntKind.u64.wrap (at_2 + z3.1))))] : List ((List UInt8) × Int × (List Int)))).length cp7), (5, .int .u64 at_3)]) hf (by subst hl6; kernel_rfl) ?_
                      clear hf; clear a; intro a hf
                      refine wpList_nil ?_
                      exact hK3 ((s2.1 ++ ([(name_1, IntKind.u32.wrap z4.1, (cutL b at_2 (IntKind.u64.wrap (at_2 + z3.1))))] : List ((List UInt8) × Int × (List Int)))), at_3) _ _ ⟨ao7, cp7, _, hs.sel [0, 1] rfl rfl, hf.keep (ks := [0, 4, 5]) (by kernel_rfl)⟩ hS
                    · clear hS; intro KK6 k4 hK6 hS
                      refine blk ?_
                      refine lp (st := z3.1) (fun (s7 : Int) (a : Act) (w' : World) => ∃ (F17 : SH), Sep w F R w' F17 [.row 65 ty53 (.slice ao3 s2.1.length cp3) s2.1, .ro (tI .u8) (.slice ao1 b.length cp1) b] ∧ Fr 132 [(0, .slice ao1 b.length cp1), (4, .slice ao3 s2.1.length cp3), (5, .int .u64 at_2), (9, .int .u64 z3.1), (11, .int .u64 z4.1), (14, strV name_1), (15, .int .u64 s7)] a) ?_ ⟨_, hs.sel [0, 1] rfl rfl, hf.keep (ks := [0, 4, 5, 9, 11, 14, 15]) (by kernel_rfl)⟩ hS
                      clear hS hf hs; clear a
                      intro rec3 KK7 hK7 s7 a w14 hM hS
                      obtain ⟨F17, hs, hf⟩ := hM
                      refine sq ?_
                      refine sq ?_
                      refine reg ?_
                      refine st tbOk 2 [0, 4, 5, 9, 11, 14, 15, 101, 102] (L' := [(0, .slice ao1 b.length cp1), (4, .slice ao3 s2.1.length cp3), (5, .int .u64 at_2), (9, .int .u64 z3.1), (11, .int .u64 z4.1), (14, strV name_1), (15, .int .u64 s7), (101, .int .u64 s7), (102, .int .u64 z3.1)]) hf (by kernel_rfl) ?_
                      clear hf; clear a; intro a hf
                      have hT := of_bd hS; clear hS; obtain ⟨z11, hz11, hS⟩ := hT
                      refine clV ent45 (vs := [.int .u64 z3.1]) (caps := []) hf (by kernel_rfl) (by kernel_rfl) (by kernel_rfl) (by kernel_rfl) (ref08_up_ok (n := z3.1) (hs.enter [] rfl rfl) hz11) ?_
                      clear hf; clear a; intro v w15 a hT hf; obtain ⟨F18, rfl, hr⟩ := hT
                      replace hs : Sep w F R w15 F18 [.row 65 ty53 (.slice ao3 s2.1.length cp3) s2.1, .ro (tI .u8) (.slice ao1 b.length cp1) b] := hs.back [] [0, 1] rfl rfl rfl rfl hr
                      clear hr
                      replace hf := Fr.keep (ks := [0, 4, 5, 9, 11, 14, 15, 101, 103]) (L' := [(0, .slice ao1 b.length cp1), (4, .slice ao3 s2.1.length cp3), (5, .int .u64 at_2), (9, .int .u64 z3.1), (11, .int .u64 z4.1), (14, strV name_1), (15, .int .u64 s7), (101, .int .u64 s7), (103, .int .u64 z11)]) hf (by kernel_rfl)
                      refine st tbOk 1 [0, 4, 5, 9, 11, 14, 15, 104] (L' := [(0, .slice ao1 b.length cp1), (4, .slice ao3 s2.1.length cp3), (5, .int .u64 at_2), (9, .int .u64 z3.1), (11, .int .u64 z4.1), (14, strV name_1), (15, .int .u64 s7), (104, .bool (decide (s7 < z11)))]) hf (by kernel_rfl) ?_
                      clear hf; clear a; intro a hf
                      refine wpList_nil ?_
                      refine cnd (b := decide (s7 < z11)) hf (by kernel_rfl) (fun hb9 => ?_) (fun hb9 => ?_)
                      · replace hS := of_t hb9 hS
                        refine wp_skip ?_
                        refine sq ?_
                        refine blk ?_
                        refine sq ?_
                        refine reg ?_
                        refine st tbOk 4 [0, 4, 5, 9, 11, 14, 15, 107, 110] (L' := [(0, .slice ao1 b.length cp1), (4, .slice ao3 s2.1.length cp3), (5, .int .u64 at_2), (9, .int .u64 z3.1), (11, .int .u64 z4.1), (14, strV name_1), (15, .int .u64 s7), (107, .slice ao1 b.length cp1), (110, .int .u64 (IntKind.u64.wrap (at_2 + s7)))]) hf (by kernel_rfl) ?_
                        clear hf; clear a; intro a hf
                        have hT := of_gd hS; clear hS; obtain ⟨hc3, hS⟩ := hT
                        refine ixR tbOk u22 i5 rfl rfl ((hs.ro 1 rfl).ra (LeH.refl _)) (k := .u64) (n := IntKind.u64.wrap (at_2 + s7)) hc3 hf (by kernel_rfl) (by kernel_rfl) (by kernel_rfl) (by kernel_rfl) ?_
                        clear hf; clear a; intro pb2 po2 c2 a hp2 hr3 hf
                        obtain rfl : c2 = [.int .u8 (gt b (IntKind.u64.wrap (at_2 + s7)))] := hr3
                        replace hs : Sep w F R w15 F18 [.cel pb2 po2 [.int .u8 (gt b (IntKind.u64.wrap (at_2 + s7)))], .row 65 ty53 (.slice ao3 s2.1.length cp3) s2.1, .ro (tI .u8) (.slice ao1 b.length cp1) b] := hs.addCel hp2
                        replace hf := Fr.keep (ks := [0, 4, 5, 9, 11, 14, 15, 111]) (L' := [(0, .slice ao1 b.length cp1), (4, .slice ao3 s2.1.length cp3), (5, .int .u64 at_2), (9, .int .u64 z3.1), (11, .int .u64 z4.1), (14, strV name_1), (15, .int .u64 s7), (111, .pointer (some ⟨pb2, po2, none⟩))]) hf (by kernel_rfl)
                        refine ldC tbOk (T := 5) (hs.ccel 0 rfl) (LeH.refl _) 0 (.int .u8 (gt b (IntKind.u64.wrap (at_2 + s7)))) hf (by kernel_rfl) (by kernel_rfl) (by kernel_rfl) (by kernel_rfl) ?_
                        clear hf; clear a; intro a hf
                        replace hs : Sep w F R w15 F18 [.row 65 ty53 (.slice ao3 s2.1.length cp3) s2.1, .ro (tI .u8) (.slice ao1 b.length cp1) b] := hs.sel [1, 2] rfl rfl
                        replace hf := Fr.keep (ks := [0, 4, 5, 9, 11, 14, 15, 112]) (L' := [(0, .slice ao1 b.length cp1), (4, .slice ao3 s2.1.length cp3), (5, .int .u64 at_2), (9, .int .u64 z3.1), (11, .int .u64 z4.1), (14, strV name_1), (15, .int .u64 s7), (112, .int .u8 (gt b (IntKind.u64.wrap (at_2 + s7))))]) hf (by kernel_rfl)
                        refine st tbOk 1 [0, 4, 5, 9, 11, 14, 15, 113] (L' := [(0, .slice ao1 b.length cp1), (4, .slice ao3 s2.1.length cp3), (5, .int .u64 at_2), (9, .int .u64 z3.1), (11, .int .u64 z4.1), (14, strV name_1), (15, .int .u64 s7), (113, .bool ((gt b (IntKind.u64.wrap (at_2 + s7))) != 0))]) hf (by kernel_rfl) ?_
                        clear hf; clear a; intro a hf
                        refine wpList_nil ?_
                        refine cnd (b := (gt b (IntKind.u64.wrap (at_2 + s7))) != 0) hf (by kernel_rfl) (fun hb10 => ?_) (fun hb10 => ?_)
                        · replace hS := of_t hb10 hS
                          refine sq ?_
                          refine reg ?_
                          refine st tbOk 2 [2, 3] (L' := [(2, .slice none 0 0), (3, .int .i64 11)]) hf (by kernel_rfl) ?_
                          clear hf; clear a; intro a hf
                          refine wpList_nil ?_
                          have hr := Option.some.inj hS; subst hr
                          refine wp_ret ?_
                          replace hs : Sep w F R w15 F18 [.row 65 ty53 (.slice none 0 0) ([] : List ((List UInt8) × Int × (List Int))), .row 65 ty53 (.slice ao3 s2.1.length cp3) s2.1, .ro (tI .u8) (.slice ao1 b.length cp1) b] := hs.addNil 65 ty53
                          exact ret_ok hf (vs := [.slice none 0 0, .int .i64 11]) (by kernel_rfl) ⟨none, 0, _, rfl, hs.sel [0] rfl rfl⟩
                        · replace hS := of_f hb10 hS
                          refine wp_skip ?_
                          refine reg ?_
                          have hT := of_let hS; clear hS; obtain ⟨i_2, hl5, hS⟩ := hT
                          refine st tbOk 3 [0, 4, 5, 9, 11, 14, 15] (L' := [(0, .slice ao1 b.length cp1), (4, .slice ao3 s2.1.length cp3), (5, .int .u64 at_2), (9, .int .u64 z3.1), (11, .int .u64 z4.1), (14, strV name_1), (15, .int .u64 i_2)]) hf (by subst hl5; kernel_rfl) ?_
                          clear hf; clear a; intro a hf
                          refine wpList_nil ?_
                          exact hK7 i_2 _ _ ⟨_, hs.sel [0, 1] rfl rfl, hf.keep (ks := [0, 4, 5, 9, 11, 14, 15]) (by kernel_rfl)⟩ hS
                      · replace hS := of_f hb9 hS
                        refine wp_exit ?_
                        exact hK6 () _ _ ⟨_, hs.sel [0, 1] rfl rfl, hf.keep (ks := [0, 4, 5, 9, 11, 14]) (by kernel_rfl)⟩ hS
                · clear hS; intro KK4 k3 hK4 hS
                  refine blk ?_
                  refine lp (st := 0) (fun (s5 : Int) (a : Act) (w' : World) => ∃ (F11 : SH), Sep w F R w' F11 [.row 65 ty53 (.slice ao3 s2.1.length cp3) s2.1, .ro (tI .u8) (.slice ao1 b.length cp1) b] ∧ Fr 132 [(0, .slice ao1 b.length cp1), (4, .slice ao3 s2.1.length cp3), (5, .int .u64 at_1), (7, .int .u64 z2.1), (9, .int .u64 z3.1), (11, .int .u64 z4.1), (13, .int .u64 s5)] a) ?_ ⟨_, hs.sel [0, 1] rfl rfl, hf.keep (ks := [0, 4, 5, 7, 9, 11, 13]) (by kernel_rfl)⟩ hS
                  clear hS hf hs; clear a
                  intro rec2 KK5 hK5 s5 a w8 hM hS
                  obtain ⟨F11, hs, hf⟩ := hM
                  refine sq ?_
                  refine sq ?_
                  refine reg ?_
                  refine st tbOk 2 [0, 4, 5, 7, 9, 11, 13, 62, 63] (L' := [(0, .slice ao1 b.length cp1), (4, .slice ao3 s2.1.length cp3), (5, .int .u64 at_1), (7, .int .u64 z2.1), (9, .int .u64 z3.1), (11, .int .u64 z4.1), (13, .int .u64 s5), (62, .int .u64 s5), (63, .int .u64 z2.1)]) hf (by kernel_rfl) ?_
                  clear hf; clear a; intro a hf
                  have hT := of_bd hS; clear hS; obtain ⟨z7, hz7, hS⟩ := hT
                  refine clV ent45 (vs := [.int .u64 z2.1]) (caps := []) hf (by kernel_rfl) (by kernel_rfl) (by kernel_rfl) (by kernel_rfl) (ref08_up_ok (n := z2.1) (hs.enter [] rfl rfl) hz7) ?_
                  clear hf; clear a; intro v w9 a hT hf; obtain ⟨F12, rfl, hr⟩ := hT
                  replace hs : Sep w F R w9 F12 [.row 65 ty53 (.slice ao3 s2.1.length cp3) s2.1, .ro (tI .u8) (.slice ao1 b.length cp1) b] := hs.back [] [0, 1] rfl rfl rfl rfl hr
                  clear hr
                  replace hf := Fr.keep (ks := [0, 4, 5, 7, 9, 11, 13, 62, 64]) (L' := [(0, .slice ao1 b.length cp1), (4, .slice ao3 s2.1.length cp3), (5, .int .u64 at_1), (7, .int .u64 z2.1), (9, .int .u64 z3.1), (11, .int .u64 z4.1), (13, .int .u64 s5), (62, .int .u64 s5), (64, .int .u64 z7)]) hf (by kernel_rfl)
                  refine st tbOk 1 [0, 4, 5, 7, 9, 11, 13, 65] (L' := [(0, .slice ao1 b.length cp1), (4, .slice ao3 s2.1.length cp3), (5, .int .u64 at_1), (7, .int .u64 z2.1), (9, .int .u64 z3.1), (11, .int .u64 z4.1), (13, .int .u64 s5), (65, .bool (decide (s5 < z7)))]) hf (by kernel_rfl) ?_
                  clear hf; clear a; intro a hf
                  refine wpList_nil ?_
                  refine cnd (b := decide (s5 < z7)) hf (by kernel_rfl) (fun hb6 => ?_) (fun hb6 => ?_)
                  · replace hS := of_t hb6 hS
                    refine wp_skip ?_
                    refine sq ?_
                    refine blk ?_
                    refine sq ?_
                    refine reg ?_
                    refine st tbOk 4 [0, 4, 5, 7, 9, 11, 13, 68, 71] (L' := [(0, .slice ao1 b.length cp1), (4, .slice ao3 s2.1.length cp3), (5, .int .u64 at_1), (7, .int .u64 z2.1), (9, .int .u64 z3.1), (11, .int .u64 z4.1), (13, .int .u64 s5), (68, .slice ao1 b.length cp1), (71, .int .u64 (IntKind.u64.wrap (at_1 + s5)))]) hf (by kernel_rfl) ?_
                    clear hf; clear a; intro a hf
                    have hT := of_gd hS; clear hS; obtain ⟨hc1, hS⟩ := hT
                    refine ixR tbOk u22 i5 rfl rfl ((hs.ro 1 rfl).ra (LeH.refl _)) (k := .u64) (n := IntKind.u64.wrap (at_1 + s5)) hc1 hf (by kernel_rfl) (by kernel_rfl) (by kernel_rfl) (by kernel_rfl) ?_
                    clear hf; clear a; intro pb1 po1 c1 a hp1 hr1 hf
                    obtain rfl : c1 = [.int .u8 (gt b (IntKind.u64.wrap (at_1 + s5)))] := hr1
                    replace hs : Sep w F R w9 F12 [.cel pb1 po1 [.int .u8 (gt b (IntKind.u64.wrap (at_1 + s5)))], .row 65 ty53 (.slice ao3 s2.1.length cp3) s2.1, .ro (tI .u8) (.slice ao1 b.length cp1) b] := hs.addCel hp1
                    replace hf := Fr.keep (ks := [0, 4, 5, 7, 9, 11, 13, 72]) (L' := [(0, .slice ao1 b.length cp1), (4, .slice ao3 s2.1.length cp3), (5, .int .u64 at_1), (7, .int .u64 z2.1), (9, .int .u64 z3.1), (11, .int .u64 z4.1), (13, .int .u64 s5), (72, .pointer (some ⟨pb1, po1, none⟩))]) hf (by kernel_rfl)
                    refine ldC tbOk (T := 5) (hs.ccel 0 rfl) (LeH.refl _) 0 (.int .u8 (gt b (IntKind.u64.wrap (at_1 + s5)))) hf (by kernel_rfl) (by kernel_rfl) (by kernel_rfl) (by kernel_rfl) ?_
                    clear hf; clear a; intro a hf
                    replace hs : Sep w F R w9 F12 [.row 65 ty53 (.slice ao3 s2.1.length cp3) s2.1, .ro (tI .u8) (.slice ao1 b.length cp1) b] := hs.sel [1, 2] rfl rfl
                    replace hf := Fr.keep (ks := [0, 4, 5, 7, 9, 11, 13, 73]) (L' := [(0, .slice ao1 b.length cp1), (4, .slice ao3 s2.1.length cp3), (5, .int .u64 at_1), (7, .int .u64 z2.1), (9, .int .u64 z3.1), (11, .int .u64 z4.1), (13, .int .u64 s5), (73, .int .u8 (gt b (IntKind.u64.wrap (at_1 + s5))))]) hf (by kernel_rfl)
                    refine st tbOk 6 [0, 4, 5, 7, 9, 11, 13, 79] (L' := [(0, .slice ao1 b.length cp1), (4, .slice ao3 s2.1.length cp3), (5, .int .u64 at_1), (7, .int .u64 z2.1), (9, .int .u64 z3.1), (11, .int .u64 z4.1), (13, .int .u64 s5), (79, .bool (!(((gt b (IntKind.u64.wrap (at_1 + s5))) == 0) == (decide ((IntKind.u64.wrap (s5 + 1)) ≥ z2.1)))))]) hf (by kernel_rfl) ?_
                    clear hf; clear a; intro a hf
                    refine wpList_nil ?_
                    refine cnd (b := !(((gt b (IntKind.u64.wrap (at_1 + s5))) == 0) == (decide ((IntKind.u64.wrap (s5 + 1)) ≥ z2.1)))) hf (by kernel_rfl) (fun hb7 => ?_) (fun hb7 => ?_)
                    · replace hS := of_t hb7 hS
                      refine sq ?_
                      refine reg ?_
                      refine st tbOk 2 [2, 3] (L' := [(2, .slice none 0 0), (3, .int .i64 11)]) hf (by kernel_rfl) ?_
                      clear hf; clear a; intro a hf
                      refine wpList_nil ?_
                      have hr := Option.some.inj hS; subst hr
                      refine wp_ret ?_
                      replace hs : Sep w F R w9 F12 [.row 65 ty53 (.slice none 0 0) ([] : List ((List UInt8) × Int × (List Int))), .row 65 ty53 (.slice ao3 s2.1.length cp3) s2.1, .ro (tI .u8) (.slice ao1 b.length cp1) b] := hs.addNil 65 ty53
                      exact ret_ok hf (vs := [.slice none 0 0, .int .i64 11]) (by kernel_rfl) ⟨none, 0, _, rfl, hs.sel [0] rfl rfl⟩
                    · replace hS := of_f hb7 hS
                      refine wp_skip ?_
                      refine reg ?_
                      have hT := of_let hS; clear hS; obtain ⟨i_1, hl2, hS⟩ := hT
                      refine st tbOk 3 [0, 4, 5, 7, 9, 11, 13] (L' := [(0, .slice ao1 b.length cp1), (4, .slice ao3 s2.1.length cp3), (5, .int .u64 at_1), (7, .int .u64 z2.1), (9, .int .u64 z3.1), (11, .int .u64 z4.1), (13, .int .u64 i_1)]) hf (by subst hl2; kernel_rfl) ?_
                      clear hf; clear a; intro a hf
                      refine wpList_nil ?_
                      exact hK5 i_1 _ _ ⟨_, hs.sel [0, 1] rfl rfl, hf.keep (ks := [0, 4, 5, 7, 9, 11, 13]) (by kernel_rfl)⟩ hS
                  · replace hS := of_f hb6 hS
                    refine wp_exit ?_
                    exact hK4 () _ _ ⟨_, hs.sel [0, 1] rfl rfl, hf.keep (ks := [0, 4, 5, 7, 9, 11]) (by kernel_rfl)⟩ hS
      · replace hS := of_f hb2 hS
        refine wp_exit ?_
        exact hK1 s2.1 _ _ ⟨ao3, cp3, _, hs.sel [0] rfl rfl, hf.keep (ks := [4]) (by kernel_rfl)⟩ hS

end Dm
