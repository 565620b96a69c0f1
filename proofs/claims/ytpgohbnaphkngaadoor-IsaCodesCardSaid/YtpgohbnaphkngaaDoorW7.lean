/-
  The walks: a call of each Go function gives what its shallow form gives, where that form gives something; printed by a program of this repo. No condition.
-/
import Derived.Test.YtpgohbnaphkngaaDoorWT
import Derived.Test.YtpgohbnaphkngaaDoorW2
import Derived.Test.YtpgohbnaphkngaaDoorW4
namespace Dm
open Go Go.RowKit Go.Proofs

set_option maxHeartbeats 4000000 in
theorem ref12_Split_ok {w : World} {F : SH} {p_s : List UInt8}  (hs : Sep w F (blks []) w F []) {r : List (List UInt8)} (hS : ref12_Split p_s = some r) :
    Calls Tryd.prog 34 [strV p_s].toArray w (Gives (fun u w' => ∃ (ao7 : Option Addr) (cp7 : Nat) (F' : SH), u = .slice ao7 r.length cp7 ∧ Sep w F (blks []) w' F' [.row 9 tS (.slice ao7 r.length cp7) r])) := by
  generalize (blks []) = R at hs ⊢
  unfold ref12_Split at hS
  refine fn_ok (vs := [strV p_s]) Tryd.func34 rfl 35 Tryd.ntmps34 (Nat.le_of_ble_eq_true rfl) ?_
  intro a hf
  replace hf := Fr.cast (L' := [(0, strV p_s)]) hf (by kernel_rfl)
  refine sq ?_
  refine reg ?_
  refine st tbOk 1 [0] hf rfl ?_
  clear hf a; intro a hf
  refine wpList_nil ?_
  refine sq ?_
  refine reg ?_
  refine st tbOk 1 [0, 3] hf rfl ?_
  clear hf a; intro a hf
  refine wpList_nil ?_
  refine sq ?_
  refine reg ?_
  refine st tbOk 1 [0, 3, 4] hf rfl ?_
  clear hf a; intro a hf
  refine wpList_nil ?_
  refine sq ?_
  refine sq ?_
  refine reg ?_
  refine st tbOk 1 [0, 3, 4, 5] hf rfl ?_
  clear hf a; intro a hf
  refine wpList_nil ?_
  refine ctj (fun (s1 : List (List UInt8)) (a : Act) (w' : World) => ∃ (ao1 : Option Addr) (cp1 : Nat) (F1 : SH), Sep w F R w' F1 [.row 9 tS (.slice ao1 s1.length cp1) s1] ∧ Fr 35 [(3, .slice ao1 s1.length cp1)] a) hS ?_ ?_
  · clear hS hf hs; clear a; intro s1 a w8 hM hS
    obtain ⟨ao1, cp1, F1, hs, hf⟩ := hM
    refine sq ?_
    refine reg ?_
    refine st tbOk 2 [2] hf rfl ?_
    clear hf a; intro a hf
    refine wpList_nil ?_
    have hr := Option.some.inj hS; subst hr
    refine wp_ret ?_
    exact ret_ok hf (vs := [.slice ao1 s1.length cp1]) (by kernel_rfl) ⟨ao1, cp1, _, rfl, hs.sel [0] rfl rfl⟩
  clear hS; intro KK1 k1 hK1 hS
  refine blk ?_
  replace hs := hs.addNil 9 tS
  refine lp (st := ([], 0, 0)) (fun (s2 : (List (List UInt8)) × Int × Int) (a : Act) (w' : World) => ∃ (ao2 : Option Addr) (cp2 : Nat) (F2 : SH), Sep w F R w' F2 [.row 9 tS (.slice ao2 s2.1.length cp2) s2.1] ∧ Fr 35 [(0, strV p_s), (3, .slice ao2 s2.1.length cp2), (4, .int .i64 s2.2.1), (5, .int .i64 s2.2.2)] a) ?_ ⟨none, 0, _, hs.sel [0] rfl rfl, hf.keep (ks := [0, 3, 4, 5]) (by kernel_rfl)⟩ hS
  clear hS hf hs; clear a
  intro rec1 KK2 hK2 s2 a w1 hM hS
  obtain ⟨ao2, cp2, F2, hs, hf⟩ := hM
  refine sq ?_
  refine sq ?_
  refine reg ?_
  refine st tbOk 4 [0, 3, 4, 5, 9] hf rfl ?_
  clear hf a; intro a hf
  refine wpList_nil ?_
  refine cnd (b := decide (s2.2.2 ≤ ((p_s.length : Nat) : Int))) hf (by kernel_rfl) (fun hb1 => ?_) (fun hb1 => ?_)
  rotate_left
  · replace hS := of_f hb1 hS
    refine wp_exit ?_
    exact hK1 s2.1 _ _ ⟨ao2, cp2, _, hs.sel [0] rfl rfl, hf.keep (ks := [3]) (by kernel_rfl)⟩ hS
  replace hS := of_t hb1 hS
  refine wp_skip ?_
  refine sq ?_
  refine ctj (fun (s3 : (List (List UInt8)) × Int) (a : Act) (w' : World) => ∃ (ao3 : Option Addr) (cp3 : Nat) (F3 : SH), Sep w F R w' F3 [.row 9 tS (.slice ao3 s3.1.length cp3) s3.1] ∧ Fr 35 [(0, strV p_s), (3, .slice ao3 s3.1.length cp3), (4, .int .i64 s3.2), (5, .int .i64 s2.2.2)] a) hS ?_ ?_
  · clear hS hf hs; clear a; intro s3 a w7 hM hS
    obtain ⟨ao3, cp3, F3, hs, hf⟩ := hM
    refine reg ?_
    have hT := of_let hS; clear hS; obtain ⟨i_1, hl2, hS⟩ := hT
    refine st tbOk 3 [0, 3, 4, 5] (L' := [(0, strV p_s), (3, .slice ao3 s3.1.length cp3), (4, .int .i64 s3.2), (5, .int .i64 i_1)]) hf (by subst hl2; kernel_rfl) ?_
    clear hf a; intro a hf
    refine wpList_nil ?_
    exact hK2 (s3.1, s3.2, i_1) _ _ ⟨ao3, cp3, _, hs.sel [0] rfl rfl, hf.keep (ks := [0, 3, 4, 5]) (by kernel_rfl)⟩ hS
  clear hS; intro KK3 k2 hK3 hS
  refine blk ?_
  refine sq ?_
  refine ctj (fun (s4 : Bool) (a : Act) (w' : World) => ∃ (F4 : SH), Sep w F R w' F4 [.row 9 tS (.slice ao2 s2.1.length cp2) s2.1] ∧ Fr 35 [(0, strV p_s), (3, .slice ao2 s2.1.length cp2), (4, .int .i64 s2.2.1), (5, .int .i64 s2.2.2), (21, .bool s4)] a) hS ?_ ?_
  rotate_left
  · clear hS; intro KK4 k3 hK4 hS
    refine reg ?_
    refine st tbOk 5 [0, 3, 4, 5, 16] hf rfl ?_
    clear hf a; intro a hf
    rcases Bool.eq_false_or_eq_true (s2.2.2 == ((p_s.length : Nat) : Int)) with hb2 | hb2
    · replace hS := of_t hb2 hS
      replace hf := hf.castB hb2 (fun qb => [(0, strV p_s), (3, .slice ao2 s2.1.length cp2), (4, .int .i64 s2.2.1), (5, .int .i64 s2.2.2), (16, .bool qb)]) (by kernel_rfl)
      refine st tbOk 5 [0, 3, 4, 5, 21] hf rfl ?_
      clear hf a; intro a hf
      refine wpList_nil ?_
      exact hK4 true _ _ ⟨_, hs.sel [0] rfl rfl, hf.keep (ks := [0, 3, 4, 5, 21]) (by kernel_rfl)⟩ hS
    replace hS := of_f hb2 hS
    replace hf := hf.castB hb2 (fun qb => [(0, strV p_s), (3, .slice ao2 s2.1.length cp2), (4, .int .i64 s2.2.1), (5, .int .i64 s2.2.2), (16, .bool qb)]) (by kernel_rfl)
    refine st tbOk 2 [0, 3, 4, 5, 16, 17, 18] hf rfl ?_
    clear hf a; intro a hf
    have hT := of_gd hS; clear hS; obtain ⟨hc1, hS⟩ := hT
    refine ixS tbOk u9 (p := p_s) (k := .i64) (n := s2.2.2) hc1 hf (by kernel_rfl) (by kernel_rfl) (by kernel_rfl) (by kernel_rfl) ?_
    clear hf a; intro a hf
    replace hf := hf.keep (ks := [0, 3, 4, 5, 16, 19]) rfl
    refine st tbOk 2 [0, 3, 4, 5, 21] hf rfl ?_
    clear hf a; intro a hf
    refine wpList_nil ?_
    exact hK4 (((p_s.getD (Int.toNat s2.2.2) 0).toNat : Int) == 32) _ _ ⟨_, hs.sel [0] rfl rfl, hf.keep (ks := [0, 3, 4, 5, 21]) (by kernel_rfl)⟩ hS
  clear hS hf hs; clear a; intro s4 a w2 hM hS
  obtain ⟨F4, hs, hf⟩ := hM
  refine ctj (fun (s5 : (List (List UInt8)) × Int) (a : Act) (w' : World) => ∃ (ao4 : Option Addr) (cp4 : Nat) (F5 : SH), Sep w F R w' F5 [.row 9 tS (.slice ao4 s5.1.length cp4) s5.1] ∧ Fr 35 [(0, strV p_s), (3, .slice ao4 s5.1.length cp4), (4, .int .i64 s5.2), (5, .int .i64 s2.2.2)] a) hS ?_ ?_
  · clear hS hf hs; clear a; intro s5 a w6 hM hS
    obtain ⟨ao4, cp4, F5, hs, hf⟩ := hM
    exact hK3 (s5.1, s5.2) _ _ ⟨ao4, cp4, _, hs.sel [0] rfl rfl, hf.keep (ks := [0, 3, 4, 5]) (by kernel_rfl)⟩ hS
  clear hS; intro KK5 k4 hK5 hS
  refine cnd (b := s4) hf (by kernel_rfl) (fun hb3 => ?_) (fun hb3 => ?_)
  rotate_left
  · replace hS := of_f hb3 hS
    refine wp_skip ?_
    exact hK5 (s2.1, s2.2.1) _ _ ⟨ao2, cp2, _, hs.sel [0] rfl rfl, hf.keep (ks := [0, 3, 4, 5]) (by kernel_rfl)⟩ hS
  replace hS := of_t hb3 hS
  refine sq ?_
  refine sq ?_
  refine reg ?_
  refine st tbOk 3 [0, 3, 4, 5, 24] hf rfl ?_
  clear hf a; intro a hf
  refine wpList_nil ?_
  refine ctj (fun (s6 : List (List UInt8)) (a : Act) (w' : World) => ∃ (ao5 : Option Addr) (cp5 : Nat) (F6 : SH), Sep w F R w' F6 [.row 9 tS (.slice ao5 s6.length cp5) s6] ∧ Fr 35 [(0, strV p_s), (3, .slice ao5 s6.length cp5), (5, .int .i64 s2.2.2)] a) hS ?_ ?_
  · clear hS hf hs; clear a; intro s6 a w5 hM hS
    obtain ⟨ao5, cp5, F6, hs, hf⟩ := hM
    refine reg ?_
    have hT := of_let hS; clear hS; obtain ⟨from_1, hl1, hS⟩ := hT
    refine st tbOk 3 [0, 3, 4, 5] (L' := [(0, strV p_s), (3, .slice ao5 s6.length cp5), (4, .int .i64 from_1), (5, .int .i64 s2.2.2)]) hf (by subst hl1; kernel_rfl) ?_
    clear hf a; intro a hf
    refine wpList_nil ?_
    exact hK5 (s6, from_1) _ _ ⟨ao5, cp5, _, hs.sel [0] rfl rfl, hf.keep (ks := [0, 3, 4, 5]) (by kernel_rfl)⟩ hS
  clear hS; intro KK6 k5 hK6 hS
  refine cnd (b := decide (s2.2.2 > s2.2.1)) hf (by kernel_rfl) (fun hb4 => ?_) (fun hb4 => ?_)
  rotate_left
  · replace hS := of_f hb4 hS
    refine wp_skip ?_
    exact hK6 s2.1 _ _ ⟨ao2, cp2, _, hs.sel [0] rfl rfl, hf.keep (ks := [0, 3, 5]) (by kernel_rfl)⟩ hS
  replace hS := of_t hb4 hS
  refine reg ?_
  refine st tbOk 4 [0, 5, 25, 26, 27, 28] hf rfl ?_
  clear hf a; intro a hf
  have hT := of_gd hS; clear hS; obtain ⟨hc2, hS⟩ := hT
  refine cutS tbOk u9 (p := p_s) (lo := s2.2.1) (hi := s2.2.2) hc2 (.inr ⟨_, .i64, rfl, by kernel_rfl⟩) (.inr ⟨_, .i64, rfl, by kernel_rfl⟩) hf (by kernel_rfl) (by kernel_rfl) (by kernel_rfl) ?_
  clear hf a; intro a hf
  replace hf := hf.keep (ks := [0, 5, 25, 29]) rfl
  refine bsR tbOk u53 i9 rfl (t := tS) (vs := [(0, strV (cutL p_s s2.2.1 s2.2.2))]) (cells := #[strV (cutL p_s s2.2.1 s2.2.2)]) ([(cutL p_s s2.2.1 s2.2.2)] : List (List UInt8)) hs.le hf (by kernel_rfl) (by kernel_rfl) (by kernel_rfl) rfl (by kernel_rfl) (reps_flat _) rfl ?_
  clear hf; clear a; intro w3 a ho hx hf
  replace hs := hs.newRow ho hx
  clear ho hx
  replace hf := hf.keep (ks := [0, 5, 25, 30]) rfl
  have hT := of_gd hS; clear hS; obtain ⟨hc3, hS⟩ := hT
  refine apR tbOk u53 i9 rfl rfl rfl rfl hs.le (hs.own 1 rfl) (hs.raW 0 rfl) hc3 hf (by kernel_rfl) (by kernel_rfl) (by kernel_rfl) (by kernel_rfl) ?_
  clear hf; clear a; intro ao6 cp6 w4 a ho hg hl hf
  replace hs := (hs.updRow 1 rfl ho hg hl).nf rfl
  clear ho hg hl
  replace hs := hs.sel [1] rfl rfl
  replace hf := hf.keep (ks := [0, 5, 31]) rfl
  refine st tbOk 1 [0, 3, 5] hf rfl ?_
  clear hf a; intro a hf
  refine wpList_nil ?_
  exact hK6 (s2.1 ++ ([(cutL p_s s2.2.1 s2.2.2)] : List (List UInt8))) _ _ ⟨ao6, cp6, _, hs.sel [0] rfl rfl, hf.keep (ks := [0, 3, 5]) (by kernel_rfl)⟩ hS

set_option maxHeartbeats 4000000 in
theorem ref12_read_ok {w : World} {F : SH} {p_s : List UInt8}  (hs : Sep w F (blks []) w F []) {r : Int} (hS : ref12_read p_s = some r) :
    Calls Tryd.prog 35 [strV p_s].toArray w (Gives (fun u w' => ∃ (F' : SH), u = .int .i64 r ∧ Sep w F (blks []) w' F' [])) := by
  generalize (blks []) = R at hs ⊢
  unfold ref12_read at hS
  refine fn_ok (vs := [strV p_s]) Tryd.func35 rfl 52 Tryd.ntmps35 (Nat.le_of_ble_eq_true rfl) ?_
  intro a hf
  replace hf := Fr.cast (L' := [(0, strV p_s)]) hf (by kernel_rfl)
  refine sq ?_
  refine reg ?_
  refine st tbOk 1 [0] hf rfl ?_
  clear hf a; intro a hf
  refine wpList_nil ?_
  refine sq ?_
  refine reg ?_
  refine st tbOk 1 [0, 3] hf rfl ?_
  clear hf a; intro a hf
  refine wpList_nil ?_
  refine sq ?_
  refine reg ?_
  refine st tbOk 1 [0, 3, 4] hf rfl ?_
  clear hf a; intro a hf
  refine wpList_nil ?_
  refine sq ?_
  refine sq ?_
  refine ctj (fun (s1 : Bool) (a : Act) (w' : World) => ∃ (F1 : SH), Sep w F R w' F1 [] ∧ Fr 52 [(0, strV p_s), (3, .int .i64 0), (4, .int .i64 0), (13, .bool s1)] a) hS ?_ ?_
  rotate_left
  · clear hS; intro KK1 k1 hK1 hS
    refine reg ?_
    refine st tbOk 4 [0, 3, 4, 9] hf rfl ?_
    clear hf a; intro a hf
    rcases Bool.eq_false_or_eq_true (decide (((p_s.length : Nat) : Int) > 0)) with hb1 | hb1
    rotate_left
    · replace hS := of_f hb1 hS
      replace hf := hf.castB hb1 (fun qb => [(0, strV p_s), (3, .int .i64 0), (4, .int .i64 0), (9, .bool qb)]) (by kernel_rfl)
      refine st tbOk 4 [0, 3, 4, 13] hf rfl ?_
      clear hf a; intro a hf
      refine wpList_nil ?_
      exact hK1 false _ _ ⟨_, hs.sel [] rfl rfl, hf.keep (ks := [0, 3, 4, 13]) (by kernel_rfl)⟩ hS
    replace hS := of_t hb1 hS
    replace hf := hf.castB hb1 (fun qb => [(0, strV p_s), (3, .int .i64 0), (4, .int .i64 0), (9, .bool qb)]) (by kernel_rfl)
    refine st tbOk 1 [0, 3, 4, 9, 10] hf rfl ?_
    clear hf a; intro a hf
    have hT := of_gd hS; clear hS; obtain ⟨hc1, hS⟩ := hT
    refine ixS tbOk u9 (p := p_s) (k := .i64) (n := 0) hc1 hf (by kernel_rfl) (by kernel_rfl) (by kernel_rfl) (by kernel_rfl) ?_
    clear hf a; intro a hf
    replace hf := hf.keep (ks := [0, 3, 4, 9, 11]) rfl
    refine st tbOk 2 [0, 3, 4, 13] hf rfl ?_
    clear hf a; intro a hf
    refine wpList_nil ?_
    exact hK1 (((p_s.getD (Int.toNat 0) 0).toNat : Int) == 45) _ _ ⟨_, hs.sel [] rfl rfl, hf.keep (ks := [0, 3, 4, 13]) (by kernel_rfl)⟩ hS
  clear hS hf hs; clear a; intro s1 a w1 hM hS
  obtain ⟨F1, hs, hf⟩ := hM
  refine ctj (fun (s2 : Int) (a : Act) (w' : World) => ∃ (F2 : SH), Sep w F R w' F2 [] ∧ Fr 52 [(0, strV p_s), (3, .int .i64 0), (4, .int .i64 s2)] a) hS ?_ ?_
  rotate_left
  · clear hS; intro KK2 k2 hK2 hS
    refine cnd (b := s1) hf (by kernel_rfl) (fun hb2 => ?_) (fun hb2 => ?_)
    rotate_left
    · replace hS := of_f hb2 hS
      refine wp_skip ?_
      exact hK2 0 _ _ ⟨_, hs.sel [] rfl rfl, hf.keep (ks := [0, 3, 4]) (by kernel_rfl)⟩ hS
    replace hS := of_t hb2 hS
    refine reg ?_
    refine st tbOk 1 [0, 3, 4] hf rfl ?_
    clear hf a; intro a hf
    refine wpList_nil ?_
    exact hK2 1 _ _ ⟨_, hs.sel [] rfl rfl, hf.keep (ks := [0, 3, 4]) (by kernel_rfl)⟩ hS
  clear hS hf hs; clear a; intro s2 a w2 hM hS
  obtain ⟨F2, hs, hf⟩ := hM
  refine sq ?_
  refine sq ?_
  refine reg ?_
  refine st tbOk 2 [0, 3, 4, 5] hf rfl ?_
  clear hf a; intro a hf
  refine wpList_nil ?_
  refine ctj (fun (s3 : Int) (a : Act) (w' : World) => ∃ (F3 : SH), Sep w F R w' F3 [] ∧ Fr 52 [(0, strV p_s), (3, .int .i64 s3), (4, .int .i64 s2)] a) hS ?_ ?_
  · clear hS hf hs; clear a; intro s3 a w5 hM hS
    obtain ⟨F3, hs, hf⟩ := hM
    refine sq ?_
    refine sq ?_
    refine reg ?_
    refine st tbOk 2 [0, 3, 44] hf rfl ?_
    clear hf a; intro a hf
    refine wpList_nil ?_
    refine ctj (fun (s6 : Int) (a : Act) (w' : World) => ∃ (F6 : SH), Sep w F R w' F6 [] ∧ Fr 52 [(0, strV p_s), (3, .int .i64 s6)] a) hS ?_ ?_
    rotate_left
    · clear hS; intro KK6 k5 hK6 hS
      refine cnd (b := s2 == 1) hf (by kernel_rfl) (fun hb7 => ?_) (fun hb7 => ?_)
      rotate_left
      · replace hS := of_f hb7 hS
        refine wp_skip ?_
        exact hK6 s3 _ _ ⟨_, hs.sel [] rfl rfl, hf.keep (ks := [0, 3]) (by kernel_rfl)⟩ hS
      replace hS := of_t hb7 hS
      refine reg ?_
      have hT := of_let hS; clear hS; obtain ⟨n_2, hl3, hS⟩ := hT
      refine st tbOk 3 [0, 3] (L' := [(0, strV p_s), (3, .int .i64 n_2)]) hf (by subst hl3; kernel_rfl) ?_
      clear hf a; intro a hf
      refine wpList_nil ?_
      exact hK6 n_2 _ _ ⟨_, hs.sel [] rfl rfl, hf.keep (ks := [0, 3]) (by kernel_rfl)⟩ hS
    clear hS hf hs; clear a; intro s6 a w6 hM hS
    obtain ⟨F6, hs, hf⟩ := hM
    refine sq ?_
    refine sq ?_
    refine reg ?_
    refine st tbOk 1 [0, 3, 47] hf rfl ?_
    clear hf a; intro a hf
    have hT := of_bd hS; clear hS; obtain ⟨z1, hz1, hS⟩ := hT
    refine clV ent28 (vs := [.int .i64 s6]) (caps := []) hf (by kernel_rfl) (by kernel_rfl) (by kernel_rfl) (by kernel_rfl) (ref12_Number_ok (n := s6) (hs.enter [] rfl rfl) hz1) ?_
    clear hf; clear a; intro v w7 a hT hf; obtain ⟨F7, rfl, hr⟩ := hT
    replace hs := (hs.back [] [] rfl rfl rfl rfl hr).nf rfl
    clear hr
    replace hf := hf.keep (ks := [0, 3, 48]) rfl
    refine st tbOk 2 [3, 50] hf rfl ?_
    clear hf a; intro a hf
    refine wpList_nil ?_
    refine cnd (b := !(z1 == p_s)) hf (by kernel_rfl) (fun hb8 => ?_) (fun hb8 => ?_)
    · replace hS := of_t hb8 hS
      refine sq ?_
      refine reg ?_
      refine st tbOk 1 [2] hf rfl ?_
      clear hf a; intro a hf
      refine wpList_nil ?_
      have hr := Option.some.inj hS; subst hr
      refine wp_ret ?_
      exact ret_ok hf (vs := [.int .i64 1000000000000]) (by kernel_rfl) ⟨_, rfl, hs.sel [] rfl rfl⟩
    replace hS := of_f hb8 hS
    refine wp_skip ?_
    refine sq ?_
    refine reg ?_
    refine st tbOk 2 [2] hf rfl ?_
    clear hf a; intro a hf
    refine wpList_nil ?_
    have hr := Option.some.inj hS; subst hr
    refine wp_ret ?_
    exact ret_ok hf (vs := [.int .i64 s6]) (by kernel_rfl) ⟨_, rfl, hs.sel [] rfl rfl⟩
  clear hS; intro KK3 k3 hK3 hS
  refine blk ?_
  refine lp (st := (0, s2)) (fun (s4 : Int × Int) (a : Act) (w' : World) => ∃ (F4 : SH), Sep w F R w' F4 [] ∧ Fr 52 [(0, strV p_s), (3, .int .i64 s4.1), (4, .int .i64 s2), (5, .int .i64 s4.2)] a) ?_ ⟨_, hs.sel [] rfl rfl, hf.keep (ks := [0, 3, 4, 5]) (by kernel_rfl)⟩ hS
  clear hS hf hs; clear a
  intro rec1 KK4 hK4 s4 a w3 hM hS
  obtain ⟨F4, hs, hf⟩ := hM
  refine sq ?_
  refine sq ?_
  refine reg ?_
  refine st tbOk 4 [0, 3, 4, 5, 18] hf rfl ?_
  clear hf a; intro a hf
  refine wpList_nil ?_
  refine cnd (b := decide (s4.2 < ((p_s.length : Nat) : Int))) hf (by kernel_rfl) (fun hb3 => ?_) (fun hb3 => ?_)
  rotate_left
  · replace hS := of_f hb3 hS
    refine wp_exit ?_
    exact hK3 s4.1 _ _ ⟨_, hs.sel [] rfl rfl, hf.keep (ks := [0, 3, 4]) (by kernel_rfl)⟩ hS
  replace hS := of_t hb3 hS
  refine wp_skip ?_
  refine sq ?_
  refine blk ?_
  refine sq ?_
  refine sq ?_
  refine ctj (fun (s5 : Bool) (a : Act) (w' : World) => ∃ (F5 : SH), Sep w F R w' F5 [] ∧ Fr 52 [(0, strV p_s), (3, .int .i64 s4.1), (4, .int .i64 s2), (5, .int .i64 s4.2), (34, .bool s5)] a) hS ?_ ?_
  · clear hS hf hs; clear a; intro s5 a w4 hM hS
    obtain ⟨F5, hs, hf⟩ := hM
    refine cnd (b := s5) hf (by kernel_rfl) (fun hb6 => ?_) (fun hb6 => ?_)
    · replace hS := of_t hb6 hS
      refine sq ?_
      refine reg ?_
      refine st tbOk 1 [2] hf rfl ?_
      clear hf a; intro a hf
      refine wpList_nil ?_
      have hr := Option.some.inj hS; subst hr
      refine wp_ret ?_
      exact ret_ok hf (vs := [.int .i64 1000000000000]) (by kernel_rfl) ⟨_, rfl, hs.sel [] rfl rfl⟩
    replace hS := of_f hb6 hS
    refine wp_skip ?_
    refine reg ?_
    refine st tbOk 4 [0, 4, 5, 36, 37, 38] hf rfl ?_
    clear hf a; intro a hf
    have hT := of_gd hS; clear hS; obtain ⟨hc4, hS⟩ := hT
    refine ixS tbOk u9 (p := p_s) (k := .i64) (n := s4.2) hc4 hf (by kernel_rfl) (by kernel_rfl) (by kernel_rfl) (by kernel_rfl) ?_
    clear hf a; intro a hf
    replace hf := hf.keep (ks := [0, 4, 5, 36, 39]) rfl
    have hT := of_let hS; clear hS; obtain ⟨n_1, hl1, hS⟩ := hT
    refine st tbOk 4 [0, 3, 4, 5] (L' := [(0, strV p_s), (3, .int .i64 n_1), (4, .int .i64 s2), (5, .int .i64 s4.2)]) hf (by subst hl1; kernel_rfl) ?_
    clear hf a; intro a hf
    refine wpList_nil ?_
    refine reg ?_
    have hT := of_let hS; clear hS; obtain ⟨i_1, hl2, hS⟩ := hT
    refine st tbOk 3 [0, 3, 4, 5] (L' := [(0, strV p_s), (3, .int .i64 n_1), (4, .int .i64 s2), (5, .int .i64 i_1)]) hf (by subst hl2; kernel_rfl) ?_
    clear hf a; intro a hf
    refine wpList_nil ?_
    exact hK4 (n_1, i_1) _ _ ⟨_, hs.sel [] rfl rfl, hf.keep (ks := [0, 3, 4, 5]) (by kernel_rfl)⟩ hS
  clear hS; intro KK5 k4 hK5 hS
  refine reg ?_
  refine st tbOk 2 [0, 3, 4, 5, 21, 22] hf rfl ?_
  clear hf a; intro a hf
  have hT := of_gd hS; clear hS; obtain ⟨hc2, hS⟩ := hT
  refine ixS tbOk u9 (p := p_s) (k := .i64) (n := s4.2) hc2 hf (by kernel_rfl) (by kernel_rfl) (by kernel_rfl) (by kernel_rfl) ?_
  clear hf a; intro a hf
  replace hf := hf.keep (ks := [0, 3, 4, 5, 23]) rfl
  refine st tbOk 2 [0, 3, 4, 5, 25] hf rfl ?_
  clear hf a; intro a hf
  rcases Bool.eq_false_or_eq_true (decide (((p_s.getD (Int.toNat s4.2) 0).toNat : Int) < 48)) with hb4 | hb4
  · replace hS := of_t hb4 hS
    replace hf := hf.castB hb4 (fun qb => [(0, strV p_s), (3, .int .i64 s4.1), (4, .int .i64 s2), (5, .int .i64 s4.2), (25, .bool qb)]) (by kernel_rfl)
    refine st tbOk 5 [0, 3, 4, 5, 30] hf rfl ?_
    clear hf a; intro a hf
    refine st tbOk 4 [0, 3, 4, 5, 34] hf rfl ?_
    clear hf a; intro a hf
    refine wpList_nil ?_
    exact hK5 true _ _ ⟨_, hs.sel [] rfl rfl, hf.keep (ks := [0, 3, 4, 5, 34]) (by kernel_rfl)⟩ hS
  replace hS := of_f hb4 hS
  replace hf := hf.castB hb4 (fun qb => [(0, strV p_s), (3, .int .i64 s4.1), (4, .int .i64 s2), (5, .int .i64 s4.2), (25, .bool qb)]) (by kernel_rfl)
  refine st tbOk 2 [0, 3, 4, 5, 25, 26, 27] hf rfl ?_
  clear hf a; intro a hf
  have hT := of_gd hS; clear hS; obtain ⟨hc3, hS⟩ := hT
  refine ixS tbOk u9 (p := p_s) (k := .i64) (n := s4.2) hc3 hf (by kernel_rfl) (by kernel_rfl) (by kernel_rfl) (by kernel_rfl) ?_
  clear hf a; intro a hf
  replace hf := hf.keep (ks := [0, 3, 4, 5, 25, 28]) rfl
  refine st tbOk 3 [0, 3, 4, 5, 31] hf rfl ?_
  clear hf a; intro a hf
  rcases Bool.eq_false_or_eq_true (decide (((p_s.getD (Int.toNat s4.2) 0).toNat : Int) > 57)) with hb5 | hb5
  · replace hS := of_t hb5 hS
    replace hf := hf.castB hb5 (fun qb => [(0, strV p_s), (3, .int .i64 s4.1), (4, .int .i64 s2), (5, .int .i64 s4.2), (31, .bool qb)]) (by kernel_rfl)
    refine st tbOk 3 [0, 3, 4, 5, 34] hf rfl ?_
    clear hf a; intro a hf
    refine wpList_nil ?_
    exact hK5 true _ _ ⟨_, hs.sel [] rfl rfl, hf.keep (ks := [0, 3, 4, 5, 34]) (by kernel_rfl)⟩ hS
  replace hS := of_f hb5 hS
  replace hf := hf.castB hb5 (fun qb => [(0, strV p_s), (3, .int .i64 s4.1), (4, .int .i64 s2), (5, .int .i64 s4.2), (31, .bool qb)]) (by kernel_rfl)
  refine st tbOk 3 [0, 3, 4, 5, 34] hf rfl ?_
  clear hf a; intro a hf
  refine wpList_nil ?_
  exact hK5 (decide (s4.1 > 1000000000000)) _ _ ⟨_, hs.sel [] rfl rfl, hf.keep (ks := [0, 3, 4, 5, 34]) (by kernel_rfl)⟩ hS

set_option maxHeartbeats 4000000 in
theorem ref12_Parse_ok {w : World} {F : SH} {p_s : List UInt8}  (hs : Sep w F (blks []) w F []) {r : (Int × Int × Int × Int × Int) × Int} (hS : ref12_Parse p_s = some r) :
    Calls Tryd.prog 19 [strV p_s].toArray w (Gives (fun u w' => ∃ (F' : SH), u = .tuple #[.agg #[.int .i64 r.1.1, .int .i64 r.1.2.1, .int .i64 r.1.2.2.1, .int .i64 r.1.2.2.2.1, .int .i64 r.1.2.2.2.2], .int .i64 r.2] ∧ Sep w F (blks []) w' F' [])) := by
  generalize (blks []) = R at hs ⊢
  unfold ref12_Parse at hS
  refine fn_ok (vs := [strV p_s]) Tryd.func19 rfl 104 Tryd.ntmps19 (Nat.le_of_ble_eq_true rfl) ?_
  intro a hf
  replace hf := Fr.cast (L' := [(0, strV p_s)]) hf (by kernel_rfl)
  refine sq ?_
  refine reg ?_
  refine al tbOk i31 [.int .i64 0, .int .i64 0, .int .i64 0, .int .i64 0, .int .i64 0] rfl (by kernel_rfl) hf (by kernel_rfl) (by kernel_rfl) ?_
  clear hf; clear a; intro w1 a hb hx _ hf
  replace hs := hs.newBox hb hx
  clear hb hx
  replace hf := hf.keep (ks := [0, 2]) rfl
  refine st tbOk 1 [0, 2] hf rfl ?_
  clear hf a; intro a hf
  refine wpList_nil ?_
  refine sq ?_
  refine reg ?_
  refine st tbOk 1 [2, 14] hf rfl ?_
  clear hf a; intro a hf
  have hT := of_bd hS; clear hS; obtain ⟨z1, hz1, hS⟩ := hT
  refine clV ent34 (vs := [strV p_s]) (caps := []) hf (by kernel_rfl) (by kernel_rfl) (by kernel_rfl) (by kernel_rfl) (ref12_Split_ok (p_s := p_s) (hs.enter [] rfl rfl) hz1) ?_
  clear hf; clear a; intro v w2 a hT hf; obtain ⟨ao1, cp1, F1, rfl, hr⟩ := hT
  replace hs := (hs.back [] [0] rfl rfl rfl rfl hr).nf rfl
  clear hr
  replace hf := hf.keep (ks := [2, 15]) rfl
  refine st tbOk 1 [2, 4] hf rfl ?_
  clear hf a; intro a hf
  refine wpList_nil ?_
  refine sq ?_
  refine sq ?_
  refine reg ?_
  refine st tbOk 3 [2, 4, 18] hf rfl ?_
  clear hf a; intro a hf
  refine wpList_nil ?_
  refine cnd (b := ((z1.length : Nat) : Int) == 0) hf (by kernel_rfl) (fun hb1 => ?_) (fun hb1 => ?_)
  · replace hS := of_t hb1 hS
    refine sq ?_
    refine reg ?_
    refine st tbOk 1 [2, 19] hf rfl ?_
    clear hf a; intro a hf
    refine stB tbOk i31 (hs.bx 1 rfl) 0 [.int .i64 0, .int .i64 0, .int .i64 0, .int .i64 0, .int .i64 0] [.int .i64 0, .int .i64 0, .int .i64 0, .int .i64 0, .int .i64 0] (v := .agg #[.int .i64 0, .int .i64 0, .int .i64 0, .int .i64 0, .int .i64 0]) rfl rfl (by kernel_rfl) (by kernel_rfl) (by kernel_rfl) (by kernel_rfl) hf (by kernel_rfl) (by kernel_rfl) (by kernel_rfl) ?_
    clear hf; clear a; intro w3 a hb hg _ hf
    replace hs := (hs.updBox 1 rfl hb hg).nf rfl
    clear hb hg
    replace hs := hs.sel [1] rfl rfl
    replace hf := hf.keep (ks := [2]) rfl
    refine st tbOk 1 [2, 3] hf rfl ?_
    clear hf a; intro a hf
    refine wpList_nil ?_
    have hr := Option.some.inj hS; subst hr
    refine wp_ret ?_
    exact ret_okC hf (vs := [.agg #[.int .i64 0, .int .i64 0, .int .i64 0, .int .i64 0, .int .i64 0], .int .i64 11]) (.cons (.cell tbOk (hs.cbx 0 rfl) (off := 0) (by kernel_rfl) (by kernel_rfl)) (.cons (.tmp (by kernel_rfl)) .nil)) ⟨_, rfl, hs.sel [] rfl rfl⟩
  replace hS := of_f hb1 hS
  refine wp_skip ?_
  refine sq ?_
  refine reg ?_
  refine st tbOk 1 [2, 4, 5] hf rfl ?_
  clear hf a; intro a hf
  refine wpList_nil ?_
  refine sq ?_
  refine sq ?_
  refine reg ?_
  refine st tbOk 1 [2, 4, 5, 6] hf rfl ?_
  clear hf a; intro a hf
  refine wpList_nil ?_
  refine ctj (fun (s1 : Int) (a : Act) (w' : World) => ∃ (F2 : SH), Sep w F R w' F2 [.row 9 tS (.slice ao1 z1.length cp1) z1, .box w.heap.size 31 [.int .i64 0, .int .i64 0, .int .i64 0, .int .i64 0, .int .i64 0]] ∧ Fr 104 [(2, .pointer (some ⟨w.heap.size, 0, none⟩)), (4, .slice ao1 z1.length cp1), (5, .int .i64 s1)] a) hS ?_ ?_
  rotate_left
  · clear hS; intro KK1 k1 hK1 hS
    refine blk ?_
    refine lp (st := (0, 1)) (fun (s2 : Int × Int) (a : Act) (w' : World) => ∃ (F3 : SH), Sep w F R w' F3 [.row 9 tS (.slice ao1 z1.length cp1) z1, .box w.heap.size 31 [.int .i64 0, .int .i64 0, .int .i64 0, .int .i64 0, .int .i64 0]] ∧ Fr 104 [(2, .pointer (some ⟨w.heap.size, 0, none⟩)), (4, .slice ao1 z1.length cp1), (5, .int .i64 s2.1), (6, .int .i64 s2.2)] a) ?_ ⟨_, hs.sel [0, 1] rfl rfl, hf.keep (ks := [2, 4, 5, 6]) (by kernel_rfl)⟩ hS
    clear hS hf hs; clear a
    intro rec1 KK2 hK2 s2 a w4 hM hS
    obtain ⟨F3, hs, hf⟩ := hM
    refine sq ?_
    refine sq ?_
    refine reg ?_
    refine st tbOk 2 [2, 4, 5, 6, 21] hf rfl ?_
    clear hf a; intro a hf
    refine wpList_nil ?_
    refine cnd (b := decide (s2.2 ≤ 41)) hf (by kernel_rfl) (fun hb2 => ?_) (fun hb2 => ?_)
    rotate_left
    · replace hS := of_f hb2 hS
      refine wp_exit ?_
      exact hK1 s2.1 _ _ ⟨_, hs.sel [0, 1] rfl rfl, hf.keep (ks := [2, 4, 5]) (by kernel_rfl)⟩ hS
    replace hS := of_t hb2 hS
    refine wp_skip ?_
    refine sq ?_
    refine ctj (fun (s3 : Int) (a : Act) (w' : World) => ∃ (F4 : SH), Sep w F R w' F4 [.row 9 tS (.slice ao1 z1.length cp1) z1, .box w.heap.size 31 [.int .i64 0, .int .i64 0, .int .i64 0, .int .i64 0, .int .i64 0]] ∧ Fr 104 [(2, .pointer (some ⟨w.heap.size, 0, none⟩)), (4, .slice ao1 z1.length cp1), (5, .int .i64 s3), (6, .int .i64 s2.2)] a) hS ?_ ?_
    · clear hS hf hs; clear a; intro s3 a w7 hM hS
      obtain ⟨F4, hs, hf⟩ := hM
      refine reg ?_
      have hT := of_let hS; clear hS; obtain ⟨k_1, hl1, hS⟩ := hT
      refine st tbOk 3 [2, 4, 5, 6] (L' := [(2, .pointer (some ⟨w.heap.size, 0, none⟩)), (4, .slice ao1 z1.length cp1), (5, .int .i64 s3), (6, .int .i64 k_1)]) hf (by subst hl1; kernel_rfl) ?_
      clear hf a; intro a hf
      refine wpList_nil ?_
      exact hK2 (s3, k_1) _ _ ⟨_, hs.sel [0, 1] rfl rfl, hf.keep (ks := [2, 4, 5, 6]) (by kernel_rfl)⟩ hS
    clear hS; intro KK3 k2 hK3 hS
    refine blk ?_
    refine sq ?_
    refine regQ mixed (by kernel_rfl) ?_
    refine stQ tbOk 1 [2, 4, 5, 6, 24] hf rfl ?_
    clear hf a; intro a hf
    have hT := of_bd hS; clear hS; obtain ⟨z2, hz2, hS⟩ := hT
    refine clVQ ent26 (vs := [.int .i64 s2.2]) (caps := []) hf (by kernel_rfl) (by kernel_rfl) (by kernel_rfl) (by kernel_rfl) (strV z2) (fun wq hq => (ref12_Word_ok (op := s2.2) (hs.lendQ hq [] rfl rfl) hz2).mono fun _ _ h => Gives.mono (fun _ ⟨_, e, h⟩ => ⟨e, h.ex (pers_blks rfl)⟩) h) ?_
    clear hf a; intro a hf
    replace hf := hf.keep (ks := [2, 4, 5, 6, 25]) rfl
    refine stQ tbOk 1 [2, 4, 5, 6, 25, 26] hf rfl ?_
    clear hf a; intro a hf
    have hT := of_gd hS; clear hS; obtain ⟨hc1, hS⟩ := hT
    refine ixRQ tbOk u53 i9 rfl rfl (hs.raW 0 rfl) (k := .i64) (n := 0) hc1 hf (by kernel_rfl) (by kernel_rfl) (by kernel_rfl) (by kernel_rfl) ?_
    clear hf; clear a; intro pb1 po1 c1 a hp1 hr1 hf
    obtain rfl : c1 = [strV (gt z1 0)] := hr1
    replace hf := hf.keep (ks := [2, 4, 5, 6, 25, 27]) rfl
    refine ldCQ tbOk (T := 9) hp1 (LeH.refl _) 0 (strV (gt z1 0)) hf (by kernel_rfl) (by kernel_rfl) (by kernel_rfl) (by kernel_rfl) ?_
    clear hf a; intro a hf
    replace hf := hf.keep (ks := [2, 4, 5, 6, 25, 28]) rfl
    refine stQ tbOk 1 [2, 4, 5, 6, 29] hf rfl ?_
    clear hf a; intro a hf
    refine wpQuiet_nil ?_
    intro w5 hx
    replace hs := hs.ext hx
    clear hx
    refine ctj (fun (s4 : Int) (a : Act) (w' : World) => ∃ (F5 : SH), Sep w F R w' F5 [.row 9 tS (.slice ao1 z1.length cp1) z1, .box w.heap.size 31 [.int .i64 0, .int .i64 0, .int .i64 0, .int .i64 0, .int .i64 0]] ∧ Fr 104 [(2, .pointer (some ⟨w.heap.size, 0, none⟩)), (4, .slice ao1 z1.length cp1), (5, .int .i64 s4), (6, .int .i64 s2.2)] a) hS ?_ ?_
    · clear hS hf hs; clear a; intro s4 a w6 hM hS
      obtain ⟨F5, hs, hf⟩ := hM
      exact hK3 s4 _ _ ⟨_, hs.sel [0, 1] rfl rfl, hf.keep (ks := [2, 4, 5, 6]) (by kernel_rfl)⟩ hS
    clear hS; intro KK4 k3 hK4 hS
    refine cnd (b := z2 == (gt z1 0)) hf (by kernel_rfl) (fun hb3 => ?_) (fun hb3 => ?_)
    rotate_left
    · replace hS := of_f hb3 hS
      refine wp_skip ?_
      exact hK4 s2.1 _ _ ⟨_, hs.sel [0, 1] rfl rfl, hf.keep (ks := [2, 4, 5, 6]) (by kernel_rfl)⟩ hS
    replace hS := of_t hb3 hS
    refine reg ?_
    refine st tbOk 2 [2, 4, 5, 6] hf rfl ?_
    clear hf a; intro a hf
    refine wpList_nil ?_
    exact hK4 s2.2 _ _ ⟨_, hs.sel [0, 1] rfl rfl, hf.keep (ks := [2, 4, 5, 6]) (by kernel_rfl)⟩ hS
  clear hS hf hs; clear a; intro s1 a w8 hM hS
  obtain ⟨F2, hs, hf⟩ := hM
  refine sq ?_
  refine sq ?_
  refine reg ?_
  refine st tbOk 2 [2, 4, 5, 32] hf rfl ?_
  clear hf a; intro a hf
  refine wpList_nil ?_
  refine cnd (b := s1 == 0) hf (by kernel_rfl) (fun hb4 => ?_) (fun hb4 => ?_)
  · replace hS := of_t hb4 hS
    refine sq ?_
    refine reg ?_
    refine st tbOk 1 [2, 33] hf rfl ?_
    clear hf a; intro a hf
    refine stB tbOk i31 (hs.bx 1 rfl) 0 [.int .i64 0, .int .i64 0, .int .i64 0, .int .i64 0, .int .i64 0] [.int .i64 0, .int .i64 0, .int .i64 0, .int .i64 0, .int .i64 0] (v := .agg #[.int .i64 0, .int .i64 0, .int .i64 0, .int .i64 0, .int .i64 0]) rfl rfl (by kernel_rfl) (by kernel_rfl) (by kernel_rfl) (by kernel_rfl) hf (by kernel_rfl) (by kernel_rfl) (by kernel_rfl) ?_
    clear hf; clear a; intro w9 a hb hg _ hf
    replace hs := (hs.updBox 1 rfl hb hg).nf rfl
    clear hb hg
    replace hs := hs.sel [1] rfl rfl
    replace hf := hf.keep (ks := [2]) rfl
    refine st tbOk 1 [2, 3] hf rfl ?_
    clear hf a; intro a hf
    refine wpList_nil ?_
    have hr := Option.some.inj hS; subst hr
    refine wp_ret ?_
    exact ret_okC hf (vs := [.agg #[.int .i64 0, .int .i64 0, .int .i64 0, .int .i64 0, .int .i64 0], .int .i64 11]) (.cons (.cell tbOk (hs.cbx 0 rfl) (off := 0) (by kernel_rfl) (by kernel_rfl)) (.cons (.tmp (by kernel_rfl)) .nil)) ⟨_, rfl, hs.sel [] rfl rfl⟩
  replace hS := of_f hb4 hS
  refine wp_skip ?_
  refine sq ?_
  refine reg ?_
  have hT := of_gd hS; clear hS; obtain ⟨hc2, hS⟩ := hT
  refine mkR tbOk u63 i2 rfl rfl (t := (tI .i64)) rfl rfl (0 : Int) hs.le rfl (k := .i64) (k' := .i64) (n := 4) hc2 hf (by kernel_rfl) (by kernel_rfl) (by kernel_rfl) (by kernel_rfl) ?_
  clear hf; clear a; intro w10 a ho hx hf
  replace hs := hs.newRow ho hx
  clear ho hx
  replace hf := hf.keep (ks := [2, 4, 5, 34]) rfl
  refine st tbOk 1 [2, 4, 5, 7] hf rfl ?_
  clear hf a; intro a hf
  refine wpList_nil ?_
  refine sq ?_
  refine reg ?_
  refine st tbOk 1 [2, 4, 5, 7, 35] hf rfl ?_
  clear hf a; intro a hf
  have hT := of_bd hS; clear hS; obtain ⟨z3, hz3, hS⟩ := hT
  refine clV ent27 (vs := [.int .i64 s1]) (caps := []) hf (by kernel_rfl) (by kernel_rfl) (by kernel_rfl) (by kernel_rfl) (ref12_has_ok (op := s1) (hs.enter [] rfl rfl) hz3) ?_
  clear hf; clear a; intro v w11 a hT hf; obtain ⟨F6, rfl, hr⟩ := hT
  replace hs := (hs.back [] [0, 1, 2] rfl rfl rfl rfl hr).nf rfl
  clear hr
  replace hf := hf.keep (ks := [2, 4, 5, 7, 36]) rfl
  refine st tbOk 1 [2, 4, 5, 7, 8] hf rfl ?_
  clear hf a; intro a hf
  refine wpList_nil ?_
  refine sq ?_
  refine reg ?_
  refine st tbOk 1 [2, 4, 5, 7, 8, 9] hf rfl ?_
  clear hf a; intro a hf
  refine wpList_nil ?_
  refine sq ?_
  refine sq ?_
  refine reg ?_
  refine st tbOk 1 [2, 4, 5, 7, 8, 9, 10] hf rfl ?_
  clear hf a; intro a hf
  refine wpList_nil ?_
  refine ctj (fun (s5 : Int × (List Int)) (a : Act) (w' : World) => ∃ (ao2 : Option Addr) (cp2 : Nat) (F7 : SH), Sep w F R w' F7 [.row 2 (tI .i64) (.slice ao2 s5.2.length cp2) s5.2, .row 9 tS (.slice ao1 z1.length cp1) z1, .box w.heap.size 31 [.int .i64 0, .int .i64 0, .int .i64 0, .int .i64 0, .int .i64 0]] ∧ Fr 104 [(2, .pointer (some ⟨w.heap.size, 0, none⟩)), (4, .slice ao1 z1.length cp1), (5, .int .i64 s1), (7, .slice ao2 s5.2.length cp2), (9, .int .i64 s5.1)] a) hS ?_ ?_
  rotate_left
  · clear hS; intro KK5 k4 hK5 hS
    refine blk ?_
    refine lp (st := (z3, 1, 0, (List.replicate (Int.toNat 4) (0 : Int)))) (fun (s6 : Int × Int × Int × (List Int)) (a : Act) (w' : World) => ∃ (ao3 : Option Addr) (cp3 : Nat) (F8 : SH), Sep w F R w' F8 [.row 2 (tI .i64) (.slice ao3 s6.2.2.2.length cp3) s6.2.2.2, .row 9 tS (.slice ao1 z1.length cp1) z1, .box w.heap.size 31 [.int .i64 0, .int .i64 0, .int .i64 0, .int .i64 0, .int .i64 0]] ∧ Fr 104 [(2, .pointer (some ⟨w.heap.size, 0, none⟩)), (4, .slice ao1 z1.length cp1), (5, .int .i64 s1), (7, .slice ao3 s6.2.2.2.length cp3), (8, .int .i64 s6.1), (9, .int .i64 s6.2.1), (10, .int .i64 s6.2.2.1)] a) ?_ ⟨(some ⟨w8.heap.size, 0, none⟩), (Int.toNat 4), _, hs.sel [0, 1, 2] rfl rfl, hf.keep (ks := [2, 4, 5, 7, 8, 9, 10]) (by kernel_rfl)⟩ hS
    clear hS hf hs; clear a
    intro rec2 KK6 hK6 s6 a w12 hM hS
    obtain ⟨ao3, cp3, F8, hs, hf⟩ := hM
    refine sq ?_
    refine sq ?_
    refine reg ?_
    refine st tbOk 2 [2, 4, 5, 7, 8, 9, 10, 38] hf rfl ?_
    clear hf a; intro a hf
    refine wpList_nil ?_
    refine cnd (b := decide (s6.2.2.1 < 4)) hf (by kernel_rfl) (fun hb5 => ?_) (fun hb5 => ?_)
    rotate_left
    · replace hS := of_f hb5 hS
      refine wp_exit ?_
      exact hK5 (s6.2.1, s6.2.2.2) _ _ ⟨ao3, cp3, _, hs.sel [0, 1, 2] rfl rfl, hf.keep (ks := [2, 4, 5, 7, 9]) (by kernel_rfl)⟩ hS
    replace hS := of_t hb5 hS
    refine wp_skip ?_
    refine sq ?_
    refine blk ?_
    refine sq ?_
    refine sq ?_
    refine reg ?_
    refine st tbOk 3 [2, 4, 5, 7, 8, 9, 10, 43] hf rfl ?_
    clear hf a; intro a hf
    refine wpList_nil ?_
    refine ctj (fun (s7 : Int × (List Int)) (a : Act) (w' : World) => ∃ (ao4 : Option Addr) (cp4 : Nat) (F9 : SH), Sep w F R w' F9 [.row 2 (tI .i64) (.slice ao4 s7.2.length cp4) s7.2, .row 9 tS (.slice ao1 z1.length cp1) z1, .box w.heap.size 31 [.int .i64 0, .int .i64 0, .int .i64 0, .int .i64 0, .int .i64 0]] ∧ Fr 104 [(2, .pointer (some ⟨w.heap.size, 0, none⟩)), (4, .slice ao1 z1.length cp1), (5, .int .i64 s1), (7, .slice ao4 s7.2.length cp4), (8, .int .i64 s6.1), (9, .int .i64 s7.1), (10, .int .i64 s6.2.2.1)] a) hS ?_ ?_
    · clear hS hf hs; clear a; intro s7 a w16 hM hS
      obtain ⟨ao4, cp4, F9, hs, hf⟩ := hM
      refine reg ?_
      have hT := of_let hS; clear hS; obtain ⟨h_1, hl3, hS⟩ := hT
      refine st tbOk 3 [2, 4, 5, 7, 8, 9, 10] (L' := [(2, .pointer (some ⟨w.heap.size, 0, none⟩)), (4, .slice ao1 z1.length cp1), (5, .int .i64 s1), (7, .slice ao4 s7.2.length cp4), (8, .int .i64 h_1), (9, .int .i64 s7.1), (10, .int .i64 s6.2.2.1)]) hf (by subst hl3; kernel_rfl) ?_
      clear hf a; intro a hf
      refine wpList_nil ?_
      refine reg ?_
      have hT := of_let hS; clear hS; obtain ⟨k_2, hl4, hS⟩ := hT
      refine st tbOk 3 [2, 4, 5, 7, 8, 9, 10] (L' := [(2, .pointer (some ⟨w.heap.size, 0, none⟩)), (4, .slice ao1 z1.length cp1), (5, .int .i64 s1), (7, .slice ao4 s7.2.length cp4), (8, .int .i64 h_1), (9, .int .i64 s7.1), (10, .int .i64 k_2)]) hf (by subst hl4; kernel_rfl) ?_
      clear hf a; intro a hf
      refine wpList_nil ?_
      exact hK6 (h_1, s7.1, k_2, s7.2) _ _ ⟨ao4, cp4, _, hs.sel [0, 1, 2] rfl rfl, hf.keep (ks := [2, 4, 5, 7, 8, 9, 10]) (by kernel_rfl)⟩ hS
    clear hS; intro KK7 k5 hK7 hS
    refine cnd (b := (Int.tmod s6.1 2) == 1) hf (by kernel_rfl) (fun hb6 => ?_) (fun hb6 => ?_)
    rotate_left
    · replace hS := of_f hb6 hS
      refine wp_skip ?_
      exact hK7 (s6.2.1, s6.2.2.2) _ _ ⟨ao3, cp3, _, hs.sel [0, 1, 2] rfl rfl, hf.keep (ks := [2, 4, 5, 7, 8, 9, 10]) (by kernel_rfl)⟩ hS
    replace hS := of_t hb6 hS
    refine sq ?_
    refine sq ?_
    refine reg ?_
    refine st tbOk 4 [2, 4, 5, 7, 8, 9, 10, 47] hf rfl ?_
    clear hf a; intro a hf
    refine wpList_nil ?_
    refine cnd (b := decide (s6.2.1 ≥ ((z1.length : Nat) : Int))) hf (by kernel_rfl) (fun hb7 => ?_) (fun hb7 => ?_)
    · replace hS := of_t hb7 hS
      refine sq ?_
      refine reg ?_
      refine st tbOk 1 [2, 48] hf rfl ?_
      clear hf a; intro a hf
      refine stB tbOk i31 (hs.bx 2 rfl) 0 [.int .i64 0, .int .i64 0, .int .i64 0, .int .i64 0, .int .i64 0] [.int .i64 0, .int .i64 0, .int .i64 0, .int .i64 0, .int .i64 0] (v := .agg #[.int .i64 0, .int .i64 0, .int .i64 0, .int .i64 0, .int .i64 0]) rfl rfl (by kernel_rfl) (by kernel_rfl) (by kernel_rfl) (by kernel_rfl) hf (by kernel_rfl) (by kernel_rfl) (by kernel_rfl) ?_
      clear hf; clear a; intro w13 a hb hg _ hf
      replace hs := (hs.updBox 2 rfl hb hg).nf rfl
      clear hb hg
      replace hs := hs.sel [2] rfl rfl
      replace hf := hf.keep (ks := [2]) rfl
      refine st tbOk 1 [2, 3] hf rfl ?_
      clear hf a; intro a hf
      refine wpList_nil ?_
      have hr := Option.some.inj hS; subst hr
      refine wp_ret ?_
      exact ret_okC hf (vs := [.agg #[.int .i64 0, .int .i64 0, .int .i64 0, .int .i64 0, .int .i64 0], .int .i64 11]) (.cons (.cell tbOk (hs.cbx 0 rfl) (off := 0) (by kernel_rfl) (by kernel_rfl)) (.cons (.tmp (by kernel_rfl)) .nil)) ⟨_, rfl, hs.sel [] rfl rfl⟩
    replace hS := of_f hb7 hS
    refine wp_skip ?_
    refine sq ?_
    refine reg ?_
    refine st tbOk 4 [2, 4, 5, 7, 8, 9, 10, 49, 50, 51, 52] hf rfl ?_
    clear hf a; intro a hf
    have hT := of_gd hS; clear hS; obtain ⟨hc3, hS⟩ := hT
    refine ixR tbOk u53 i9 rfl rfl (hs.raW 1 rfl) (k := .i64) (n := s6.2.1) hc3 hf (by kernel_rfl) (by kernel_rfl) (by kernel_rfl) (by kernel_rfl) ?_
    clear hf; clear a; intro pb2 po2 c2 a hp2 hr2 hf
    obtain rfl : c2 = [strV (gt z1 s6.2.1)] := hr2
    replace hf := hf.keep (ks := [2, 4, 5, 7, 8, 9, 10, 49, 50, 53]) rfl
    refine ldC tbOk (T := 9) hp2 (LeH.refl _) 0 (strV (gt z1 s6.2.1)) hf (by kernel_rfl) (by kernel_rfl) (by kernel_rfl) (by kernel_rfl) ?_
    clear hf a; intro a hf
    replace hf := hf.keep (ks := [2, 4, 5, 7, 8, 9, 10, 49, 50, 54]) rfl
    have hT := of_bd hS; clear hS; obtain ⟨z4, hz4, hS⟩ := hT
    refine clV ent35 (vs := [strV (gt z1 s6.2.1)]) (caps := []) hf (by kernel_rfl) (by kernel_rfl) (by kernel_rfl) (by kernel_rfl) (ref12_read_ok (p_s := gt z1 s6.2.1) (hs.enter [] rfl rfl) hz4) ?_
    clear hf; clear a; intro v w14 a hT hf; obtain ⟨F10, rfl, hr⟩ := hT
    replace hs := (hs.back [] [0, 1, 2] rfl rfl rfl rfl hr).nf rfl
    clear hr
    replace hf := hf.keep (ks := [2, 4, 5, 7, 8, 9, 10, 49, 50, 55]) rfl
    have hT := of_gd hS; clear hS; obtain ⟨hc4, hS⟩ := hT
    refine ixW tbOk u63 i2 (hs.own 0 rfl) (k := .i64) (n := s6.2.2.1) hc4 hf (by kernel_rfl) (by kernel_rfl) (by kernel_rfl) (by kernel_rfl) ?_
    clear hf; clear a; intro pb3 po3 a hq1 hf
    replace hf := hf.keep (ks := [2, 4, 5, 7, 8, 9, 10, 55, 56]) rfl
    refine stW tbOk i2 rfl (hs.own 0 rfl) hc4 0 hq1 [.int .i64 z4] (z := z4) (fun _ e => (congrArg (fun c => spl c 0 [.int .i64 z4]) e).trans rfl) (u := .int .i64 z4) rfl rfl (by kernel_rfl) (by kernel_rfl) hf (by kernel_rfl) (by kernel_rfl) (by kernel_rfl) ?_
    clear hf; clear a; intro w15 a ho hg hf
    replace hs := hs.updRow 0 rfl ho hg (fun _ h => .inl h)
    clear ho hg
    replace hs : Sep w F R w15 F10 [.row 2 (tI .i64) (.slice ao3 (s6.2.2.2.set (Int.toNat s6.2.2.1) z4).length cp3) (s6.2.2.2.set (Int.toNat s6.2.2.1) z4), .row 9 tS (.slice ao1 z1.length cp1) z1, .box w.heap.size 31 [.int .i64 0, .int .i64 0, .int .i64 0, .int .i64 0, .int .i64 0]] := Sep.cast hs (by simp only [List.length_set]; rfl)
    replace hf := Fr.cast (L' := [(2, .pointer (some ⟨w.heap.size, 0, none⟩)), (4, .slice ao1 z1.length cp1), (5, .int .i64 s1), (7, .slice ao3 (s6.2.2.2.set (Int.toNat s6.2.2.1) z4).length cp3), (8, .int .i64 s6.1), (9, .int .i64 s6.2.1), (10, .int .i64 s6.2.2.1), (55, .int .i64 z4), (56, .pointer (some ⟨pb3, po3, none⟩))]) hf (by simp only [List.length_set])
    replace hf := hf.keep (ks := [2, 4, 5, 7, 8, 9, 10]) rfl
    refine wpList_nil ?_
    refine reg ?_
    have hT := of_let hS; clear hS; obtain ⟨at_1, hl2, hS⟩ := hT
    refine st tbOk 3 [2, 4, 5, 7, 8, 9, 10] (L' := [(2, .pointer (some ⟨w.heap.size, 0, none⟩)), (4, .slice ao1 z1.length cp1), (5, .int .i64 s1), (7, .slice ao3 (s6.2.2.2.set (Int.toNat s6.2.2.1) z4).length cp3), (8, .int .i64 s6.1), (9, .int .i64 at_1), (10, .int .i64 s6.2.2.1)]) hf (by subst hl2; kernel_rfl) ?_
    clear hf a; intro a hf
    refine wpList_nil ?_
    exact hK7 (at_1, (s6.2.2.2.set (Int.toNat s6.2.2.1) z4)) _ _ ⟨ao3, cp3, _, hs.sel [0, 1, 2] rfl rfl, hf.keep (ks := [2, 4, 5, 7, 8, 9, 10]) (by kernel_rfl)⟩ hS
  clear hS hf hs; clear a; intro s5 a w17 hM hS
  obtain ⟨ao2, cp2, F7, hs, hf⟩ := hM
  refine sq ?_
  refine sq ?_
  refine reg ?_
  refine st tbOk 1 [2, 4, 5, 7, 9, 11] hf rfl ?_
  clear hf a; intro a hf
  refine wpList_nil ?_
  refine ctj (fun (s8 : Unit) (a : Act) (w' : World) => ∃ (F11 : SH), Sep w F R w' F11 [.row 2 (tI .i64) (.slice ao2 s5.2.length cp2) s5.2, .row 9 tS (.slice ao1 z1.length cp1) z1, .box w.heap.size 31 [.int .i64 0, .int .i64 0, .int .i64 0, .int .i64 0, .int .i64 0]] ∧ Fr 104 [(2, .pointer (some ⟨w.heap.size, 0, none⟩)), (4, .slice ao1 z1.length cp1), (5, .int .i64 s1), (7, .slice ao2 s5.2.length cp2), (9, .int .i64 s5.1)] a) hS ?_ ?_
  rotate_left
  · clear hS; intro KK8 k6 hK8 hS
    refine blk ?_
    refine lp (st := 0) (fun (s9 : Int) (a : Act) (w' : World) => ∃ (F12 : SH), Sep w F R w' F12 [.row 2 (tI .i64) (.slice ao2 s5.2.length cp2) s5.2, .row 9 tS (.slice ao1 z1.length cp1) z1, .box w.heap.size 31 [.int .i64 0, .int .i64 0, .int .i64 0, .int .i64 0, .int .i64 0]] ∧ Fr 104 [(2, .pointer (some ⟨w.heap.size, 0, none⟩)), (4, .slice ao1 z1.length cp1), (5, .int .i64 s1), (7, .slice ao2 s5.2.length cp2), (9, .int .i64 s5.1), (11, .int .i64 s9)] a) ?_ ⟨_, hs.sel [0, 1, 2] rfl rfl, hf.keep (ks := [2, 4, 5, 7, 9, 11]) (by kernel_rfl)⟩ hS
    clear hS hf hs; clear a
    intro rec3 KK9 hK9 s9 a w18 hM hS
    obtain ⟨F12, hs, hf⟩ := hM
    refine sq ?_
    refine sq ?_
    refine reg ?_
    refine st tbOk 2 [2, 4, 5, 7, 9, 11, 62] hf rfl ?_
    clear hf a; intro a hf
    refine wpList_nil ?_
    refine cnd (b := decide (s9 < 3)) hf (by kernel_rfl) (fun hb8 => ?_) (fun hb8 => ?_)
    rotate_left
    · replace hS := of_f hb8 hS
      refine wp_exit ?_
      exact hK8 () _ _ ⟨_, hs.sel [0, 1, 2] rfl rfl, hf.keep (ks := [2, 4, 5, 7, 9]) (by kernel_rfl)⟩ hS
    replace hS := of_t hb8 hS
    refine wp_skip ?_
    refine sq ?_
    refine blk ?_
    refine sq ?_
    refine ctj (fun (s10 : Bool) (a : Act) (w' : World) => ∃ (F13 : SH), Sep w F R w' F13 [.row 2 (tI .i64) (.slice ao2 s5.2.length cp2) s5.2, .row 9 tS (.slice ao1 z1.length cp1) z1, .box w.heap.size 31 [.int .i64 0, .int .i64 0, .int .i64 0, .int .i64 0, .int .i64 0]] ∧ Fr 104 [(2, .pointer (some ⟨w.heap.size, 0, none⟩)), (4, .slice ao1 z1.length cp1), (5, .int .i64 s1), (7, .slice ao2 s5.2.length cp2), (9, .int .i64 s5.1), (11, .int .i64 s9), (76, .bool s10)] a) hS ?_ ?_
    · clear hS hf hs; clear a; intro s10 a w19 hM hS
      obtain ⟨F13, hs, hf⟩ := hM
      refine cnd (b := s10) hf (by kernel_rfl) (fun hb10 => ?_) (fun hb10 => ?_)
      rotate_left
      · replace hS := of_f hb10 hS
        refine wp_skip ?_
        refine reg ?_
        have hT := of_let hS; clear hS; obtain ⟨k_3, hl5, hS⟩ := hT
        refine st tbOk 3 [2, 4, 5, 7, 9, 11] (L' := [(2, .pointer (some ⟨w.heap.size, 0, none⟩)), (4, .slice ao1 z1.length cp1), (5, .int .i64 s1), (7, .slice ao2 s5.2.length cp2), (9, .int .i64 s5.1), (11, .int .i64 k_3)]) hf (by subst hl5; kernel_rfl) ?_
        clear hf a; intro a hf
        refine wpList_nil ?_
        exact hK9 k_3 _ _ ⟨_, hs.sel [0, 1, 2] rfl rfl, hf.keep (ks := [2, 4, 5, 7, 9, 11]) (by kernel_rfl)⟩ hS
      replace hS := of_t hb10 hS
      refine sq ?_
      refine reg ?_
      refine st tbOk 1 [2, 77] hf rfl ?_
      clear hf a; intro a hf
      refine stB tbOk i31 (hs.bx 2 rfl) 0 [.int .i64 0, .int .i64 0, .int .i64 0, .int .i64 0, .int .i64 0] [.int .i64 0, .int .i64 0, .int .i64 0, .int .i64 0, .int .i64 0] (v := .agg #[.int .i64 0, .int .i64 0, .int .i64 0, .int .i64 0, .int .i64 0]) rfl rfl (by kernel_rfl) (by kernel_rfl) (by kernel_rfl) (by kernel_rfl) hf (by kernel_rfl) (by kernel_rfl) (by kernel_rfl) ?_
      clear hf; clear a; intro w20 a hb hg _ hf
      replace hs := (hs.updBox 2 rfl hb hg).nf rfl
      clear hb hg
      replace hs := hs.sel [2] rfl rfl
      replace hf := hf.keep (ks := [2]) rfl
      refine st tbOk 1 [2, 3] hf rfl ?_
      clear hf a; intro a hf
      refine wpList_nil ?_
      have hr := Option.some.inj hS; subst hr
      refine wp_ret ?_
      exact ret_okC hf (vs := [.agg #[.int .i64 0, .int .i64 0, .int .i64 0, .int .i64 0, .int .i64 0], .int .i64 11]) (.cons (.cell tbOk (hs.cbx 0 rfl) (off := 0) (by kernel_rfl) (by kernel_rfl)) (.cons (.tmp (by kernel_rfl)) .nil)) ⟨_, rfl, hs.sel [] rfl rfl⟩
    clear hS; intro KK10 k7 hK10 hS
    refine reg ?_
    refine st tbOk 2 [2, 4, 5, 7, 9, 11, 65, 66] hf rfl ?_
    clear hf a; intro a hf
    have hT := of_gd hS; clear hS; obtain ⟨hc5, hS⟩ := hT
    refine ixR tbOk u63 i2 rfl rfl (hs.raW 0 rfl) (k := .i64) (n := s9) hc5 hf (by kernel_rfl) (by kernel_rfl) (by kernel_rfl) (by kernel_rfl) ?_
    clear hf; clear a; intro pb4 po4 c3 a hp3 hr3 hf
    obtain rfl : c3 = [.int .i64 (gt s5.2 s9)] := hr3
    replace hf := hf.keep (ks := [2, 4, 5, 7, 9, 11, 67]) rfl
    refine ldC tbOk (T := 2) hp3 (LeH.refl _) 0 (.int .i64 (gt s5.2 s9)) hf (by kernel_rfl) (by kernel_rfl) (by kernel_rfl) (by kernel_rfl) ?_
    clear hf a; intro a hf
    replace hf := hf.keep (ks := [2, 4, 5, 7, 9, 11, 68]) rfl
    refine st tbOk 2 [2, 4, 5, 7, 9, 11, 70] hf rfl ?_
    clear hf a; intro a hf
    rcases Bool.eq_false_or_eq_true (decide ((gt s5.2 s9) < 0)) with hb9 | hb9
    · replace hS := of_t hb9 hS
      replace hf := hf.castB hb9 (fun qb => [(2, .pointer (some ⟨w.heap.size, 0, none⟩)), (4, .slice ao1 z1.length cp1), (5, .int .i64 s1), (7, .slice ao2 s5.2.length cp2), (9, .int .i64 s5.1), (11, .int .i64 s9), (70, .bool qb)]) (by kernel_rfl)
      refine st tbOk 5 [2, 4, 5, 7, 9, 11, 70, 75] hf rfl ?_
      clear hf a; intro a hf
      refine st tbOk 1 [2, 4, 5, 7, 9, 11, 76] hf rfl ?_
      clear hf a; intro a hf
      refine wpList_nil ?_
      exact hK10 true _ _ ⟨_, hs.sel [0, 1, 2] rfl rfl, hf.keep (ks := [2, 4, 5, 7, 9, 11, 76]) (by kernel_rfl)⟩ hS
    replace hS := of_f hb9 hS
    replace hf := hf.castB hb9 (fun qb => [(2, .pointer (some ⟨w.heap.size, 0, none⟩)), (4, .slice ao1 z1.length cp1), (5, .int .i64 s1), (7, .slice ao2 s5.2.length cp2), (9, .int .i64 s5.1), (11, .int .i64 s9), (70, .bool qb)]) (by kernel_rfl)
    refine st tbOk 2 [2, 4, 5, 7, 9, 11, 70, 71, 72] hf rfl ?_
    clear hf a; intro a hf
    have hT := of_gd hS; clear hS; obtain ⟨hc6, hS⟩ := hT
    refine ixR tbOk u63 i2 rfl rfl (hs.raW 0 rfl) (k := .i64) (n := s9) hc6 hf (by kernel_rfl) (by kernel_rfl) (by kernel_rfl) (by kernel_rfl) ?_
    clear hf; clear a; intro pb5 po5 c4 a hp4 hr4 hf
    obtain rfl : c4 = [.int .i64 (gt s5.2 s9)] := hr4
    replace hf := hf.keep (ks := [2, 4, 5, 7, 9, 11, 70, 73]) rfl
    refine ldC tbOk (T := 2) hp4 (LeH.refl _) 0 (.int .i64 (gt s5.2 s9)) hf (by kernel_rfl) (by kernel_rfl) (by kernel_rfl) (by kernel_rfl) ?_
    clear hf a; intro a hf
    replace hf := hf.keep (ks := [2, 4, 5, 7, 9, 11, 70, 74]) rfl
    refine st tbOk 2 [2, 4, 5, 7, 9, 11, 76] hf rfl ?_
    clear hf a; intro a hf
    refine wpList_nil ?_
    exact hK10 (decide ((gt s5.2 s9) > 31)) _ _ ⟨_, hs.sel [0, 1, 2] rfl rfl, hf.keep (ks := [2, 4, 5, 7, 9, 11, 76]) (by kernel_rfl)⟩ hS
  clear hS hf hs; clear a; intro s8 a w21 hM hS
  obtain ⟨F11, hs, hf⟩ := hM
  refine sq ?_
  have hT := of_gd hS; clear hS; obtain ⟨hc7, hS⟩ := hT
  have hT := of_gd hS; clear hS; obtain ⟨hc8, hS⟩ := hT
  have hT := of_gd hS; clear hS; obtain ⟨hc9, hS⟩ := hT
  have hT := of_gd hS; clear hS; obtain ⟨hc10, hS⟩ := hT
  have hs0 := hs
  refine regF 15 [fun u uw => u = .int .i64 s1,
    fun u uw => u = .slice ao2 s5.2.length cp2,
    fun u uw => ∃ (pb7 : Nat) (po7 : Nat), u = .pointer (some ⟨pb7, po7, none⟩) ∧ CellsAt (hp uw) ⟨pb7, po7, none⟩ [.int .i64 (gt s5.2 0)],
    fun u uw => u = .int .i64 (gt s5.2 0),
    fun u uw => u = .slice ao2 s5.2.length cp2,
    fun u uw => ∃ (pb9 : Nat) (po9 : Nat), u = .pointer (some ⟨pb9, po9, none⟩) ∧ CellsAt (hp uw) ⟨pb9, po9, none⟩ [.int .i64 (gt s5.2 1)],
    fun u uw => u = .int .i64 (gt s5.2 1),
    fun u uw => u = .slice ao2 s5.2.length cp2,
    fun u uw => ∃ (pb11 : Nat) (po11 : Nat), u = .pointer (some ⟨pb11, po11, none⟩) ∧ CellsAt (hp uw) ⟨pb11, po11, none⟩ [.int .i64 (gt s5.2 2)],
    fun u uw => u = .int .i64 (gt s5.2 2),
    fun u uw => u = .slice ao2 s5.2.length cp2,
    fun u uw => ∃ (pb13 : Nat) (po13 : Nat), u = .pointer (some ⟨pb13, po13, none⟩) ∧ CellsAt (hp uw) ⟨pb13, po13, none⟩ [.int .i64 (gt s5.2 3)],
    fun u uw => u = .int .i64 (gt s5.2 3),
    fun u uw => u = .agg #[.int .i64 s1, .int .i64 (gt s5.2 0), .int .i64 (gt s5.2 1), .int .i64 (gt s5.2 2), .int .i64 (gt s5.2 3)],
    fun u uw => ∃ (b1 : Nat) (F' : SH), u = .pointer (some ⟨b1, 0, none⟩) ∧ Sep w21 F11 noR uw F' [.box b1 31 [.int .i64 0, .int .i64 0, .int .i64 0, .int .i64 0, .int .i64 0]]] mixed (Fr.keep (ks := [2, 4, 5, 7, 9]) (L' := [(2, .pointer (some ⟨w.heap.size, 0, none⟩)), (4, .slice ao1 z1.length cp1), (5, .int .i64 s1), (7, .slice ao2 s5.2.length cp2), (9, .int .i64 s5.1)]) hf (by kernel_rfl)) (by kernel_rfl) rfl ?_ ?_ ?_
  · exact ⟨fun _ _ _ h _ => h, fun _ _ _ h _ => h, fun _ _ _ ⟨pb7, po7, e, f0⟩ hx => ⟨pb7, po7, e, f0.mono hx.le⟩, fun _ _ _ h _ => h, fun _ _ _ h _ => h, fun _ _ _ ⟨pb9, po9, e, f0⟩ hx => ⟨pb9, po9, e, f0.mono hx.le⟩, fun _ _ _ h _ => h, fun _ _ _ h _ => h, fun _ _ _ ⟨pb11, po11, e, f0⟩ hx => ⟨pb11, po11, e, f0.mono hx.le⟩, fun _ _ _ h _ => h, fun _ _ _ h _ => h, fun _ _ _ ⟨pb13, po13, e, f0⟩ hx => ⟨pb13, po13, e, f0.mono hx.le⟩, fun _ _ _ h _ => h, fun _ _ _ h _ => h, fun _ _ _ ⟨b1, F', e, h⟩ hx => ⟨b1, F', e, h.ext hx⟩, trivial⟩
  · clear hS hf hs; clear a
    refine ⟨?_, ?_, ?_, ?_, ?_, ?_, ?_, ?_, ?_, ?_, ?_, ?_, ?_, ?_, ?_, trivial⟩
    · intro a wf hX hf hd
      clear hd
      have hs := (hs0.fstart hX [] rfl rfl).nf rfl
      refine st tbOk 1 [78] (L' := [(78, .int .i64 s1)]) hf (by kernel_rfl) ?_
      clear hf; clear a; intro a hf
      exact fq_ok (d := 78) rfl hf (hs.ex fun _ h => h) hf.1
    · intro a wf hX hf hd
      clear hd
      have hs := (hs0.fstart hX [] rfl rfl).nf rfl
      refine st tbOk 1 [79] (L' := [(79, .slice ao2 s5.2.length cp2)]) hf (by kernel_rfl) ?_
      clear hf; clear a; intro a hf
      exact fq_ok (d := 79) rfl hf (hs.ex fun _ h => h) hf.1
    · intro a wf hX hf hd
      have e_79 : a.tmps.getD 79 undef = .slice ao2 s5.2.length cp2 := hd 1 79 (by kernel_rfl) (by kernel_rfl)
      replace hf : Fr 104 [(79, .slice ao2 s5.2.length cp2), (2, .pointer (some ⟨w.heap.size, 0, none⟩)), (4, .slice ao1 z1.length cp1), (5, .int .i64 s1), (7, .slice ao2 s5.2.length cp2), (9, .int .i64 s5.1)] a := ⟨e_79, hf⟩; clear e_79
      clear hd
      have hs := (hs0.fstart hX [] rfl rfl).nf rfl
      refine ixR tbOk u63 i2 rfl rfl ((hs0.raW 0 rfl).mono hX.le (star_ge _ w21 wf)) (k := .i64) (n := 0) hc7 hf (by kernel_rfl) (by kernel_rfl) (by kernel_rfl) (by kernel_rfl) ?_
      clear hf; clear a; intro pb6 po6 c5 a hp5 hr5 hf
      obtain rfl : c5 = [.int .i64 (gt s5.2 0)] := hr5
      exact fq_ok (d := 80) rfl hf (hs.ex fun _ h => h) ⟨pb6, po6, hf.1, hp5⟩
    · intro a wf hX hf hd
      obtain ⟨pb7, po7, e_80, hp6⟩ : ∃ (pb7 : Nat) (po7 : Nat), a.tmps.getD 80 undef = .pointer (some ⟨pb7, po7, none⟩) ∧ CellsAt (hp wf) ⟨pb7, po7, none⟩ [.int .i64 (gt s5.2 0)] := hd 2 80 (by kernel_rfl) (by kernel_rfl)
      replace hf : Fr 104 [(80, .pointer (some ⟨pb7, po7, none⟩)), (2, .pointer (some ⟨w.heap.size, 0, none⟩)), (4, .slice ao1 z1.length cp1), (5, .int .i64 s1), (7, .slice ao2 s5.2.length cp2), (9, .int .i64 s5.1)] a := ⟨e_80, hf⟩; clear e_80
      clear hd
      have hs := (hs0.fstart hX [] rfl rfl).nf rfl
      refine ldC tbOk (T := 2) hp6 (LeH.refl _) 0 (.int .i64 (gt s5.2 0)) hf (by kernel_rfl) (by kernel_rfl) (by kernel_rfl) (by kernel_rfl) ?_
      clear hf a; intro a hf
      exact fq_ok (d := 81) rfl hf (hs.ex fun _ h => h) hf.1
    · intro a wf hX hf hd
      clear hd
      have hs := (hs0.fstart hX [] rfl rfl).nf rfl
      refine st tbOk 1 [82] (L' := [(82, .slice ao2 s5.2.length cp2)]) hf (by kernel_rfl) ?_
      clear hf; clear a; intro a hf
      exact fq_ok (d := 82) rfl hf (hs.ex fun _ h => h) hf.1
    · intro a wf hX hf hd
      have e_82 : a.tmps.getD 82 undef = .slice ao2 s5.2.length cp2 := hd 4 82 (by kernel_rfl) (by kernel_rfl)
      replace hf : Fr 104 [(82, .slice ao2 s5.2.length cp2), (2, .pointer (some ⟨w.heap.size, 0, none⟩)), (4, .slice ao1 z1.length cp1), (5, .int .i64 s1), (7, .slice ao2 s5.2.length cp2), (9, .int .i64 s5.1)] a := ⟨e_82, hf⟩; clear e_82
      clear hd
      have hs := (hs0.fstart hX [] rfl rfl).nf rfl
      refine ixR tbOk u63 i2 rfl rfl ((hs0.raW 0 rfl).mono hX.le (star_ge _ w21 wf)) (k := .i64) (n := 1) hc8 hf (by kernel_rfl) (by kernel_rfl) (by kernel_rfl) (by kernel_rfl) ?_
      clear hf; clear a; intro pb8 po8 c6 a hp7 hr6 hf
      obtain rfl : c6 = [.int .i64 (gt s5.2 1)] := hr6
      exact fq_ok (d := 83) rfl hf (hs.ex fun _ h => h) ⟨pb8, po8, hf.1, hp7⟩
    · intro a wf hX hf hd
      obtain ⟨pb9, po9, e_83, hp8⟩ : ∃ (pb9 : Nat) (po9 : Nat), a.tmps.getD 83 undef = .pointer (some ⟨pb9, po9, none⟩) ∧ CellsAt (hp wf) ⟨pb9, po9, none⟩ [.int .i64 (gt s5.2 1)] := hd 5 83 (by kernel_rfl) (by kernel_rfl)
      replace hf : Fr 104 [(83, .pointer (some ⟨pb9, po9, none⟩)), (2, .pointer (some ⟨w.heap.size, 0, none⟩)), (4, .slice ao1 z1.length cp1), (5, .int .i64 s1), (7, .slice ao2 s5.2.length cp2), (9, .int .i64 s5.1)] a := ⟨e_83, hf⟩; clear e_83
      clear hd
      have hs := (hs0.fstart hX [] rfl rfl).nf rfl
      refine ldC tbOk (T := 2) hp8 (LeH.refl _) 0 (.int .i64 (gt s5.2 1)) hf (by kernel_rfl) (by kernel_rfl) (by kernel_rfl) (by kernel_rfl) ?_
      clear hf a; intro a hf
      exact fq_ok (d := 84) rfl hf (hs.ex fun _ h => h) hf.1
    · intro a wf hX hf hd
      clear hd
      have hs := (hs0.fstart hX [] rfl rfl).nf rfl
      refine st tbOk 1 [85] (L' := [(85, .slice ao2 s5.2.length cp2)]) hf (by kernel_rfl) ?_
      clear hf; clear a; intro a hf
      exact fq_ok (d := 85) rfl hf (hs.ex fun _ h => h) hf.1
    · intro a wf hX hf hd
      have e_85 : a.tmps.getD 85 undef = .slice ao2 s5.2.length cp2 := hd 7 85 (by kernel_rfl) (by kernel_rfl)
      replace hf : Fr 104 [(85, .slice ao2 s5.2.length cp2), (2, .pointer (some ⟨w.heap.size, 0, none⟩)), (4, .slice ao1 z1.length cp1), (5, .int .i64 s1), (7, .slice ao2 s5.2.length cp2), (9, .int .i64 s5.1)] a := ⟨e_85, hf⟩; clear e_85
      clear hd
      have hs := (hs0.fstart hX [] rfl rfl).nf rfl
      refine ixR tbOk u63 i2 rfl rfl ((hs0.raW 0 rfl).mono hX.le (star_ge _ w21 wf)) (k := .i64) (n := 2) hc9 hf (by kernel_rfl) (by kernel_rfl) (by kernel_rfl) (by kernel_rfl) ?_
      clear hf; clear a; intro pb10 po10 c7 a hp9 hr7 hf
      obtain rfl : c7 = [.int .i64 (gt s5.2 2)] := hr7
      exact fq_ok (d := 86) rfl hf (hs.ex fun _ h => h) ⟨pb10, po10, hf.1, hp9⟩
    · intro a wf hX hf hd
      obtain ⟨pb11, po11, e_86, hp10⟩ : ∃ (pb11 : Nat) (po11 : Nat), a.tmps.getD 86 undef = .pointer (some ⟨pb11, po11, none⟩) ∧ CellsAt (hp wf) ⟨pb11, po11, none⟩ [.int .i64 (gt s5.2 2)] := hd 8 86 (by kernel_rfl) (by kernel_rfl)
      replace hf : Fr 104 [(86, .pointer (some ⟨pb11, po11, none⟩)), (2, .pointer (some ⟨w.heap.size, 0, none⟩)), (4, .slice ao1 z1.length cp1), (5, .int .i64 s1), (7, .slice ao2 s5.2.length cp2), (9, .int .i64 s5.1)] a := ⟨e_86, hf⟩; clear e_86
      clear hd
      have hs := (hs0.fstart hX [] rfl rfl).nf rfl
      refine ldC tbOk (T := 2) hp10 (LeH.refl _) 0 (.int .i64 (gt s5.2 2)) hf (by kernel_rfl) (by kernel_rfl) (by kernel_rfl) (by kernel_rfl) ?_
      clear hf a; intro a hf
      exact fq_ok (d := 87) rfl hf (hs.ex fun _ h => h) hf.1
    · intro a wf hX hf hd
      clear hd
      have hs := (hs0.fstart hX [] rfl rfl).nf rfl
      refine st tbOk 1 [88] (L' := [(88, .slice ao2 s5.2.length cp2)]) hf (by kernel_rfl) ?_
      clear hf; clear a; intro a hf
      exact fq_ok (d := 88) rfl hf (hs.ex fun _ h => h) hf.1
    · intro a wf hX hf hd
      have e_88 : a.tmps.getD 88 undef = .slice ao2 s5.2.length cp2 := hd 10 88 (by kernel_rfl) (by kernel_rfl)
      replace hf : Fr 104 [(88, .slice ao2 s5.2.length cp2), (2, .pointer (some ⟨w.heap.size, 0, none⟩)), (4, .slice ao1 z1.length cp1), (5, .int .i64 s1), (7, .slice ao2 s5.2.length cp2), (9, .int .i64 s5.1)] a := ⟨e_88, hf⟩; clear e_88
      clear hd
      have hs := (hs0.fstart hX [] rfl rfl).nf rfl
      refine ixR tbOk u63 i2 rfl rfl ((hs0.raW 0 rfl).mono hX.le (star_ge _ w21 wf)) (k := .i64) (n := 3) hc10 hf (by kernel_rfl) (by kernel_rfl) (by kernel_rfl) (by kernel_rfl) ?_
      clear hf; clear a; intro pb12 po12 c8 a hp11 hr8 hf
      obtain rfl : c8 = [.int .i64 (gt s5.2 3)] := hr8
      exact fq_ok (d := 89) rfl hf (hs.ex fun _ h => h) ⟨pb12, po12, hf.1, hp11⟩
    · intro a wf hX hf hd
      obtain ⟨pb13, po13, e_89, hp12⟩ : ∃ (pb13 : Nat) (po13 : Nat), a.tmps.getD 89 undef = .pointer (some ⟨pb13, po13, none⟩) ∧ CellsAt (hp wf) ⟨pb13, po13, none⟩ [.int .i64 (gt s5.2 3)] := hd 11 89 (by kernel_rfl) (by kernel_rfl)
      replace hf : Fr 104 [(89, .pointer (some ⟨pb13, po13, none⟩)), (2, .pointer (some ⟨w.heap.size, 0, none⟩)), (4, .slice ao1 z1.length cp1), (5, .int .i64 s1), (7, .slice ao2 s5.2.length cp2), (9, .int .i64 s5.1)] a := ⟨e_89, hf⟩; clear e_89
      clear hd
      have hs := (hs0.fstart hX [] rfl rfl).nf rfl
      refine ldC tbOk (T := 2) hp12 (LeH.refl _) 0 (.int .i64 (gt s5.2 3)) hf (by kernel_rfl) (by kernel_rfl) (by kernel_rfl) (by kernel_rfl) ?_
      clear hf a; intro a hf
      exact fq_ok (d := 90) rfl hf (hs.ex fun _ h => h) hf.1
    · intro a wf hX hf hd
      have e_78 : a.tmps.getD 78 undef = .int .i64 s1 := hd 0 78 (by kernel_rfl) (by kernel_rfl)
      have e_81 : a.tmps.getD 81 undef = .int .i64 (gt s5.2 0) := hd 3 81 (by kernel_rfl) (by kernel_rfl)
      have e_84 : a.tmps.getD 84 undef = .int .i64 (gt s5.2 1) := hd 6 84 (by kernel_rfl) (by kernel_rfl)
      have e_87 : a.tmps.getD 87 undef = .int .i64 (gt s5.2 2) := hd 9 87 (by kernel_rfl) (by kernel_rfl)
      have e_90 : a.tmps.getD 90 undef = .int .i64 (gt s5.2 3) := hd 12 90 (by kernel_rfl) (by kernel_rfl)
      replace hf : Fr 104 [(78, .int .i64 s1), (81, .int .i64 (gt s5.2 0)), (84, .int .i64 (gt s5.2 1)), (87, .int .i64 (gt s5.2 2)), (90, .int .i64 (gt s5.2 3)), (2, .pointer (some ⟨w.heap.size, 0, none⟩)), (4, .slice ao1 z1.length cp1), (5, .int .i64 s1), (7, .slice ao2 s5.2.length cp2), (9, .int .i64 s5.1)] a := ⟨e_78, e_81, e_84, e_87, e_90, hf⟩; clear e_78 e_81 e_84 e_87 e_90
      clear hd
      have hs := (hs0.fstart hX [] rfl rfl).nf rfl
      refine st tbOk 1 [91] (L' := [(91, .agg #[.int .i64 s1, .int .i64 (gt s5.2 0), .int .i64 (gt s5.2 1), .int .i64 (gt s5.2 2), .int .i64 (gt s5.2 3)])]) hf (by kernel_rfl) ?_
      clear hf; clear a; intro a hf
      exact fq_ok (d := 91) rfl hf (hs.ex fun _ h => h) hf.1
    · intro a wf hX hf hd
      clear hd
      have hs := (hs0.fstart hX [] rfl rfl).nf rfl
      refine al tbOk i31 [.int .i64 0, .int .i64 0, .int .i64 0, .int .i64 0, .int .i64 0] rfl (by kernel_rfl) hf (by kernel_rfl) (by kernel_rfl) ?_
      clear hf; clear a; intro w22 a hb hx _ hf
      replace hs := hs.newBox hb hx
      clear hb hx
      exact fq_ok (d := 12) rfl hf (hs.ex fun _ h => h) ⟨wf.heap.size, _, hf.1, (hs.sel [0] rfl rfl).rebase hX⟩
  clear hf hs; clear a; intro a w23 hx hf hd
  obtain ⟨b1, F_12, e_12, h_12⟩ : ∃ (b1 : Nat) (F' : SH), a.tmps.getD 12 undef = .pointer (some ⟨b1, 0, none⟩) ∧ Sep w21 F11 noR w23 F' [.box b1 31 [.int .i64 0, .int .i64 0, .int .i64 0, .int .i64 0, .int .i64 0]] := hd 14 12 (by kernel_rfl) (by kernel_rfl)
  have e_91 : a.tmps.getD 91 undef = .agg #[.int .i64 s1, .int .i64 (gt s5.2 0), .int .i64 (gt s5.2 1), .int .i64 (gt s5.2 2), .int .i64 (gt s5.2 3)] := hd 13 91 (by kernel_rfl) (by kernel_rfl)
  have hs := (hs0.addFlat hx h_12 ⟨trivial, trivial⟩).nf rfl
  clear h_12
  clear hd hx
  clear hs0
  replace hf : Fr 104 [(12, .pointer (some ⟨b1, 0, none⟩)), (91, .agg #[.int .i64 s1, .int .i64 (gt s5.2 0), .int .i64 (gt s5.2 1), .int .i64 (gt s5.2 2), .int .i64 (gt s5.2 3)]), (2, .pointer (some ⟨w.heap.size, 0, none⟩)), (4, .slice ao1 z1.length cp1), (5, .int .i64 s1), (7, .slice ao2 s5.2.length cp2), (9, .int .i64 s5.1)] a := ⟨e_12, e_91, hf⟩
  clear e_12 e_91
  replace hs := hs.sel [0, 2, 3] rfl rfl
  replace hf := Fr.keep (ks := [2, 4, 9, 12, 91]) (L' := [(2, .pointer (some ⟨w.heap.size, 0, none⟩)), (4, .slice ao1 z1.length cp1), (9, .int .i64 s5.1), (12, .pointer (some ⟨b1, 0, none⟩)), (91, .agg #[.int .i64 s1, .int .i64 (gt s5.2 0), .int .i64 (gt s5.2 1), .int .i64 (gt s5.2 2), .int .i64 (gt s5.2 3)])]) hf (by kernel_rfl)
  refine stB tbOk i31 (hs.bx 0 rfl) 0 [.int .i64 s1, .int .i64 (gt s5.2 0), .int .i64 (gt s5.2 1), .int .i64 (gt s5.2 2), .int .i64 (gt s5.2 3)] [.int .i64 s1, .int .i64 (gt s5.2 0), .int .i64 (gt s5.2 1), .int .i64 (gt s5.2 2), .int .i64 (gt s5.2 3)] (v := .agg #[.int .i64 s1, .int .i64 (gt s5.2 0), .int .i64 (gt s5.2 1), .int .i64 (gt s5.2 2), .int .i64 (gt s5.2 3)]) rfl rfl (by kernel_rfl) (by kernel_rfl) (by kernel_rfl) (by kernel_rfl) hf (by kernel_rfl) (by kernel_rfl) (by kernel_rfl) ?_
  clear hf; clear a; intro w24 a hb hg _ hf
  replace hs := (hs.updBox 0 rfl hb hg).nf rfl
  clear hb hg
  replace hf := hf.keep (ks := [2, 4, 9, 12]) rfl
  refine wpList_nil ?_
  refine sq ?_
  refine reg ?_
  refine ldC tbOk (T := 31) (hs.cbx 0 rfl) (LeH.refl _) 0 (.agg #[.int .i64 s1, .int .i64 (gt s5.2 0), .int .i64 (gt s5.2 1), .int .i64 (gt s5.2 2), .int .i64 (gt s5.2 3)]) hf (by kernel_rfl) (by kernel_rfl) (by kernel_rfl) (by kernel_rfl) ?_
  clear hf a; intro a hf
  replace hf := hf.keep (ks := [2, 4, 9, 12, 92]) rfl
  have hT := of_bd hS; clear hS; obtain ⟨z5, hz5, hS⟩ := hT
  refine clV ent23 (vs := [.agg #[.int .i64 s1, .int .i64 (gt s5.2 0), .int .i64 (gt s5.2 1), .int .i64 (gt s5.2 2), .int .i64 (gt s5.2 3)]]) (caps := []) hf (by kernel_rfl) (by kernel_rfl) (by kernel_rfl) (by kernel_rfl) (ref12_May_ok (i := (s1, gt s5.2 0, gt s5.2 1, gt s5.2 2, gt s5.2 3)) (hs.enter [] rfl rfl) hz5) ?_
  clear hf; clear a; intro v w25 a hT hf; obtain ⟨F14, rfl, hr⟩ := hT
  replace hs := (hs.back [] [0, 1, 2] rfl rfl rfl rfl hr).nf rfl
  clear hr
  replace hf := hf.keep (ks := [2, 4, 9, 12, 93]) rfl
  refine st tbOk 1 [2, 4, 9, 12, 13] hf rfl ?_
  clear hf a; intro a hf
  refine wpList_nil ?_
  refine sq ?_
  refine sq ?_
  refine ctj (fun (s11 : Bool) (a : Act) (w' : World) => ∃ (F15 : SH), Sep w F R w' F15 [.box b1 31 [.int .i64 s1, .int .i64 (gt s5.2 0), .int .i64 (gt s5.2 1), .int .i64 (gt s5.2 2), .int .i64 (gt s5.2 3)], .box w.heap.size 31 [.int .i64 0, .int .i64 0, .int .i64 0, .int .i64 0, .int .i64 0]] ∧ Fr 104 [(2, .pointer (some ⟨w.heap.size, 0, none⟩)), (12, .pointer (some ⟨b1, 0, none⟩)), (101, .bool s11)] a) hS ?_ ?_
  rotate_left
  · clear hS; intro KK11 k8 hK11 hS
    refine reg ?_
    refine st tbOk 5 [2, 12, 13, 98] hf rfl ?_
    clear hf a; intro a hf
    rcases Bool.eq_false_or_eq_true (s5.1 != ((z1.length : Nat) : Int)) with hb11 | hb11
    · replace hS := of_t hb11 hS
      replace hf := hf.castB hb11 (fun qb => [(2, .pointer (some ⟨w.heap.size, 0, none⟩)), (12, .pointer (some ⟨b1, 0, none⟩)), (13, .bool z5), (98, .bool qb)]) (by kernel_rfl)
      refine st tbOk 3 [2, 12, 101] hf rfl ?_
      clear hf a; intro a hf
      refine wpList_nil ?_
      exact hK11 true _ _ ⟨_, hs.sel [0, 2] rfl rfl, hf.keep (ks := [2, 12, 101]) (by kernel_rfl)⟩ hS
    replace hS := of_f hb11 hS
    replace hf := hf.castB hb11 (fun qb => [(2, .pointer (some ⟨w.heap.size, 0, none⟩)), (12, .pointer (some ⟨b1, 0, none⟩)), (13, .bool z5), (98, .bool qb)]) (by kernel_rfl)
    refine st tbOk 3 [2, 12, 101] hf rfl ?_
    clear hf a; intro a hf
    refine wpList_nil ?_
    exact hK11 (!z5) _ _ ⟨_, hs.sel [0, 2] rfl rfl, hf.keep (ks := [2, 12, 101]) (by kernel_rfl)⟩ hS
  clear hS hf hs; clear a; intro s11 a w26 hM hS
  obtain ⟨F15, hs, hf⟩ := hM
  refine cnd (b := s11) hf (by kernel_rfl) (fun hb12 => ?_) (fun hb12 => ?_)
  · replace hS := of_t hb12 hS
    refine sq ?_
    refine reg ?_
    refine st tbOk 1 [2, 102] hf rfl ?_
    clear hf a; intro a hf
    refine stB tbOk i31 (hs.bx 1 rfl) 0 [.int .i64 0, .int .i64 0, .int .i64 0, .int .i64 0, .int .i64 0] [.int .i64 0, .int .i64 0, .int .i64 0, .int .i64 0, .int .i64 0] (v := .agg #[.int .i64 0, .int .i64 0, .int .i64 0, .int .i64 0, .int .i64 0]) rfl rfl (by kernel_rfl) (by kernel_rfl) (by kernel_rfl) (by kernel_rfl) hf (by kernel_rfl) (by kernel_rfl) (by kernel_rfl) ?_
    clear hf; clear a; intro w27 a hb hg _ hf
    replace hs := (hs.updBox 1 rfl hb hg).nf rfl
    clear hb hg
    replace hs := hs.sel [1] rfl rfl
    replace hf := hf.keep (ks := [2]) rfl
    refine st tbOk 1 [2, 3] hf rfl ?_
    clear hf a; intro a hf
    refine wpList_nil ?_
    have hr := Option.some.inj hS; subst hr
    refine wp_ret ?_
    exact ret_okC hf (vs := [.agg #[.int .i64 0, .int .i64 0, .int .i64 0, .int .i64 0, .int .i64 0], .int .i64 11]) (.cons (.cell tbOk (hs.cbx 0 rfl) (off := 0) (by kernel_rfl) (by kernel_rfl)) (.cons (.tmp (by kernel_rfl)) .nil)) ⟨_, rfl, hs.sel [] rfl rfl⟩
  replace hS := of_f hb12 hS
  refine wp_skip ?_
  refine sq ?_
  refine reg ?_
  refine ldC tbOk (T := 31) (hs.cbx 0 rfl) (LeH.refl _) 0 (.agg #[.int .i64 s1, .int .i64 (gt s5.2 0), .int .i64 (gt s5.2 1), .int .i64 (gt s5.2 2), .int .i64 (gt s5.2 3)]) hf (by kernel_rfl) (by kernel_rfl) (by kernel_rfl) (by kernel_rfl) ?_
  clear hf a; intro a hf
  replace hs := hs.sel [1] rfl rfl
  replace hf := hf.keep (ks := [2, 103]) rfl
  refine stB tbOk i31 (hs.bx 0 rfl) 0 [.int .i64 s1, .int .i64 (gt s5.2 0), .int .i64 (gt s5.2 1), .int .i64 (gt s5.2 2), .int .i64 (gt s5.2 3)] [.int .i64 s1, .int .i64 (gt s5.2 0), .int .i64 (gt s5.2 1), .int .i64 (gt s5.2 2), .int .i64 (gt s5.2 3)] (v := .agg #[.int .i64 s1, .int .i64 (gt s5.2 0), .int .i64 (gt s5.2 1), .int .i64 (gt s5.2 2), .int .i64 (gt s5.2 3)]) rfl rfl (by kernel_rfl) (by kernel_rfl) (by kernel_rfl) (by kernel_rfl) hf (by kernel_rfl) (by kernel_rfl) (by kernel_rfl) ?_
  clear hf; clear a; intro w28 a hb hg _ hf
  replace hs := (hs.updBox 0 rfl hb hg).nf rfl
  clear hb hg
  replace hf := hf.keep (ks := [2]) rfl
  refine st tbOk 1 [2, 3] hf rfl ?_
  clear hf a; intro a hf
  refine wpList_nil ?_
  have hr := Option.some.inj hS; subst hr
  refine wp_ret ?_
  exact ret_okC hf (vs := [.agg #[.int .i64 s1, .int .i64 (gt s5.2 0), .int .i64 (gt s5.2 1), .int .i64 (gt s5.2 2), .int .i64 (gt s5.2 3)], .int .i64 0]) (.cons (.cell tbOk (hs.cbx 0 rfl) (off := 0) (by kernel_rfl) (by kernel_rfl)) (.cons (.tmp (by kernel_rfl)) .nil)) ⟨_, rfl, hs.sel [] rfl rfl⟩

end Dm
