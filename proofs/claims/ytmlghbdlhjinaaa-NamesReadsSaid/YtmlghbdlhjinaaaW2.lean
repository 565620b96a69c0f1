/-
  The walks: a call of each Go function gives what its shallow form gives, where that form gives something; printed by a program of this repo. No condition.
-/
import Derived.Test.YtmlghbdlhjinaaaWT
namespace Dm
open Go Go.RowKit Go.Proofs

set_option maxHeartbeats 4000000 in
theorem ref02_At_ok {w : World} {F : SH} {table : List Int} {p_at : Int} {ao1 : Option Addr} {cp1 : Nat} (hs : Sep w F (blks [.ro (tI .u8) (.slice ao1 table.length cp1) table]) w F [.ro (tI .u8) (.slice ao1 table.length cp1) table]) {r : (List UInt8) × Int} (hS : ref02_At table p_at = some r) :
    Calls Try.prog 17 [.slice ao1 table.length cp1, .int .u64 p_at].toArray w (Gives (fun u w' => ∃ (F' : SH), u = .tuple #[strV r.1, .int .i64 r.2] ∧ Sep w F (blks [.ro (tI .u8) (.slice ao1 table.length cp1) table]) w' F' [])) := by
  generalize (blks [.ro (tI .u8) (.slice ao1 table.length cp1) table]) = R at hs ⊢
  unfold ref02_At at hS
  refine fn_ok (vs := [.slice ao1 table.length cp1, .int .u64 p_at]) Try.func17 rfl 31 Try.ntmps17 (Nat.le_of_ble_eq_true rfl) ?_
  intro a hf
  replace hf := Fr.cast (L' := [(0, .slice ao1 table.length cp1), (1, .int .u64 p_at)]) hf (by kernel_rfl)
  refine sq ?_
  refine reg ?_
  refine st tbOk 2 [0, 1] (L' := [(0, .slice ao1 table.length cp1), (1, .int .u64 p_at)]) hf (by kernel_rfl) ?_
  clear hf; clear a; intro a hf
  refine wpList_nil ?_
  refine sq ?_
  refine sq ?_
  refine reg ?_
  refine st tbOk 5 [0, 1, 11] (L' := [(0, .slice ao1 table.length cp1), (1, .int .u64 p_at), (11, .bool (decide (p_at ≥ (IntKind.u64.wrap ((table.length : Nat) : Int)))))]) hf (by kernel_rfl) ?_
  clear hf; clear a; intro a hf
  refine wpList_nil ?_
  refine cnd (b := decide (p_at ≥ (IntKind.u64.wrap ((table.length : Nat) : Int)))) hf (by kernel_rfl) (fun hb1 => ?_) (fun hb1 => ?_)
  · replace hS := of_t hb1 hS
    refine sq ?_
    refine reg ?_
    refine st tbOk 2 [4, 5] (L' := [(4, strV []), (5, .int .i64 10)]) hf (by kernel_rfl) ?_
    clear hf; clear a; intro a hf
    refine wpList_nil ?_
    have hr := Option.some.inj hS; subst hr
    refine wp_ret ?_
    exact ret_ok hf (vs := [strV [], .int .i64 10]) (by kernel_rfl) ⟨_, rfl, hs.sel [] rfl rfl⟩
  · replace hS := of_f hb1 hS
    refine wp_skip ?_
    refine sq ?_
    refine sq ?_
    refine reg ?_
    have hT := of_let hS; clear hS; obtain ⟨i_1, hl1, hS⟩ := hT
    refine st tbOk 3 [0, 1, 6] (L' := [(0, .slice ao1 table.length cp1), (1, .int .u64 p_at), (6, .int .i64 i_1)]) hf (by subst hl1; kernel_rfl) ?_
    clear hf; clear a; intro a hf
    refine wpList_nil ?_
    refine ctj (fun (s1 : Unit) (a : Act) (w' : World) => ∃ (F1 : SH), Sep w F R w' F1 [] ∧ Fr 31 [] a) hS ?_ ?_
    · clear hS hf hs; clear a; intro s1 a w2 hM hS
      obtain ⟨F1, hs, hf⟩ := hM
      refine sq ?_
      refine reg ?_
      refine st tbOk 2 [4, 5] (L' := [(4, strV []), (5, .int .i64 11)]) hf (by kernel_rfl) ?_
      clear hf; clear a; intro a hf
      refine wpList_nil ?_
      have hr := Option.some.inj hS; subst hr
      refine wp_ret ?_
      exact ret_ok hf (vs := [strV [], .int .i64 11]) (by kernel_rfl) ⟨_, rfl, hs.sel [] rfl rfl⟩
    · clear hS; intro KK1 k1 hK1 hS
      refine blk ?_
      refine lp (st := i_1) (fun (s2 : Int) (a : Act) (w' : World) => ∃ (F2 : SH), Sep w F R w' F2 [.ro (tI .u8) (.slice ao1 table.length cp1) table] ∧ Fr 31 [(0, .slice ao1 table.length cp1), (1, .int .u64 p_at), (6, .int .i64 s2)] a) ?_ ⟨_, hs.sel [0] rfl rfl, hf.keep (ks := [0, 1, 6]) (by kernel_rfl)⟩ hS
      clear hS hf hs; clear a
      intro rec1 KK2 hK2 s2 a w1 hM hS
      obtain ⟨F2, hs, hf⟩ := hM
      refine sq ?_
      refine sq ?_
      refine reg ?_
      refine st tbOk 4 [0, 1, 6, 17] (L' := [(0, .slice ao1 table.length cp1), (1, .int .u64 p_at), (6, .int .i64 s2), (17, .bool (decide (s2 < ((table.length : Nat) : Int))))]) hf (by kernel_rfl) ?_
      clear hf; clear a; intro a hf
      refine wpList_nil ?_
      refine cnd (b := decide (s2 < ((table.length : Nat) : Int))) hf (by kernel_rfl) (fun hb2 => ?_) (fun hb2 => ?_)
      · replace hS := of_t hb2 hS
        refine wp_skip ?_
        refine sq ?_
        refine blk ?_
        refine sq ?_
        refine reg ?_
        refine st tbOk 2 [0, 1, 6, 20, 21] (L' := [(0, .slice ao1 table.length cp1), (1, .int .u64 p_at), (6, .int .i64 s2), (20, .slice ao1 table.length cp1), (21, .int .i64 s2)]) hf (by kernel_rfl) ?_
        clear hf; clear a; intro a hf
        have hT := of_gd hS; clear hS; obtain ⟨hc1, hS⟩ := hT
        refine ixR tbOk u22 i5 rfl rfl ((hs.ro 0 rfl).ra (LeH.refl _)) (k := .i64) (n := s2) hc1 hf (by kernel_rfl) (by kernel_rfl) (by kernel_rfl) (by kernel_rfl) ?_
        clear hf; clear a; intro pb1 po1 c1 a hp1 hr1 hf
        obtain rfl : c1 = [.int .u8 (gt table s2)] := hr1
        replace hs : Sep w F R w1 F2 [.cel pb1 po1 [.int .u8 (gt table s2)], .ro (tI .u8) (.slice ao1 table.length cp1) table] := hs.addCel hp1
        replace hf := Fr.keep (ks := [0, 1, 6, 22]) (L' := [(0, .slice ao1 table.length cp1), (1, .int .u64 p_at), (6, .int .i64 s2), (22, .pointer (some ⟨pb1, po1, none⟩))]) hf (by kernel_rfl)
        refine ldC tbOk (T := 5) (hs.ccel 0 rfl) (LeH.refl _) 0 (.int .u8 (gt table s2)) hf (by kernel_rfl) (by kernel_rfl) (by kernel_rfl) (by kernel_rfl) ?_
        clear hf; clear a; intro a hf
        replace hs : Sep w F R w1 F2 [.ro (tI .u8) (.slice ao1 table.length cp1) table] := hs.sel [1] rfl rfl
        replace hf := Fr.keep (ks := [0, 1, 6, 23]) (L' := [(0, .slice ao1 table.length cp1), (1, .int .u64 p_at), (6, .int .i64 s2), (23, .int .u8 (gt table s2))]) hf (by kernel_rfl)
        refine st tbOk 1 [0, 1, 6, 24] (L' := [(0, .slice ao1 table.length cp1), (1, .int .u64 p_at), (6, .int .i64 s2), (24, .bool ((gt table s2) == 0))]) hf (by kernel_rfl) ?_
        clear hf; clear a; intro a hf
        refine wpList_nil ?_
        refine cnd (b := (gt table s2) == 0) hf (by kernel_rfl) (fun hb3 => ?_) (fun hb3 => ?_)
        · replace hS := of_t hb3 hS
          refine sq ?_
          refine reg ?_
          refine st tbOk 4 [25, 27, 28] (L' := [(25, .slice ao1 table.length cp1), (27, .int .i64 (IntKind.i64.wrap p_at)), (28, .int .i64 s2)]) hf (by kernel_rfl) ?_
          clear hf; clear a; intro a hf
          have hT := of_gd hS; clear hS; obtain ⟨hc2, hS⟩ := hT
          refine sl tbOk u22 i5 rfl (hs.ro 0 rfl) (lo := IntKind.i64.wrap p_at) (hi := s2) (m := 0) hc2 (.inr ⟨_, .i64, rfl, by kernel_rfl⟩) (.inr ⟨_, .i64, rfl, by kernel_rfl⟩) (.inl rfl) hf (by kernel_rfl) (by kernel_rfl) (by kernel_rfl) ?_
          clear hf; clear a; intro ao2 cp2 a hr2 hf
          replace hs : Sep w F R w1 F2 [.ro (tI .u8) (.slice ao2 (cutL table (IntKind.i64.wrap p_at) s2).length cp2) (cutL table (IntKind.i64.wrap p_at) s2), .ro (tI .u8) (.slice ao1 table.length cp1) table] := hs.addRo hr2
          replace hs : Sep w F R w1 F2 [.ro (tI .u8) (.slice ao2 (cutL table (IntKind.i64.wrap p_at) s2).length cp2) (cutL table (IntKind.i64.wrap p_at) s2)] := hs.sel [0] rfl rfl
          replace hf := Fr.keep (ks := [29]) (L' := [(29, .slice ao2 (cutL table (IntKind.i64.wrap p_at) s2).length cp2)]) hf (by kernel_rfl)
          refine b2sR tbOk u22 u5 u9 (hs.raR 0 rfl) hf (by kernel_rfl) (by kernel_rfl) (by kernel_rfl) ?_
          clear hf; clear a; intro a hf
          replace hs : Sep w F R w1 F2 [] := hs.sel [] rfl rfl
          replace hf := Fr.keep (ks := [30]) (L' := [(30, strV (toStr (cutL table (IntKind.i64.wrap p_at) s2)))]) hf (by kernel_rfl)
          refine st tbOk 2 [4, 5] (L' := [(4, strV (toStr (cutL table (IntKind.i64.wrap p_at) s2))), (5, .int .i64 0)]) hf (by kernel_rfl) ?_
          clear hf; clear a; intro a hf
          refine wpList_nil ?_
          have hr := Option.some.inj hS; subst hr
          refine wp_ret ?_
          exact ret_ok hf (vs := [strV (toStr (cutL table (IntKind.i64.wrap p_at) s2)), .int .i64 0]) (by kernel_rfl) ⟨_, rfl, hs.sel [] rfl rfl⟩
        · replace hS := of_f hb3 hS
          refine wp_skip ?_
          refine reg ?_
          have hT := of_let hS; clear hS; obtain ⟨i_2, hl2, hS⟩ := hT
          refine st tbOk 3 [0, 1, 6] (L' := [(0, .slice ao1 table.length cp1), (1, .int .u64 p_at), (6, .int .i64 i_2)]) hf (by subst hl2; kernel_rfl) ?_
          clear hf; clear a; intro a hf
          refine wpList_nil ?_
          exact hK2 i_2 _ _ ⟨_, hs.sel [0] rfl rfl, hf.keep (ks := [0, 1, 6]) (by kernel_rfl)⟩ hS
      · replace hS := of_f hb2 hS
        refine wp_exit ?_
        exact hK1 () _ _ ⟨_, hs.sel [] rfl rfl, hf.keep (ks := []) (by kernel_rfl)⟩ hS

set_option maxHeartbeats 4000000 in
theorem ref02_Check_ok {w : World} {F : SH} {table : List Int} {ao1 : Option Addr} {cp1 : Nat} (hs : Sep w F (blks [.ro (tI .u8) (.slice ao1 table.length cp1) table]) w F [.ro (tI .u8) (.slice ao1 table.length cp1) table]) {r : Int} (hS : ref02_Check table = some r) :
    Calls Try.prog 19 [.slice ao1 table.length cp1].toArray w (Gives (fun u w' => ∃ (F' : SH), u = .int .i64 r ∧ Sep w F (blks [.ro (tI .u8) (.slice ao1 table.length cp1) table]) w' F' [])) := by
  generalize (blks [.ro (tI .u8) (.slice ao1 table.length cp1) table]) = R at hs ⊢
  unfold ref02_Check at hS
  refine fn_ok (vs := [.slice ao1 table.length cp1]) Try.func19 rfl 21 Try.ntmps19 (Nat.le_of_ble_eq_true rfl) ?_
  intro a hf
  replace hf := Fr.cast (L' := [(0, .slice ao1 table.length cp1)]) hf (by kernel_rfl)
  refine sq ?_
  refine reg ?_
  refine st tbOk 1 [0] (L' := [(0, .slice ao1 table.length cp1)]) hf (by kernel_rfl) ?_
  clear hf; clear a; intro a hf
  refine wpList_nil ?_
  refine sq ?_
  refine sq ?_
  refine ctj (fun (s1 : Bool) (a : Act) (w' : World) => ∃ (F1 : SH), Sep w F R w' F1 [] ∧ Fr 21 [(20, .bool s1)] a) hS ?_ ?_
  · clear hS hf hs; clear a; intro s1 a w1 hM hS
    obtain ⟨F1, hs, hf⟩ := hM
    refine cnd (b := s1) hf (by kernel_rfl) (fun hb3 => ?_) (fun hb3 => ?_)
    · replace hS := of_t hb3 hS
      refine sq ?_
      refine reg ?_
      refine st tbOk 1 [2] (L' := [(2, .int .i64 11)]) hf (by kernel_rfl) ?_
      clear hf; clear a; intro a hf
      refine wpList_nil ?_
      have hr := Option.some.inj hS; subst hr
      refine wp_ret ?_
      exact ret_ok hf (vs := [.int .i64 11]) (by kernel_rfl) ⟨_, rfl, hs.sel [] rfl rfl⟩
    · replace hS := of_f hb3 hS
      refine wp_skip ?_
      refine sq ?_
      refine reg ?_
      refine st tbOk 1 [2] (L' := [(2, .int .i64 0)]) hf (by kernel_rfl) ?_
      clear hf; clear a; intro a hf
      refine wpList_nil ?_
      have hr := Option.some.inj hS; subst hr
      refine wp_ret ?_
      exact ret_ok hf (vs := [.int .i64 0]) (by kernel_rfl) ⟨_, rfl, hs.sel [] rfl rfl⟩
  · clear hS; intro KK1 k1 hK1 hS
    refine reg ?_
    refine st tbOk 4 [0, 6] (L' := [(0, .slice ao1 table.length cp1), (6, .bool (((table.length : Nat) : Int) == 0))]) hf (by kernel_rfl) ?_
    clear hf; clear a; intro a hf
    rcases Bool.eq_false_or_eq_true (((table.length : Nat) : Int) == 0) with hb1 | hb1
    · replace hS := of_t hb1 hS
      replace hf := Fr.cast (L' := [(0, .slice ao1 table.length cp1), (6, .bool true)]) hf (by rw [hb1])
      refine st tbOk 14 [20] (L' := [(20, .bool true)]) hf (by kernel_rfl) ?_
      clear hf; clear a; intro a hf
      refine wpList_nil ?_
      exact hK1 true _ _ ⟨_, hs.sel [] rfl rfl, hf.keep (ks := [20]) (by kernel_rfl)⟩ hS
    · replace hS := of_f hb1 hS
      replace hf := Fr.cast (L' := [(0, .slice ao1 table.length cp1), (6, .bool false)]) hf (by rw [hb1])
      refine st tbOk 1 [0, 6, 7] (L' := [(0, .slice ao1 table.length cp1), (6, .bool false), (7, .slice ao1 table.length cp1)]) hf (by kernel_rfl) ?_
      clear hf; clear a; intro a hf
      have hT := of_gd hS; clear hS; obtain ⟨hc1, hS⟩ := hT
      refine ixR tbOk u22 i5 rfl rfl ((hs.ro 0 rfl).ra (LeH.refl _)) (k := .i64) (n := 0) hc1 hf (by kernel_rfl) (by kernel_rfl) (by kernel_rfl) (by kernel_rfl) ?_
      clear hf; clear a; intro pb1 po1 c1 a hp1 hr1 hf
      obtain rfl : c1 = [.int .u8 (gt table 0)] := hr1
      replace hs : Sep w F R w F [.cel pb1 po1 [.int .u8 (gt table 0)], .ro (tI .u8) (.slice ao1 table.length cp1) table] := hs.addCel hp1
      replace hf := Fr.keep (ks := [0, 6, 8]) (L' := [(0, .slice ao1 table.length cp1), (6, .bool false), (8, .pointer (some ⟨pb1, po1, none⟩))]) hf (by kernel_rfl)
      refine ldC tbOk (T := 5) (hs.ccel 0 rfl) (LeH.refl _) 0 (.int .u8 (gt table 0)) hf (by kernel_rfl) (by kernel_rfl) (by kernel_rfl) (by kernel_rfl) ?_
      clear hf; clear a; intro a hf
      replace hs : Sep w F R w F [.ro (tI .u8) (.slice ao1 table.length cp1) table] := hs.sel [1] rfl rfl
      replace hf := Fr.keep (ks := [0, 6, 9]) (L' := [(0, .slice ao1 table.length cp1), (6, .bool false), (9, .int .u8 (gt table 0))]) hf (by kernel_rfl)
      refine st tbOk 3 [0, 12] (L' := [(0, .slice ao1 table.length cp1), (12, .bool ((gt table 0) != 0))]) hf (by kernel_rfl) ?_
      clear hf; clear a; intro a hf
      rcases Bool.eq_false_or_eq_true ((gt table 0) != 0) with hb2 | hb2
      · replace hS := of_t hb2 hS
        replace hf := Fr.cast (L' := [(0, .slice ao1 table.length cp1), (12, .bool true)]) hf (by rw [hb2])
        refine st tbOk 8 [20] (L' := [(20, .bool true)]) hf (by kernel_rfl) ?_
        clear hf; clear a; intro a hf
        refine wpList_nil ?_
        exact hK1 true _ _ ⟨_, hs.sel [] rfl rfl, hf.keep (ks := [20]) (by kernel_rfl)⟩ hS
      · replace hS := of_f hb2 hS
        replace hf := Fr.cast (L' := [(0, .slice ao1 table.length cp1), (12, .bool false)]) hf (by rw [hb2])
        refine st tbOk 4 [12, 13, 16] (L' := [(12, .bool false), (13, .slice ao1 table.length cp1), (16, .int .i64 (IntKind.i64.wrap (((table.length : Nat) : Int) - 1)))]) hf (by kernel_rfl) ?_
        clear hf; clear a; intro a hf
        have hT := of_gd hS; clear hS; obtain ⟨hc2, hS⟩ := hT
        refine ixR tbOk u22 i5 rfl rfl ((hs.ro 0 rfl).ra (LeH.refl _)) (k := .i64) (n := IntKind.i64.wrap (((table.length : Nat) : Int) - 1)) hc2 hf (by kernel_rfl) (by kernel_rfl) (by kernel_rfl) (by kernel_rfl) ?_
        clear hf; clear a; intro pb2 po2 c2 a hp2 hr2 hf
        obtain rfl : c2 = [.int .u8 (gt table (IntKind.i64.wrap (((table.length : Nat) : Int) - 1)))] := hr2
        replace hs : Sep w F R w F [.cel pb2 po2 [.int .u8 (gt table (IntKind.i64.wrap (((table.length : Nat) : Int) - 1)))], .ro (tI .u8) (.slice ao1 table.length cp1) table] := hs.addCel hp2
        replace hs : Sep w F R w F [.cel pb2 po2 [.int .u8 (gt table (IntKind.i64.wrap (((table.length : Nat) : Int) - 1)))]] := hs.sel [0] rfl rfl
        replace hf := Fr.keep (ks := [12, 17]) (L' := [(12, .bool false), (17, .pointer (some ⟨pb2, po2, none⟩))]) hf (by kernel_rfl)
        refine ldC tbOk (T := 5) (hs.ccel 0 rfl) (LeH.refl _) 0 (.int .u8 (gt table (IntKind.i64.wrap (((table.length : Nat) : Int) - 1)))) hf (by kernel_rfl) (by kernel_rfl) (by kernel_rfl) (by kernel_rfl) ?_
        clear hf; clear a; intro a hf
        replace hs : Sep w F R w F [] := hs.sel [] rfl rfl
        replace hf := Fr.keep (ks := [12, 18]) (L' := [(12, .bool false), (18, .int .u8 (gt table (IntKind.i64.wrap (((table.length : Nat) : Int) - 1))))]) hf (by kernel_rfl)
        refine st tbOk 2 [20] (L' := [(20, .bool ((gt table (IntKind.i64.wrap (((table.length : Nat) : Int) - 1))) != 0))]) hf (by kernel_rfl) ?_
        clear hf; clear a; intro a hf
        refine wpList_nil ?_
        exact hK1 ((gt table (IntKind.i64.wrap (((table.length : Nat) : Int) - 1))) != 0) _ _ ⟨_, hs.sel [] rfl rfl, hf.keep (ks := [20]) (by kernel_rfl)⟩ hS

end Dm
