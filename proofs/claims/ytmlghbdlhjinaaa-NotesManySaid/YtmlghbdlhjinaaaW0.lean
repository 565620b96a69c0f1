/-
  The walks: a call of each Go function gives what its shallow form gives, where that form gives something; printed by a program of this repo. No condition.
-/
import Derived.Test.YtmlghbdlhjinaaaWT
namespace Dm
open Go Go.RowKit Go.Proofs

theorem strings_Contains_ok {w : World} {F : SH} {s sub : List UInt8} (hs : Sep w F (blks []) w F []) {r : Bool} (hS : strings_Contains s sub = some r) :
    Calls Try.prog 33 [strV s, strV sub].toArray w (Gives (fun u w' => ∃ (F' : SH), u = .bool r ∧ Sep w F (blks []) w' F' [])) := by
  unfold strings_Contains at hS
  split at hS
  · rename_i c
    have hr := Option.some.inj hS; subst hr
    refine (Try.strings_Contains_one ⟨s.toArray⟩ c w).mono ?_
    rintro e w' ⟨rfl, rfl⟩
    exact ⟨_, rfl, F, by rw [← hasB_eq], hs⟩
  · cases hS

set_option maxHeartbeats 4000000 in
theorem slices_Index_byte_byte_ok {w : World} {F : SH} {p_s : List Int} {p_v : Int} {ao1 : Option Addr} {cp1 : Nat} (hs : Sep w F (blks [.ro (tI .u8) (.slice ao1 p_s.length cp1) p_s]) w F [.ro (tI .u8) (.slice ao1 p_s.length cp1) p_s]) {r : Int} (hS : slices_Index_byte_byte p_s p_v = some r) :
    Calls Try.prog 32 [.slice ao1 p_s.length cp1, .int .u8 p_v].toArray w (Gives (fun u w' => ∃ (F' : SH), u = .int .i64 r ∧ Sep w F (blks [.ro (tI .u8) (.slice ao1 p_s.length cp1) p_s]) w' F' [])) := by
  generalize (blks [.ro (tI .u8) (.slice ao1 p_s.length cp1) p_s]) = R at hs ⊢
  unfold slices_Index_byte_byte at hS
  refine fn_ok (vs := [.slice ao1 p_s.length cp1, .int .u8 p_v]) Try.func32 rfl 19 Try.ntmps32 (Nat.le_of_ble_eq_true rfl) ?_
  intro a hf
  replace hf := Fr.cast (L' := [(0, .slice ao1 p_s.length cp1), (1, .int .u8 p_v)]) hf (by kernel_rfl)
  refine sq ?_
  refine reg ?_
  refine st tbOk 1 [0, 1] (L' := [(0, .slice ao1 p_s.length cp1), (1, .int .u8 p_v)]) hf (by kernel_rfl) ?_
  clear hf; clear a; intro a hf
  refine wpList_nil ?_
  refine sq ?_
  refine sq ?_
  refine reg ?_
  refine st tbOk 3 [0, 1, 7, 8] (L' := [(0, .slice ao1 p_s.length cp1), (1, .int .u8 p_v), (7, .int .i64 ((p_s.length : Nat) : Int)), (8, .int .i64 0)]) hf (by kernel_rfl) ?_
  clear hf; clear a; intro a hf
  refine wpList_nil ?_
  refine ctj (fun (s1 : Unit) (a : Act) (w' : World) => ∃ (F1 : SH), Sep w F R w' F1 [] ∧ Fr 19 [] a) hS ?_ ?_
  · clear hS hf hs; clear a; intro s1 a w2 hM hS
    obtain ⟨F1, hs, hf⟩ := hM
    refine sq ?_
    refine reg ?_
    refine st tbOk 1 [4] (L' := [(4, .int .i64 (-1))]) hf (by kernel_rfl) ?_
    clear hf; clear a; intro a hf
    refine wpList_nil ?_
    have hr := Option.some.inj hS; subst hr
    refine wp_ret ?_
    exact ret_ok hf (vs := [.int .i64 (-1)]) (by kernel_rfl) ⟨_, rfl, hs.sel [] rfl rfl⟩
  · clear hS; intro KK1 k1 hK1 hS
    refine blk ?_
    refine lp (st := 0) (fun (s2 : Int) (a : Act) (w' : World) => ∃ (F2 : SH), Sep w F R w' F2 [.ro (tI .u8) (.slice ao1 p_s.length cp1) p_s] ∧ Fr 19 [(0, .slice ao1 p_s.length cp1), (1, .int .u8 p_v), (7, .int .i64 ((p_s.length : Nat) : Int)), (8, .int .i64 s2)] a) ?_ ⟨_, hs.sel [0] rfl rfl, hf.keep (ks := [0, 1, 7, 8]) (by kernel_rfl)⟩ hS
    clear hS hf hs; clear a
    intro rec1 KK2 hK2 s2 a w1 hM hS
    obtain ⟨F2, hs, hf⟩ := hM
    refine sq ?_
    refine reg ?_
    refine st tbOk 1 [0, 1, 7, 8, 9] (L' := [(0, .slice ao1 p_s.length cp1), (1, .int .u8 p_v), (7, .int .i64 ((p_s.length : Nat) : Int)), (8, .int .i64 s2), (9, .bool (decide (s2 < ((p_s.length : Nat) : Int))))]) hf (by kernel_rfl) ?_
    clear hf; clear a; intro a hf
    refine wpList_nil ?_
    refine sq ?_
    refine cnd (b := decide (s2 < ((p_s.length : Nat) : Int))) hf (by kernel_rfl) (fun hb1 => ?_) (fun hb1 => ?_)
    · replace hS := of_t hb1 hS
      refine wp_skip ?_
      refine sq ?_
      refine blk ?_
      refine sq ?_
      refine reg ?_
      refine st tbOk 2 [0, 1, 5, 7, 8] (L' := [(0, .slice ao1 p_s.length cp1), (1, .int .u8 p_v), (5, .int .i64 s2), (7, .int .i64 ((p_s.length : Nat) : Int)), (8, .int .i64 s2)]) hf (by kernel_rfl) ?_
      clear hf; clear a; intro a hf
      refine wpList_nil ?_
      refine sq ?_
      refine reg ?_
      refine st tbOk 3 [0, 1, 5, 7, 8, 11, 12, 13] (L' := [(0, .slice ao1 p_s.length cp1), (1, .int .u8 p_v), (5, .int .i64 s2), (7, .int .i64 ((p_s.length : Nat) : Int)), (8, .int .i64 s2), (11, .int .u8 p_v), (12, .slice ao1 p_s.length cp1), (13, .int .i64 s2)]) hf (by kernel_rfl) ?_
      clear hf; clear a; intro a hf
      have hT := of_gd hS; clear hS; obtain ⟨hc1, hS⟩ := hT
      refine ixR tbOk u22 i5 rfl rfl ((hs.ro 0 rfl).ra (LeH.refl _)) (k := .i64) (n := s2) hc1 hf (by kernel_rfl) (by kernel_rfl) (by kernel_rfl) (by kernel_rfl) ?_
      clear hf; clear a; intro pb1 po1 c1 a hp1 hr1 hf
      obtain rfl : c1 = [.int .u8 (gt p_s s2)] := hr1
      replace hs : Sep w F R w1 F2 [.cel pb1 po1 [.int .u8 (gt p_s s2)], .ro (tI .u8) (.slice ao1 p_s.length cp1) p_s] := hs.addCel hp1
      replace hf := Fr.keep (ks := [0, 1, 5, 7, 8, 11, 14]) (L' := [(0, .slice ao1 p_s.length cp1), (1, .int .u8 p_v), (5, .int .i64 s2), (7, .int .i64 ((p_s.length : Nat) : Int)), (8, .int .i64 s2), (11, .int .u8 p_v), (14, .pointer (some ⟨pb1, po1, none⟩))]) hf (by kernel_rfl)
      refine ldC tbOk (T := 5) (hs.ccel 0 rfl) (LeH.refl _) 0 (.int .u8 (gt p_s s2)) hf (by kernel_rfl) (by kernel_rfl) (by kernel_rfl) (by kernel_rfl) ?_
      clear hf; clear a; intro a hf
      replace hs : Sep w F R w1 F2 [.ro (tI .u8) (.slice ao1 p_s.length cp1) p_s] := hs.sel [1] rfl rfl
      replace hf := Fr.keep (ks := [0, 1, 5, 7, 8, 11, 15]) (L' := [(0, .slice ao1 p_s.length cp1), (1, .int .u8 p_v), (5, .int .i64 s2), (7, .int .i64 ((p_s.length : Nat) : Int)), (8, .int .i64 s2), (11, .int .u8 p_v), (15, .int .u8 (gt p_s s2))]) hf (by kernel_rfl)
      refine st tbOk 1 [0, 1, 5, 7, 8, 16] (L' := [(0, .slice ao1 p_s.length cp1), (1, .int .u8 p_v), (5, .int .i64 s2), (7, .int .i64 ((p_s.length : Nat) : Int)), (8, .int .i64 s2), (16, .bool (p_v == (gt p_s s2)))]) hf (by kernel_rfl) ?_
      clear hf; clear a; intro a hf
      refine wpList_nil ?_
      refine cnd (b := p_v == (gt p_s s2)) hf (by kernel_rfl) (fun hb2 => ?_) (fun hb2 => ?_)
      · replace hS := of_t hb2 hS
        refine sq ?_
        refine reg ?_
        refine st tbOk 2 [4] (L' := [(4, .int .i64 s2)]) hf (by kernel_rfl) ?_
        clear hf; clear a; intro a hf
        refine wpList_nil ?_
        have hr := Option.some.inj hS; subst hr
        refine wp_ret ?_
        exact ret_ok hf (vs := [.int .i64 s2]) (by kernel_rfl) ⟨_, rfl, hs.sel [] rfl rfl⟩
      · replace hS := of_f hb2 hS
        refine wp_skip ?_
        refine reg ?_
        refine st tbOk 2 [0, 1, 7, 8] (L' := [(0, .slice ao1 p_s.length cp1), (1, .int .u8 p_v), (7, .int .i64 ((p_s.length : Nat) : Int)), (8, .int .i64 (IntKind.i64.wrap (s2 + 1)))]) hf (by kernel_rfl) ?_
        clear hf; clear a; intro a hf
        refine wpList_nil ?_
        exact hK2 (IntKind.i64.wrap (s2 + 1)) _ _ ⟨_, hs.sel [0] rfl rfl, hf.keep (ks := [0, 1, 7, 8]) (by kernel_rfl)⟩ hS
    · replace hS := of_f hb1 hS
      refine wp_exit ?_
      exact hK1 () _ _ ⟨_, hs.sel [] rfl rfl, hf.keep (ks := []) (by kernel_rfl)⟩ hS

end Dm
