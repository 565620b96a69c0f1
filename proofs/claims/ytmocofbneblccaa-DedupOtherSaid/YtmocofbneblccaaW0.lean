/-
  The walks: a call of each Go function gives what its shallow form gives, where that form gives something; printed by a program of this repo. No condition.
-/
import Derived.Test.YtmocofbneblccaaWT
namespace Dm
open Go Go.RowKit Go.Proofs

set_option maxHeartbeats 4000000 in
theorem dedup_Origin_1_ok {w : World} {F : SH} {f : (List UInt8) × (List Int)} {q_1 : List UInt8} {ao1 : Option Addr} {cp1 : Nat} {b1 : Nat} (hs : Sep w F (blks [.ro (tI .u8) (.slice ao1 f.2.length cp1) f.2, .cel b1 0 [strV q_1]]) w F [.ro (tI .u8) (.slice ao1 f.2.length cp1) f.2, .cel b1 0 [strV q_1]]) {r : Bool} (hS : dedup_Origin_1 f q_1 = some r) :
    Calls Try.prog 36 [.agg #[strV f.1, .slice ao1 f.2.length cp1], .pointer (some ⟨b1, 0, none⟩)].toArray w (Gives (fun u w' => ∃ (F' : SH), u = .bool r ∧ Sep w F (blks [.ro (tI .u8) (.slice ao1 f.2.length cp1) f.2, .cel b1 0 [strV q_1]]) w' F' [])) := by
  generalize (blks [.ro (tI .u8) (.slice ao1 f.2.length cp1) f.2, .cel b1 0 [strV q_1]]) = R at hs ⊢
  unfold dedup_Origin_1 at hS
  refine fn_ok (vs := [.agg #[strV f.1, .slice ao1 f.2.length cp1], .pointer (some ⟨b1, 0, none⟩)]) Try.func36 rfl 8 Try.ntmps36 (Nat.le_of_ble_eq_true rfl) ?_
  intro a hf
  replace hf := Fr.cast (L' := [(0, .agg #[strV f.1, .slice ao1 f.2.length cp1]), (1, .pointer (some ⟨b1, 0, none⟩))]) hf (by kernel_rfl)
  refine sq ?_
  refine reg ?_
  refine bx (T := 61) [strV f.1, .slice ao1 f.2.length cp1] (v := .agg #[strV f.1, .slice ao1 f.2.length cp1]) rfl (by kernel_rfl) hf (by kernel_rfl) (by kernel_rfl) (by kernel_rfl) ?_
  clear hf; clear a; intro w1 a hb hx _ hf
  replace hs : Sep w F R w1 F [.box w.heap.size 61 [strV f.1, .slice ao1 f.2.length cp1], .ro (tI .u8) (.slice ao1 f.2.length cp1) f.2, .cel b1 0 [strV q_1]] := hs.newBox hb hx
  clear hb hx
  replace hf := Fr.keep (ks := [1, 2]) (L' := [(1, .pointer (some ⟨b1, 0, none⟩)), (2, .pointer (some ⟨w.heap.size, 0, none⟩))]) hf (by kernel_rfl)
  refine st tbOk 1 [1, 2] (L' := [(1, .pointer (some ⟨b1, 0, none⟩)), (2, .pointer (some ⟨w.heap.size, 0, none⟩))]) hf (by kernel_rfl) ?_
  clear hf; clear a; intro a hf
  refine wpList_nil ?_
  refine sq ?_
  refine reg ?_
  refine st tbOk 1 [1, 4] (L' := [(1, .pointer (some ⟨b1, 0, none⟩)), (4, .pointer (some ⟨w.heap.size, 0, none⟩))]) hf (by kernel_rfl) ?_
  clear hf; clear a; intro a hf
  refine ldC tbOk (T := 9) (hs.cbx 0 rfl) (LeH.refl _) 0 (strV f.1) hf (by kernel_rfl) (by kernel_rfl) (by kernel_rfl) (by kernel_rfl) ?_
  clear hf; clear a; intro a hf
  replace hs : Sep w F R w1 F [.cel b1 0 [strV q_1]] := hs.sel [2] rfl rfl
  replace hf := Fr.keep (ks := [1, 5]) (L' := [(1, .pointer (some ⟨b1, 0, none⟩)), (5, strV f.1)]) hf (by kernel_rfl)
  refine ldC tbOk (T := 9) (hs.ccel 0 rfl) (LeH.refl _) 0 (strV q_1) hf (by kernel_rfl) (by kernel_rfl) (by kernel_rfl) (by kernel_rfl) ?_
  clear hf; clear a; intro a hf
  replace hs : Sep w F R w1 F [] := hs.sel [] rfl rfl
  replace hf := Fr.keep (ks := [5, 6]) (L' := [(5, strV f.1), (6, strV q_1)]) hf (by kernel_rfl)
  refine st tbOk 2 [3] (L' := [(3, .bool (f.1 == q_1))]) hf (by kernel_rfl) ?_
  clear hf; clear a; intro a hf
  refine wpList_nil ?_
  have hr := Option.some.inj hS; subst hr
  refine wp_ret ?_
  exact ret_ok hf (vs := [.bool (f.1 == q_1)]) (by kernel_rfl) ⟨_, rfl, hs.sel [] rfl rfl⟩

set_option maxHeartbeats 4000000 in
theorem slices_IndexFunc_api_File_api_File_Origin_1_ok {w : World} {F : SH} {p_s : List ((List UInt8) × (List Int))} {q_c0 : List UInt8} {ao1 : Option Addr} {cp1 : Nat} {b1 : Nat} (hs : Sep w F (blks [.ro ty60 (.slice ao1 p_s.length cp1) p_s, .cel b1 0 [strV q_c0]]) w F [.ro ty60 (.slice ao1 p_s.length cp1) p_s, .cel b1 0 [strV q_c0]]) {r : Int} (hS : slices_IndexFunc_api_File_api_File_Origin_1 p_s q_c0 = some r) :
    Calls Try.prog 35 [.slice ao1 p_s.length cp1, .func (.func 36) #[] #[.pointer (some ⟨b1, 0, none⟩)]].toArray w (Gives (fun u w' => ∃ (F' : SH), u = .int .i64 r ∧ Sep w F (blks [.ro ty60 (.slice ao1 p_s.length cp1) p_s, .cel b1 0 [strV q_c0]]) w' F' [])) := by
  generalize (blks [.ro ty60 (.slice ao1 p_s.length cp1) p_s, .cel b1 0 [strV q_c0]]) = R at hs ⊢
  unfold slices_IndexFunc_api_File_api_File_Origin_1 at hS
  refine fn_ok (vs := [.slice ao1 p_s.length cp1, .func (.func 36) #[] #[.pointer (some ⟨b1, 0, none⟩)]]) Try.func35 rfl 19 Try.ntmps35 (Nat.le_of_ble_eq_true rfl) ?_
  intro a hf
  replace hf := Fr.cast (L' := [(0, .slice ao1 p_s.length cp1), (1, .func (.func 36) #[] #[.pointer (some ⟨b1, 0, none⟩)])]) hf (by kernel_rfl)
  refine sq ?_
  refine reg ?_
  refine st tbOk 1 [0, 1] (L' := [(0, .slice ao1 p_s.length cp1), (1, .func (.func 36) #[] #[.pointer (some ⟨b1, 0, none⟩)])]) hf (by kernel_rfl) ?_
  clear hf; clear a; intro a hf
  refine wpList_nil ?_
  refine sq ?_
  refine sq ?_
  refine reg ?_
  refine st tbOk 3 [0, 1, 7, 8] (L' := [(0, .slice ao1 p_s.length cp1), (1, .func (.func 36) #[] #[.pointer (some ⟨b1, 0, none⟩)]), (7, .int .i64 ((p_s.length : Nat) : Int)), (8, .int .i64 0)]) hf (by kernel_rfl) ?_
  clear hf; clear a; intro a hf
  refine wpList_nil ?_
  refine ctj (fun (s1 : Unit) (a : Act) (w' : World) => ∃ (F1 : SH), Sep w F R w' F1 [] ∧ Fr 19 [] a) hS ?_ ?_
  · clear hS hf hs; clear a; intro s1 a w3 hM hS
    obtain ⟨F1, hs, hf⟩ := hM
    refine sq ?_
    refine reg ?_
    refine st tbOk 1 [4] (L' := [(4, .int .i64 (-1))]) hf (by kernel_rfl) ?_
    clear hf; clear a; intro a hf
    refine wpList_nil ?_
    have hr := Option.some.inj hS; subst hr
    refine wp_ret ?_
    exact ret_ok hf (vs := [.int .i64 (-1)]) (by kernel_rfl) ⟨_, rfl, hs.sel [] rfl rfl⟩
  · clear hS; intro KK1 k1 hK1 hS
    refine blk ?_
    refine lp (st := 0) (fun (s2 : Int) (a : Act) (w' : World) => ∃ (F2 : SH), Sep w F R w' F2 [.ro ty60 (.slice ao1 p_s.length cp1) p_s, .cel b1 0 [strV q_c0]] ∧ Fr 19 [(0, .slice ao1 p_s.length cp1), (1, .func (.func 36) #[] #[.pointer (some ⟨b1, 0, none⟩)]), (7, .int .i64 ((p_s.length : Nat) : Int)), (8, .int .i64 s2)] a) ?_ ⟨_, hs.sel [0, 1] rfl rfl, hf.keep (ks := [0, 1, 7, 8]) (by kernel_rfl)⟩ hS
    clear hS hf hs; clear a
    intro rec1 KK2 hK2 s2 a w1 hM hS
    obtain ⟨F2, hs, hf⟩ := hM
    refine sq ?_
    refine reg ?_
    refine st tbOk 1 [0, 1, 7, 8, 9] (L' := [(0, .slice ao1 p_s.length cp1), (1, .func (.func 36) #[] #[.pointer (some ⟨b1, 0, none⟩)]), (7, .int .i64 ((p_s.length : Nat) : Int)), (8, .int .i64 s2), (9, .bool (decide (s2 < ((p_s.length : Nat) : Int))))]) hf (by kernel_rfl) ?_
    clear hf; clear a; intro a hf
    refine wpList_nil ?_
    refine sq ?_
    refine cnd (b := decide (s2 < ((p_s.length : Nat) : Int))) hf (by kernel_rfl) (fun hb1 => ?_) (fun hb1 => ?_)
    · replace hS := of_t hb1 hS
      refine wp_skip ?_
      refine sq ?_
      refine blk ?_
      refine sq ?_
      refine reg ?_
      refine st tbOk 2 [0, 1, 5, 7, 8] (L' := [(0, .slice ao1 p_s.length cp1), (1, .func (.func 36) #[] #[.pointer (some ⟨b1, 0, none⟩)]), (5, .int .i64 s2), (7, .int .i64 ((p_s.length : Nat) : Int)), (8, .int .i64 s2)]) hf (by kernel_rfl) ?_
      clear hf; clear a; intro a hf
      refine wpList_nil ?_
      refine sq ?_
      refine reg ?_
      refine st tbOk 3 [0, 1, 5, 7, 8, 11, 12, 13] (L' := [(0, .slice ao1 p_s.length cp1), (1, .func (.func 36) #[] #[.pointer (some ⟨b1, 0, none⟩)]), (5, .int .i64 s2), (7, .int .i64 ((p_s.length : Nat) : Int)), (8, .int .i64 s2), (11, .func (.func 36) #[] #[.pointer (some ⟨b1, 0, none⟩)]), (12, .slice ao1 p_s.length cp1), (13, .int .i64 s2)]) hf (by kernel_rfl) ?_
      clear hf; clear a; intro a hf
      have hT := of_gd hS; clear hS; obtain ⟨hc1, hS⟩ := hT
      refine ixR tbOk u24 i61 rfl rfl ((hs.ro 0 rfl).ra (LeH.refl _)) (k := .i64) (n := s2) hc1 hf (by kernel_rfl) (by kernel_rfl) (by kernel_rfl) (by kernel_rfl) ?_
      clear hf; clear a; intro pb1 po1 c1 a hp1 hr1 hf
      obtain ⟨ao2, cp2, rfl, hr2⟩ := hr1
      replace hs : Sep w F R w1 F2 [.ro (tI .u8) (.slice ao2 ((gt p_s s2).2).length cp2) ((gt p_s s2).2), .ro ty60 (.slice ao1 p_s.length cp1) p_s, .cel b1 0 [strV q_c0]] := hs.addRo hr2
      replace hs : Sep w F R w1 F2 [.cel pb1 po1 [strV ((gt p_s s2).1), .slice ao2 ((gt p_s s2).2).length cp2], .ro (tI .u8) (.slice ao2 ((gt p_s s2).2).length cp2) ((gt p_s s2).2), .ro ty60 (.slice ao1 p_s.length cp1) p_s, .cel b1 0 [strV q_c0]] := hs.addCel hp1
      replace hf := Fr.keep (ks := [0, 1, 5, 7, 8, 11, 14]) (L' := [(0, .slice ao1 p_s.length cp1), (1, .func (.func 36) #[] #[.pointer (some ⟨b1, 0, none⟩)]), (5, .int .i64 s2), (7, .int .i64 ((p_s.length : Nat) : Int)), (8, .int .i64 s2), (11, .func (.func 36) #[] #[.pointer (some ⟨b1, 0, none⟩)]), (14, .pointer (some ⟨pb1, po1, none⟩))]) hf (by kernel_rfl)
      refine ldC tbOk (T := 61) (hs.ccel 0 rfl) (LeH.refl _) 0 (.agg #[strV ((gt p_s s2).1), .slice ao2 ((gt p_s s2).2).length cp2]) hf (by kernel_rfl) (by kernel_rfl) (by kernel_rfl) (by kernel_rfl) ?_
      clear hf; clear a; intro a hf
      replace hs : Sep w F R w1 F2 [.ro (tI .u8) (.slice ao2 ((gt p_s s2).2).length cp2) ((gt p_s s2).2), .ro ty60 (.slice ao1 p_s.length cp1) p_s, .cel b1 0 [strV q_c0]] := hs.sel [1, 2, 3] rfl rfl
      replace hf := Fr.keep (ks := [0, 1, 5, 7, 8, 11, 15]) (L' := [(0, .slice ao1 p_s.length cp1), (1, .func (.func 36) #[] #[.pointer (some ⟨b1, 0, none⟩)]), (5, .int .i64 s2), (7, .int .i64 ((p_s.length : Nat) : Int)), (8, .int .i64 s2), (11, .func (.func 36) #[] #[.pointer (some ⟨b1, 0, none⟩)]), (15, .agg #[strV ((gt p_s s2).1), .slice ao2 ((gt p_s s2).2).length cp2])]) hf (by kernel_rfl)
      have hT := of_bd hS; clear hS; obtain ⟨z1, hz1, hS⟩ := hT
      refine clV ent36 (vs := [.agg #[strV ((gt p_s s2).1), .slice ao2 ((gt p_s s2).2).length cp2]]) (caps := [.pointer (some ⟨b1, 0, none⟩)]) hf (by kernel_rfl) (by kernel_rfl) (by kernel_rfl) (by kernel_rfl) (dedup_Origin_1_ok (f := gt p_s s2) (q_1 := q_c0) (hs.enter [0, 2] rfl rfl) hz1) ?_
      clear hf; clear a; intro v w2 a hT hf; obtain ⟨F3, rfl, hr⟩ := hT
      replace hs : Sep w F R w2 F3 [.ro (tI .u8) (.slice ao2 ((gt p_s s2).2).length cp2) ((gt p_s s2).2), .ro ty60 (.slice ao1 p_s.length cp1) p_s, .cel b1 0 [strV q_c0]] := hs.back [0, 2] [0, 1, 2] rfl rfl rfl rfl hr
      clear hr
      replace hs : Sep w F R w2 F3 [.ro ty60 (.slice ao1 p_s.length cp1) p_s, .cel b1 0 [strV q_c0]] := hs.sel [1, 2] rfl rfl
      replace hf := Fr.keep (ks := [0, 1, 5, 7, 8, 16]) (L' := [(0, .slice ao1 p_s.length cp1), (1, .func (.func 36) #[] #[.pointer (some ⟨b1, 0, none⟩)]), (5, .int .i64 s2), (7, .int .i64 ((p_s.length : Nat) : Int)), (8, .int .i64 s2), (16, .bool z1)]) hf (by kernel_rfl)
      refine wpList_nil ?_
      refine cnd (b := z1) hf (by kernel_rfl) (fun hb2 => ?_) (fun hb2 => ?_)
      · replace hS := of_t hb2 hS
        refine sq ?_
        refine reg ?_
        refine st tbOk 2 [4] (L' := [(4, .int .i64 s2)]) hf (by kernel_rfl) ?_
        clear hf; clear a; intro a hf
        refine wpList_nil ?_
        have hr := Option.some.inj hS; subst hr
        refine wp_ret ?_
        exact ret_ok hf (vs := [.int .i64 s2]) (by kernel_rfl) ⟨_, rfl, hs.sel [] rfl rfl⟩
      · replace hS := of_f hb2 hS
        refine wp_skip ?_
        refine reg ?_
        refine st tbOk 2 [0, 1, 7, 8] (L' := [(0, .slice ao1 p_s.length cp1), (1, .func (.func 36) #[] #[.pointer (some ⟨b1, 0, none⟩)]), (7, .int .i64 ((p_s.length : Nat) : Int)), (8, .int .i64 (IntKind.i64.wrap (s2 + 1)))]) hf (by kernel_rfl) ?_
        clear hf; clear a; intro a hf
        refine wpList_nil ?_
        exact hK2 (IntKind.i64.wrap (s2 + 1)) _ _ ⟨_, hs.sel [0, 1] rfl rfl, hf.keep (ks := [0, 1, 7, 8]) (by kernel_rfl)⟩ hS
    · replace hS := of_f hb1 hS
      refine wp_exit ?_
      exact hK1 () _ _ ⟨_, hs.sel [] rfl rfl, hf.keep (ks := []) (by kernel_rfl)⟩ hS

end Dm
