/-
  The walks: a call of each Go function gives what its shallow form gives, where that form gives something; printed by a program of this repo. No condition.
-/
import Derived.Test.YtpgohbnaphkngaaDoorWT
namespace Dm
open Go Go.RowKit Go.Proofs

set_option maxHeartbeats 4000000 in
theorem isa_may_1_ok {w : World} {F : SH} {o : Int × (List UInt8) × (List UInt8)} {q_1 : Int × Int × Int × Int × Int} {b1 : Nat} (hs : Sep w F (blks [.cel b1 0 [.int .i64 q_1.1, .int .i64 q_1.2.1, .int .i64 q_1.2.2.1, .int .i64 q_1.2.2.2.1, .int .i32 q_1.2.2.2.2]]) w F [.cel b1 0 [.int .i64 q_1.1, .int .i64 q_1.2.1, .int .i64 q_1.2.2.1, .int .i64 q_1.2.2.2.1, .int .i32 q_1.2.2.2.2]]) {r : Bool} (hS : isa_may_1 o q_1 = some r) :
    Calls Tryd.prog 39 [.agg #[.int .i64 o.1, strV o.2.1, strV o.2.2], .pointer (some ⟨b1, 0, none⟩)].toArray w (Gives (fun u w' => ∃ (F' : SH), u = .bool r ∧ Sep w F (blks [.cel b1 0 [.int .i64 q_1.1, .int .i64 q_1.2.1, .int .i64 q_1.2.2.1, .int .i64 q_1.2.2.2.1, .int .i32 q_1.2.2.2.2]]) w' F' [])) := by
  generalize (blks [.cel b1 0 [.int .i64 q_1.1, .int .i64 q_1.2.1, .int .i64 q_1.2.2.1, .int .i64 q_1.2.2.2.1, .int .i32 q_1.2.2.2.2]]) = R at hs ⊢
  unfold isa_may_1 at hS
  refine fn_ok (vs := [.agg #[.int .i64 o.1, strV o.2.1, strV o.2.2], .pointer (some ⟨b1, 0, none⟩)]) Tryd.func39 rfl 9 Tryd.ntmps39 (Nat.le_of_ble_eq_true rfl) ?_
  intro a hf
  replace hf := Fr.cast (L' := [(0, .agg #[.int .i64 o.1, strV o.2.1, strV o.2.2]), (1, .pointer (some ⟨b1, 0, none⟩))]) hf (by kernel_rfl)
  refine sq ?_
  refine reg ?_
  refine bx (T := 56) [.int .i64 o.1, strV o.2.1, strV o.2.2] (v := .agg #[.int .i64 o.1, strV o.2.1, strV o.2.2]) rfl (by kernel_rfl) hf (by kernel_rfl) (by kernel_rfl) (by kernel_rfl) ?_
  clear hf; clear a; intro w1 a hb hx _ hf
  replace hs := hs.newBox hb hx
  clear hb hx
  replace hf := hf.keep (ks := [1, 2]) rfl
  refine st tbOk 1 [1, 2] hf rfl ?_
  clear hf a; intro a hf
  refine wpList_nil ?_
  refine sq ?_
  refine reg ?_
  refine st tbOk 1 [1, 4] hf rfl ?_
  clear hf a; intro a hf
  refine ldC tbOk (T := 3) (hs.cbx 0 rfl) (LeH.refl _) 0 (.int .i64 o.1) hf (by kernel_rfl) (by kernel_rfl) (by kernel_rfl) (by kernel_rfl) ?_
  clear hf a; intro a hf
  replace hs := hs.sel [1] rfl rfl
  replace hf := hf.keep (ks := [1, 5]) rfl
  refine st tbOk 1 [5, 6] hf rfl ?_
  clear hf a; intro a hf
  refine ldC tbOk (T := 3) (hs.ccel 0 rfl) (LeH.refl _) 0 (.int .i64 q_1.1) hf (by kernel_rfl) (by kernel_rfl) (by kernel_rfl) (by kernel_rfl) ?_
  clear hf a; intro a hf
  replace hs := hs.sel [] rfl rfl
  replace hf := hf.keep (ks := [5, 7]) rfl
  refine st tbOk 2 [3] hf rfl ?_
  clear hf a; intro a hf
  refine wpList_nil ?_
  have hr := Option.some.inj hS; subst hr
  refine wp_ret ?_
  exact ret_ok hf (vs := [.bool (o.1 == q_1.1)]) (by kernel_rfl) ⟨_, rfl, hs.sel [] rfl rfl⟩

set_option maxHeartbeats 4000000 in
theorem slices_IndexFunc_isa_op_isa_op_may_1_ok {w : World} {F : SH} {p_s : List (Int × (List UInt8) × (List UInt8))} {q_c0 : Int × Int × Int × Int × Int} {ao1 : Option Addr} {cp1 : Nat} {b1 : Nat} (hs : Sep w F (blks [.ro ty55 (.slice ao1 p_s.length cp1) p_s, .cel b1 0 [.int .i64 q_c0.1, .int .i64 q_c0.2.1, .int .i64 q_c0.2.2.1, .int .i64 q_c0.2.2.2.1, .int .i32 q_c0.2.2.2.2]]) w F [.ro ty55 (.slice ao1 p_s.length cp1) p_s, .cel b1 0 [.int .i64 q_c0.1, .int .i64 q_c0.2.1, .int .i64 q_c0.2.2.1, .int .i64 q_c0.2.2.2.1, .int .i32 q_c0.2.2.2.2]]) {r : Int} (hS : slices_IndexFunc_isa_op_isa_op_may_1 p_s q_c0 = some r) :
    Calls Tryd.prog 42 [.slice ao1 p_s.length cp1, .func (.func 39) #[] #[.pointer (some ⟨b1, 0, none⟩)]].toArray w (Gives (fun u w' => ∃ (F' : SH), u = .int .i64 r ∧ Sep w F (blks [.ro ty55 (.slice ao1 p_s.length cp1) p_s, .cel b1 0 [.int .i64 q_c0.1, .int .i64 q_c0.2.1, .int .i64 q_c0.2.2.1, .int .i64 q_c0.2.2.2.1, .int .i32 q_c0.2.2.2.2]]) w' F' [])) := by
  generalize (blks [.ro ty55 (.slice ao1 p_s.length cp1) p_s, .cel b1 0 [.int .i64 q_c0.1, .int .i64 q_c0.2.1, .int .i64 q_c0.2.2.1, .int .i64 q_c0.2.2.2.1, .int .i32 q_c0.2.2.2.2]]) = R at hs ⊢
  unfold slices_IndexFunc_isa_op_isa_op_may_1 at hS
  refine fn_ok (vs := [.slice ao1 p_s.length cp1, .func (.func 39) #[] #[.pointer (some ⟨b1, 0, none⟩)]]) Tryd.func42 rfl 19 Tryd.ntmps42 (Nat.le_of_ble_eq_true rfl) ?_
  intro a hf
  replace hf := Fr.cast (L' := [(0, .slice ao1 p_s.length cp1), (1, .func (.func 39) #[] #[.pointer (some ⟨b1, 0, none⟩)])]) hf (by kernel_rfl)
  refine sq ?_
  refine reg ?_
  refine st tbOk 1 [0, 1] hf rfl ?_
  clear hf a; intro a hf
  refine wpList_nil ?_
  refine sq ?_
  refine sq ?_
  refine reg ?_
  refine st tbOk 3 [0, 1, 7, 8] hf rfl ?_
  clear hf a; intro a hf
  refine wpList_nil ?_
  refine ctj (fun (s1 : Unit) (a : Act) (w' : World) => ∃ (F1 : SH), Sep w F R w' F1 [] ∧ Fr 19 [] a) hS ?_ ?_
  · clear hS hf hs; clear a; intro s1 a w3 hM hS
    obtain ⟨F1, hs, hf⟩ := hM
    refine sq ?_
    refine reg ?_
    refine st tbOk 1 [4] hf rfl ?_
    clear hf a; intro a hf
    refine wpList_nil ?_
    have hr := Option.some.inj hS; subst hr
    refine wp_ret ?_
    exact ret_ok hf (vs := [.int .i64 (-1)]) (by kernel_rfl) ⟨_, rfl, hs.sel [] rfl rfl⟩
  clear hS; intro KK1 k1 hK1 hS
  refine blk ?_
  refine lp (st := 0) (fun (s2 : Int) (a : Act) (w' : World) => ∃ (F2 : SH), Sep w F R w' F2 [.ro ty55 (.slice ao1 p_s.length cp1) p_s, .cel b1 0 [.int .i64 q_c0.1, .int .i64 q_c0.2.1, .int .i64 q_c0.2.2.1, .int .i64 q_c0.2.2.2.1, .int .i32 q_c0.2.2.2.2]] ∧ Fr 19 [(0, .slice ao1 p_s.length cp1), (1, .func (.func 39) #[] #[.pointer (some ⟨b1, 0, none⟩)]), (7, .int .i64 ((p_s.length : Nat) : Int)), (8, .int .i64 s2)] a) ?_ ⟨_, hs.sel [0, 1] rfl rfl, hf.keep (ks := [0, 1, 7, 8]) (by kernel_rfl)⟩ hS
  clear hS hf hs; clear a
  intro rec1 KK2 hK2 s2 a w1 hM hS
  obtain ⟨F2, hs, hf⟩ := hM
  refine sq ?_
  refine reg ?_
  refine st tbOk 1 [0, 1, 7, 8, 9] hf rfl ?_
  clear hf a; intro a hf
  refine wpList_nil ?_
  refine sq ?_
  refine cnd (b := decide (s2 < ((p_s.length : Nat) : Int))) hf (by kernel_rfl) (fun hb1 => ?_) (fun hb1 => ?_)
  rotate_left
  · replace hS := of_f hb1 hS
    refine wp_exit ?_
    exact hK1 () _ _ ⟨_, hs.sel [] rfl rfl, hf.keep (ks := []) (by kernel_rfl)⟩ hS
  replace hS := of_t hb1 hS
  refine wp_skip ?_
  refine sq ?_
  refine blk ?_
  refine sq ?_
  refine reg ?_
  refine st tbOk 2 [0, 1, 5, 7, 8] hf rfl ?_
  clear hf a; intro a hf
  refine wpList_nil ?_
  refine sq ?_
  refine reg ?_
  refine st tbOk 3 [0, 1, 5, 7, 8, 11, 12, 13] hf rfl ?_
  clear hf a; intro a hf
  have hT := of_gd hS; clear hS; obtain ⟨hc1, hS⟩ := hT
  refine ixR tbOk u83 i56 rfl rfl ((hs.ro 0 rfl).ra (LeH.refl _)) (k := .i64) (n := s2) hc1 hf (by kernel_rfl) (by kernel_rfl) (by kernel_rfl) (by kernel_rfl) ?_
  clear hf; clear a; intro pb1 po1 c1 a hp1 hr1 hf
  obtain rfl : c1 = [.int .i64 ((gt p_s s2).1), strV ((gt p_s s2).2.1), strV ((gt p_s s2).2.2)] := hr1
  replace hs := hs.addCel hp1
  replace hf := hf.keep (ks := [0, 1, 5, 7, 8, 11, 14]) rfl
  refine ldC tbOk (T := 56) (hs.ccel 0 rfl) (LeH.refl _) 0 (.agg #[.int .i64 ((gt p_s s2).1), strV ((gt p_s s2).2.1), strV ((gt p_s s2).2.2)]) hf (by kernel_rfl) (by kernel_rfl) (by kernel_rfl) (by kernel_rfl) ?_
  clear hf a; intro a hf
  replace hs := hs.sel [1, 2] rfl rfl
  replace hf := hf.keep (ks := [0, 1, 5, 7, 8, 11, 15]) rfl
  have hT := of_bd hS; clear hS; obtain ⟨z1, hz1, hS⟩ := hT
  refine clV ent39 (vs := [.agg #[.int .i64 ((gt p_s s2).1), strV ((gt p_s s2).2.1), strV ((gt p_s s2).2.2)]]) (caps := [.pointer (some ⟨b1, 0, none⟩)]) hf (by kernel_rfl) (by kernel_rfl) (by kernel_rfl) (by kernel_rfl) (isa_may_1_ok (o := gt p_s s2) (q_1 := (q_c0.1, q_c0.2.1, q_c0.2.2.1, q_c0.2.2.2.1, q_c0.2.2.2.2)) (hs.enter [1] rfl rfl) hz1) ?_
  clear hf; clear a; intro v w2 a hT hf; obtain ⟨F3, rfl, hr⟩ := hT
  replace hs := (hs.back [1] [0, 1] rfl rfl rfl rfl hr).nf rfl
  clear hr
  replace hf := hf.keep (ks := [0, 1, 5, 7, 8, 16]) rfl
  refine wpList_nil ?_
  refine cnd (b := z1) hf (by kernel_rfl) (fun hb2 => ?_) (fun hb2 => ?_)
  rotate_left
  · replace hS := of_f hb2 hS
    refine wp_skip ?_
    refine reg ?_
    refine st tbOk 2 [0, 1, 7, 8] hf rfl ?_
    clear hf a; intro a hf
    refine wpList_nil ?_
    exact hK2 (IntKind.i64.wrap (s2 + 1)) _ _ ⟨_, hs.sel [0, 1] rfl rfl, hf.keep (ks := [0, 1, 7, 8]) (by kernel_rfl)⟩ hS
  replace hS := of_t hb2 hS
  refine sq ?_
  refine reg ?_
  refine st tbOk 2 [4] hf rfl ?_
  clear hf a; intro a hf
  refine wpList_nil ?_
  have hr := Option.some.inj hS; subst hr
  refine wp_ret ?_
  exact ret_ok hf (vs := [.int .i64 s2]) (by kernel_rfl) ⟨_, rfl, hs.sel [] rfl rfl⟩

set_option maxHeartbeats 4000000 in
theorem isa_find_may_1_ok {w : World} {F : SH} {q_c0 : Int × Int × Int × Int × Int} {b1 : Nat} (hs : Sep w F (blks [.cel b1 0 [.int .i64 q_c0.1, .int .i64 q_c0.2.1, .int .i64 q_c0.2.2.1, .int .i64 q_c0.2.2.2.1, .int .i32 q_c0.2.2.2.2], gth0]) w F [.cel b1 0 [.int .i64 q_c0.1, .int .i64 q_c0.2.1, .int .i64 q_c0.2.2.1, .int .i64 q_c0.2.2.2.1, .int .i32 q_c0.2.2.2.2], gth0]) {r : (Int × (List UInt8) × (List UInt8)) × Bool} (hS : isa_find_may_1 q_c0 = some r) :
    Calls Tryd.prog 31 [.func (.func 39) #[] #[.pointer (some ⟨b1, 0, none⟩)]].toArray w (Gives (fun u w' => ∃ (F' : SH), u = .tuple #[.agg #[.int .i64 r.1.1, strV r.1.2.1, strV r.1.2.2], .bool r.2] ∧ Sep w F (blks [.cel b1 0 [.int .i64 q_c0.1, .int .i64 q_c0.2.1, .int .i64 q_c0.2.2.1, .int .i64 q_c0.2.2.2.1, .int .i32 q_c0.2.2.2.2], gth0]) w' F' [])) := by
  generalize (blks [.cel b1 0 [.int .i64 q_c0.1, .int .i64 q_c0.2.1, .int .i64 q_c0.2.2.1, .int .i64 q_c0.2.2.2.1, .int .i32 q_c0.2.2.2.2], gth0]) = R at hs ⊢
  unfold isa_find_may_1 at hS
  refine fn_ok (vs := [.func (.func 39) #[] #[.pointer (some ⟨b1, 0, none⟩)]]) Tryd.func31 rfl 14 Tryd.ntmps31 (Nat.le_of_ble_eq_true rfl) ?_
  intro a hf
  replace hf := Fr.cast (L' := [(0, .func (.func 39) #[] #[.pointer (some ⟨b1, 0, none⟩)])]) hf (by kernel_rfl)
  refine sq ?_
  refine reg ?_
  refine al tbOk i56 [.int .i64 0, strV [], strV []] rfl (by kernel_rfl) hf (by kernel_rfl) (by kernel_rfl) ?_
  clear hf; clear a; intro w1 a hb hx _ hf
  replace hs := hs.newBox hb hx
  clear hb hx
  replace hf := hf.keep (ks := [0, 2]) rfl
  refine st tbOk 1 [0, 2] hf rfl ?_
  clear hf a; intro a hf
  refine wpList_nil ?_
  refine sq ?_
  refine reg ?_
  replace hs := hs.addRo (gro0 (hs.ro 2 rfl))
  refine slG tbOk u84 i56 (b := 0) hf (by kernel_rfl) (by kernel_rfl) (by kernel_rfl) (xs := gx0) rfl ?_
  clear hf a; intro a hf
  replace hf := hf.keep (ks := [0, 2, 5]) rfl
  refine st tbOk 1 [2, 5, 6] hf rfl ?_
  clear hf a; intro a hf
  have hT := of_bd hS; clear hS; obtain ⟨z1, hz1, hS⟩ := hT
  refine clV ent42 (vs := [.slice (some ⟨0, 0, none⟩) gx0.length gx0.length, .func (.func 39) #[] #[.pointer (some ⟨b1, 0, none⟩)]]) (caps := []) hf (by kernel_rfl) (by kernel_rfl) (by kernel_rfl) (by kernel_rfl) (slices_IndexFunc_isa_op_isa_op_may_1_ok (p_s := gx0) (q_c0 := (q_c0.1, q_c0.2.1, q_c0.2.2.1, q_c0.2.2.2.1, q_c0.2.2.2.2)) (hs.enter [0, 2] rfl rfl) hz1) ?_
  clear hf; clear a; intro v w2 a hT hf; obtain ⟨F1, rfl, hr⟩ := hT
  replace hs := (hs.back [0, 2] [0, 1, 2, 3] rfl rfl rfl rfl hr).nf rfl
  clear hr
  replace hs := hs.sel [1, 3] rfl rfl
  replace hf := hf.keep (ks := [2, 7]) rfl
  refine st tbOk 1 [2, 4] hf rfl ?_
  clear hf a; intro a hf
  refine wpList_nil ?_
  refine sq ?_
  refine sq ?_
  refine reg ?_
  refine st tbOk 2 [2, 4, 9] hf rfl ?_
  clear hf a; intro a hf
  refine wpList_nil ?_
  refine cnd (b := decide (z1 < 0)) hf (by kernel_rfl) (fun hb1 => ?_) (fun hb1 => ?_)
  · replace hS := of_t hb1 hS
    refine sq ?_
    refine reg ?_
    refine st tbOk 1 [2, 10] hf rfl ?_
    clear hf a; intro a hf
    refine stB tbOk i56 (hs.bx 0 rfl) 0 [.int .i64 0, strV [], strV []] [.int .i64 0, strV [], strV []] (v := .agg #[.int .i64 0, strV [], strV []]) rfl rfl (by kernel_rfl) (by kernel_rfl) (by kernel_rfl) (by kernel_rfl) hf (by kernel_rfl) (by kernel_rfl) (by kernel_rfl) ?_
    clear hf; clear a; intro w3 a hb hg _ hf
    replace hs := (hs.updBox 0 rfl hb hg).nf rfl
    clear hb hg
    replace hf := hf.keep (ks := [2]) rfl
    refine st tbOk 1 [2, 3] hf rfl ?_
    clear hf a; intro a hf
    refine wpList_nil ?_
    have hr := Option.some.inj hS; subst hr
    refine wp_ret ?_
    exact ret_okC hf (vs := [.agg #[.int .i64 0, strV [], strV []], .bool false]) (.cons (.cell tbOk (hs.cbx 0 rfl) (off := 0) (by kernel_rfl) (by kernel_rfl)) (.cons (.tmp (by kernel_rfl)) .nil)) ⟨_, rfl, hs.sel [] rfl rfl⟩
  replace hS := of_f hb1 hS
  refine wp_skip ?_
  refine sq ?_
  refine reg ?_
  refine st tbOk 1 [2, 11] hf rfl ?_
  clear hf a; intro a hf
  replace hs := hs.addRo (gro0 (hs.ro 1 rfl))
  have hT := of_gd hS; clear hS; obtain ⟨hc1, hS⟩ := hT
  refine ixG tbOk u84 i56 rfl rfl (b := 0) (xs := gx0) rfl ((hs.ro 0 rfl).ra (LeH.refl _)) (k := .i64) (i := z1) hc1 hf (by kernel_rfl) (by kernel_rfl) (by kernel_rfl) (by kernel_rfl) ?_
  clear hf; clear a; intro pb1 po1 c1 a hp1 hr1 hf
  obtain rfl : c1 = [.int .i64 ((gt gx0 z1).1), strV ((gt gx0 z1).2.1), strV ((gt gx0 z1).2.2)] := hr1
  replace hs := hs.addCel hp1
  replace hs := hs.sel [0, 2, 3] rfl rfl
  replace hf := hf.keep (ks := [2, 12]) rfl
  refine ldC tbOk (T := 56) (hs.ccel 0 rfl) (LeH.refl _) 0 (.agg #[.int .i64 ((gt gx0 z1).1), strV ((gt gx0 z1).2.1), strV ((gt gx0 z1).2.2)]) hf (by kernel_rfl) (by kernel_rfl) (by kernel_rfl) (by kernel_rfl) ?_
  clear hf a; intro a hf
  replace hs := hs.sel [1, 2] rfl rfl
  replace hf := hf.keep (ks := [2, 13]) rfl
  refine stB tbOk i56 (hs.bx 0 rfl) 0 [.int .i64 ((gt gx0 z1).1), strV ((gt gx0 z1).2.1), strV ((gt gx0 z1).2.2)] [.int .i64 ((gt gx0 z1).1), strV ((gt gx0 z1).2.1), strV ((gt gx0 z1).2.2)] (v := .agg #[.int .i64 ((gt gx0 z1).1), strV ((gt gx0 z1).2.1), strV ((gt gx0 z1).2.2)]) rfl rfl (by kernel_rfl) (by kernel_rfl) (by kernel_rfl) (by kernel_rfl) hf (by kernel_rfl) (by kernel_rfl) (by kernel_rfl) ?_
  clear hf; clear a; intro w4 a hb hg _ hf
  replace hs := (hs.updBox 0 rfl hb hg).nf rfl
  clear hb hg
  replace hf := hf.keep (ks := [2]) rfl
  refine st tbOk 1 [2, 3] hf rfl ?_
  clear hf a; intro a hf
  refine wpList_nil ?_
  have hr := Option.some.inj hS; subst hr
  refine wp_ret ?_
  exact ret_okC hf (vs := [.agg #[.int .i64 ((gt gx0 z1).1), strV ((gt gx0 z1).2.1), strV ((gt gx0 z1).2.2)], .bool true]) (.cons (.cell tbOk (hs.cbx 0 rfl) (off := 0) (by kernel_rfl) (by kernel_rfl)) (.cons (.tmp (by kernel_rfl)) .nil)) ⟨_, rfl, hs.sel [] rfl rfl⟩

theorem strings_Contains_ok {w : World} {F : SH} {s sub : List UInt8} (hs : Sep w F (blks []) w F []) {r : Bool} (hS : strings_Contains s sub = some r) :
    Calls Tryd.prog 24 [strV s, strV sub].toArray w (Gives (fun u w' => ∃ (F' : SH), u = .bool r ∧ Sep w F (blks []) w' F' [])) := by
  unfold strings_Contains at hS
  split at hS
  · rename_i c
    have hr := Option.some.inj hS; subst hr
    refine (Tryd.strings_Contains_one ⟨s.toArray⟩ c w).mono ?_
    rintro e w' ⟨rfl, rfl⟩
    exact ⟨_, rfl, F, by rw [← hasB_eq], hs⟩
  · cases hS

set_option maxHeartbeats 4000000 in
theorem isa_may_ok {w : World} {F : SH} {i : Int × Int × Int × Int × Int}  (hs : Sep w F (blks [gth0]) w F [gth0]) {r : (Int × (List UInt8) × (List UInt8)) × Bool} (hS : isa_may i = some r) :
    Calls Tryd.prog 22 [.agg #[.int .i64 i.1, .int .i64 i.2.1, .int .i64 i.2.2.1, .int .i64 i.2.2.2.1, .int .i32 i.2.2.2.2]].toArray w (Gives (fun u w' => ∃ (F' : SH), u = .tuple #[.agg #[.int .i64 r.1.1, strV r.1.2.1, strV r.1.2.2], .bool r.2] ∧ Sep w F (blks [gth0]) w' F' [])) := by
  generalize (blks [gth0]) = R at hs ⊢
  unfold isa_may at hS
  refine fn_ok (vs := [.agg #[.int .i64 i.1, .int .i64 i.2.1, .int .i64 i.2.2.1, .int .i64 i.2.2.2.1, .int .i32 i.2.2.2.2]]) Tryd.func22 rfl 59 Tryd.ntmps22 (Nat.le_of_ble_eq_true rfl) ?_
  intro a hf
  replace hf := Fr.cast (L' := [(0, .agg #[.int .i64 i.1, .int .i64 i.2.1, .int .i64 i.2.2.1, .int .i64 i.2.2.2.1, .int .i32 i.2.2.2.2])]) hf (by kernel_rfl)
  refine sq ?_
  refine reg ?_
  refine bx (T := 24) [.int .i64 i.1, .int .i64 i.2.1, .int .i64 i.2.2.1, .int .i64 i.2.2.2.1, .int .i32 i.2.2.2.2] (v := .agg #[.int .i64 i.1, .int .i64 i.2.1, .int .i64 i.2.2.1, .int .i64 i.2.2.2.1, .int .i32 i.2.2.2.2]) rfl (by kernel_rfl) hf (by kernel_rfl) (by kernel_rfl) (by kernel_rfl) ?_
  clear hf; clear a; intro w1 a hb hx _ hf
  replace hs := hs.newBox hb hx
  clear hb hx
  replace hf := hf.keep (ks := [1]) rfl
  refine al tbOk i56 [.int .i64 0, strV [], strV []] rfl (by kernel_rfl) hf (by kernel_rfl) (by kernel_rfl) ?_
  clear hf; clear a; intro w2 a hb hx _ hf
  replace hs := hs.newBox hb hx
  clear hb hx
  replace hf := hf.keep (ks := [1, 2]) rfl
  refine st tbOk 1 [1, 2] hf rfl ?_
  clear hf a; intro a hf
  refine wpList_nil ?_
  refine sq ?_
  refine reg ?_
  refine st tbOk 1 [1, 2, 10] hf rfl ?_
  clear hf a; intro a hf
  have hT := of_bd hS; clear hS; obtain ⟨z1, hz1, hS⟩ := hT
  refine clV ent31 (vs := [.func (.func 39) #[] #[.pointer (some ⟨w.heap.size, 0, none⟩)]]) (caps := []) hf (by kernel_rfl) (by kernel_rfl) (by kernel_rfl) (by kernel_rfl) (isa_find_may_1_ok (q_c0 := (i.1, i.2.1, i.2.2.1, i.2.2.2.1, i.2.2.2.2)) (hs.lend [1, 2] [] rfl rfl rfl rfl rfl) hz1) ?_
  clear hf; clear a; intro v w3 a hT hf; obtain ⟨F1, rfl, hr⟩ := hT
  replace hs := (hs.backL [1, 2] [] [0, 1, 2] rfl rfl rfl rfl rfl rfl hr trivial).nf rfl
  clear hr
  replace hf := hf.keep (ks := [1, 2, 11]) rfl
  refine st tbOk 3 [1, 2, 12, 13] hf rfl ?_
  clear hf a; intro a hf
  refine al tbOk i56 [.int .i64 0, strV [], strV []] rfl (by kernel_rfl) hf (by kernel_rfl) (by kernel_rfl) ?_
  clear hf; clear a; intro w4 a hb hx _ hf
  replace hs := hs.newBox hb hx
  clear hb hx
  replace hf := hf.keep (ks := [1, 2, 4, 12, 13]) rfl
  refine stB tbOk i56 (hs.bx 0 rfl) 0 [.int .i64 z1.1.1, strV z1.1.2.1, strV z1.1.2.2] [.int .i64 z1.1.1, strV z1.1.2.1, strV z1.1.2.2] (v := .agg #[.int .i64 z1.1.1, strV z1.1.2.1, strV z1.1.2.2]) rfl rfl (by kernel_rfl) (by kernel_rfl) (by kernel_rfl) (by kernel_rfl) hf (by kernel_rfl) (by kernel_rfl) (by kernel_rfl) ?_
  clear hf; clear a; intro w5 a hb hg _ hf
  replace hs := (hs.updBox 0 rfl hb hg).nf rfl
  clear hb hg
  replace hf := hf.keep (ks := [1, 2, 4, 13]) rfl
  refine st tbOk 1 [1, 2, 4, 5] hf rfl ?_
  clear hf a; intro a hf
  refine wpList_nil ?_
  refine sq ?_
  refine sq ?_
  refine reg ?_
  refine st tbOk 2 [1, 2, 4, 15] hf rfl ?_
  clear hf a; intro a hf
  refine wpList_nil ?_
  refine cnd (b := !z1.2) hf (by kernel_rfl) (fun hb1 => ?_) (fun hb1 => ?_)
  · replace hS := of_t hb1 hS
    refine sq ?_
    refine reg ?_
    refine st tbOk 1 [2, 16] hf rfl ?_
    clear hf a; intro a hf
    refine stB tbOk i56 (hs.bx 1 rfl) 0 [.int .i64 0, strV [], strV []] [.int .i64 0, strV [], strV []] (v := .agg #[.int .i64 0, strV [], strV []]) rfl rfl (by kernel_rfl) (by kernel_rfl) (by kernel_rfl) (by kernel_rfl) hf (by kernel_rfl) (by kernel_rfl) (by kernel_rfl) ?_
    clear hf; clear a; intro w6 a hb hg _ hf
    replace hs := (hs.updBox 1 rfl hb hg).nf rfl
    clear hb hg
    replace hs := hs.sel [1, 3] rfl rfl
    replace hf := hf.keep (ks := [2]) rfl
    refine st tbOk 1 [2, 3] hf rfl ?_
    clear hf a; intro a hf
    refine wpList_nil ?_
    have hr := Option.some.inj hS; subst hr
    refine wp_ret ?_
    exact ret_okC hf (vs := [.agg #[.int .i64 0, strV [], strV []], .bool false]) (.cons (.cell tbOk (hs.cbx 0 rfl) (off := 0) (by kernel_rfl) (by kernel_rfl)) (.cons (.tmp (by kernel_rfl)) .nil)) ⟨_, rfl, hs.sel [] rfl rfl⟩
  replace hS := of_f hb1 hS
  refine wp_skip ?_
  refine sq ?_
  refine sq ?_
  refine reg ?_
  refine st tbOk 1 [1, 2, 4, 17] hf rfl ?_
  clear hf a; intro a hf
  refine ldC tbOk (T := 3) (hs.cbx 2 rfl) (LeH.refl _) 1 (.int .i64 i.2.1) hf (by kernel_rfl) (by kernel_rfl) (by kernel_rfl) (by kernel_rfl) ?_
  clear hf a; intro a hf
  replace hf := hf.keep (ks := [1, 2, 4, 18]) rfl
  refine st tbOk 1 [1, 2, 4, 18, 19] hf rfl ?_
  clear hf a; intro a hf
  refine ldC tbOk (T := 3) (hs.cbx 2 rfl) (LeH.refl _) 2 (.int .i64 i.2.2.1) hf (by kernel_rfl) (by kernel_rfl) (by kernel_rfl) (by kernel_rfl) ?_
  clear hf a; intro a hf
  replace hf := hf.keep (ks := [1, 2, 4, 18, 20]) rfl
  refine st tbOk 1 [1, 2, 4, 18, 20, 21] hf rfl ?_
  clear hf a; intro a hf
  refine ldC tbOk (T := 3) (hs.cbx 2 rfl) (LeH.refl _) 3 (.int .i64 i.2.2.2.1) hf (by kernel_rfl) (by kernel_rfl) (by kernel_rfl) (by kernel_rfl) ?_
  clear hf a; intro a hf
  replace hf := hf.keep (ks := [1, 2, 4, 18, 20, 22]) rfl
  refine st tbOk 1 [2, 4, 18, 20, 22, 23] hf rfl ?_
  clear hf a; intro a hf
  refine ldC tbOk (T := 21) (hs.cbx 2 rfl) (LeH.refl _) 4 (.int .i32 i.2.2.2.2) hf (by kernel_rfl) (by kernel_rfl) (by kernel_rfl) (by kernel_rfl) ?_
  clear hf a; intro a hf
  replace hs := hs.sel [0, 1, 3] rfl rfl
  replace hf := hf.keep (ks := [2, 4, 18, 20, 22, 24]) rfl
  refine st tbOk 3 [2, 4, 26, 27] hf rfl ?_
  clear hf a; intro a hf
  refine wpList_nil ?_
  refine ctj (fun (s1 : Unit) (a : Act) (w' : World) => ∃ (F2 : SH), Sep w F R w' F2 [.box w3.heap.size 56 [.int .i64 z1.1.1, strV z1.1.2.1, strV z1.1.2.2], .box w1.heap.size 56 [.int .i64 0, strV [], strV []], gth0] ∧ Fr 59 [(2, .pointer (some ⟨w1.heap.size, 0, none⟩)), (4, .pointer (some ⟨w3.heap.size, 0, none⟩))] a) hS ?_ ?_
  · clear hS hf hs; clear a; intro s1 a w11 hM hS
    obtain ⟨F2, hs, hf⟩ := hM
    refine sq ?_
    refine reg ?_
    refine ldC tbOk (T := 56) (hs.cbx 0 rfl) (LeH.refl _) 0 (.agg #[.int .i64 z1.1.1, strV z1.1.2.1, strV z1.1.2.2]) hf (by kernel_rfl) (by kernel_rfl) (by kernel_rfl) (by kernel_rfl) ?_
    clear hf a; intro a hf
    replace hs := hs.sel [1, 2] rfl rfl
    replace hf := hf.keep (ks := [2, 58]) rfl
    refine stB tbOk i56 (hs.bx 0 rfl) 0 [.int .i64 z1.1.1, strV z1.1.2.1, strV z1.1.2.2] [.int .i64 z1.1.1, strV z1.1.2.1, strV z1.1.2.2] (v := .agg #[.int .i64 z1.1.1, strV z1.1.2.1, strV z1.1.2.2]) rfl rfl (by kernel_rfl) (by kernel_rfl) (by kernel_rfl) (by kernel_rfl) hf (by kernel_rfl) (by kernel_rfl) (by kernel_rfl) ?_
    clear hf; clear a; intro w12 a hb hg _ hf
    replace hs := (hs.updBox 0 rfl hb hg).nf rfl
    clear hb hg
    replace hf := hf.keep (ks := [2]) rfl
    refine st tbOk 1 [2, 3] hf rfl ?_
    clear hf a; intro a hf
    refine wpList_nil ?_
    have hr := Option.some.inj hS; subst hr
    refine wp_ret ?_
    exact ret_okC hf (vs := [.agg #[.int .i64 z1.1.1, strV z1.1.2.1, strV z1.1.2.2], .bool true]) (.cons (.cell tbOk (hs.cbx 0 rfl) (off := 0) (by kernel_rfl) (by kernel_rfl)) (.cons (.tmp (by kernel_rfl)) .nil)) ⟨_, rfl, hs.sel [] rfl rfl⟩
  clear hS; intro KK1 k1 hK1 hS
  refine blk ?_
  refine lp (st := 0) (fun (s2 : Int) (a : Act) (w' : World) => ∃ (F3 : SH), Sep w F R w' F3 [.box w3.heap.size 56 [.int .i64 z1.1.1, strV z1.1.2.1, strV z1.1.2.2], .box w1.heap.size 56 [.int .i64 0, strV [], strV []], gth0] ∧ Fr 59 [(2, .pointer (some ⟨w1.heap.size, 0, none⟩)), (4, .pointer (some ⟨w3.heap.size, 0, none⟩)), (26, .agg (List.map (Value.int .i64) ([i.2.1, i.2.2.1, i.2.2.2.1, IntKind.i64.wrap i.2.2.2.2] : List Int)).toArray), (27, .int .i64 s2)] a) ?_ ⟨_, hs.sel [0, 1, 2] rfl rfl, hf.keep (ks := [2, 4, 26, 27]) (by kernel_rfl)⟩ hS
  clear hS hf hs; clear a
  intro rec1 KK2 hK2 s2 a w7 hM hS
  obtain ⟨F3, hs, hf⟩ := hM
  refine sq ?_
  refine reg ?_
  refine st tbOk 1 [2, 4, 26, 27, 28] hf rfl ?_
  clear hf a; intro a hf
  refine wpList_nil ?_
  refine sq ?_
  refine cnd (b := decide (s2 < 4)) hf (by kernel_rfl) (fun hb2 => ?_) (fun hb2 => ?_)
  rotate_left
  · replace hS := of_f hb2 hS
    refine wp_exit ?_
    exact hK1 () _ _ ⟨_, hs.sel [0, 1, 2] rfl rfl, hf.keep (ks := [2, 4]) (by kernel_rfl)⟩ hS
  replace hS := of_t hb2 hS
  refine wp_skip ?_
  refine sq ?_
  refine blk ?_
  refine sq ?_
  refine reg ?_
  refine st tbOk 1 [2, 4, 26, 27, 29] hf rfl ?_
  clear hf a; intro a hf
  have hT := of_gd hS; clear hS; obtain ⟨hc1, hS⟩ := hT
  refine ixA tbOk u60 u3 rfl i3 (Value.int .i64) ([i.2.1, i.2.2.1, i.2.2.2.1, IntKind.i64.wrap i.2.2.2.2] : List Int) rfl (k := .i64) (i := s2) hc1 hf (by kernel_rfl) (by kernel_rfl) (by kernel_rfl) (by kernel_rfl) ?_
  clear hf a; intro a hf
  replace hf := hf.keep (ks := [2, 4, 26, 27, 29, 30]) rfl
  have hT := of_let hS; clear hS; obtain ⟨x_1, hl1, hS⟩ := hT
  refine st tbOk 2 [2, 4, 6, 7, 26, 27] (L' := [(2, .pointer (some ⟨w1.heap.size, 0, none⟩)), (4, .pointer (some ⟨w3.heap.size, 0, none⟩)), (6, .int .i64 s2), (7, .int .i64 x_1), (26, .agg (List.map (Value.int .i64) ([i.2.1, i.2.2.1, i.2.2.2.1, IntKind.i64.wrap i.2.2.2.2] : List Int)).toArray), (27, .int .i64 s2)]) hf (by subst hl1; kernel_rfl) ?_
  clear hf a; intro a hf
  refine wpList_nil ?_
  refine sq ?_
  refine regQ mixed (by kernel_rfl) ?_
  refine stQ tbOk 1 [2, 4, 6, 7, 26, 27, 31] hf rfl ?_
  clear hf a; intro a hf
  refine ldCQ tbOk (T := 9) (hs.cbx 0 rfl) (LeH.refl _) 2 (strV z1.1.2.2) hf (by kernel_rfl) (by kernel_rfl) (by kernel_rfl) (by kernel_rfl) ?_
  clear hf a; intro a hf
  replace hf := hf.keep (ks := [2, 4, 6, 7, 26, 27, 32]) rfl
  refine stQ tbOk 3 [2, 4, 6, 7, 26, 27, 32, 33, 35] hf rfl ?_
  clear hf a; intro a hf
  have hT := of_gd hS; clear hS; obtain ⟨hc2, hS⟩ := hT
  refine cutSQ tbOk u9 (p := ([97, 98, 99, 105] : List UInt8)) (lo := s2) (hi := IntKind.i64.wrap (s2 + 1)) hc2 (.inr ⟨_, .i64, rfl, by kernel_rfl⟩) (.inr ⟨_, .i64, rfl, by kernel_rfl⟩) hf (by kernel_rfl) (by kernel_rfl) (by kernel_rfl) ?_
  clear hf a; intro a hf
  replace hf := hf.keep (ks := [2, 4, 6, 7, 26, 27, 32, 36]) rfl
  have hT := of_bd hS; clear hS; obtain ⟨z2, hz2, hS⟩ := hT
  refine clVQ ent24 (vs := [strV z1.1.2.2, strV (cutL ([97, 98, 99, 105] : List UInt8) s2 (IntKind.i64.wrap (s2 + 1)))]) (caps := []) hf (by kernel_rfl) (by kernel_rfl) (by kernel_rfl) (by kernel_rfl) (.bool z2) (fun wq hq => (strings_Contains_ok (s := z1.1.2.2) (sub := (cutL ([97, 98, 99, 105] : List UInt8) s2 (IntKind.i64.wrap (s2 + 1)))) (hs.lendQ hq [] rfl rfl) hz2).mono fun _ _ h => Gives.mono (fun _ ⟨_, e, h⟩ => ⟨e, h.ex (pers_blks rfl)⟩) h) ?_
  clear hf a; intro a hf
  replace hf := hf.keep (ks := [2, 4, 6, 7, 26, 27, 37]) rfl
  refine stQ tbOk 1 [2, 4, 6, 7, 8, 26, 27] hf rfl ?_
  clear hf a; intro a hf
  refine wpQuiet_nil ?_
  intro w8 hx
  replace hs := hs.ext hx
  clear hx
  refine sq ?_
  refine ctj (fun (s3 : Bool) (a : Act) (w' : World) => ∃ (F4 : SH), Sep w F R w' F4 [.box w3.heap.size 56 [.int .i64 z1.1.1, strV z1.1.2.1, strV z1.1.2.2], .box w1.heap.size 56 [.int .i64 0, strV [], strV []], gth0] ∧ Fr 59 [(2, .pointer (some ⟨w1.heap.size, 0, none⟩)), (4, .pointer (some ⟨w3.heap.size, 0, none⟩)), (26, .agg (List.map (Value.int .i64) ([i.2.1, i.2.2.1, i.2.2.2.1, IntKind.i64.wrap i.2.2.2.2] : List Int)).toArray), (27, .int .i64 s2), (55, .bool s3)] a) hS ?_ ?_
  · clear hS hf hs; clear a; intro s3 a w9 hM hS
    obtain ⟨F4, hs, hf⟩ := hM
    refine cnd (b := s3) hf (by kernel_rfl) (fun hb9 => ?_) (fun hb9 => ?_)
    rotate_left
    · replace hS := of_f hb9 hS
      refine wp_skip ?_
      refine reg ?_
      refine st tbOk 2 [2, 4, 26, 27] hf rfl ?_
      clear hf a; intro a hf
      refine wpList_nil ?_
      exact hK2 (IntKind.i64.wrap (s2 + 1)) _ _ ⟨_, hs.sel [0, 1, 2] rfl rfl, hf.keep (ks := [2, 4, 26, 27]) (by kernel_rfl)⟩ hS
    replace hS := of_t hb9 hS
    refine sq ?_
    refine reg ?_
    refine st tbOk 1 [2, 56] hf rfl ?_
    clear hf a; intro a hf
    refine stB tbOk i56 (hs.bx 1 rfl) 0 [.int .i64 0, strV [], strV []] [.int .i64 0, strV [], strV []] (v := .agg #[.int .i64 0, strV [], strV []]) rfl rfl (by kernel_rfl) (by kernel_rfl) (by kernel_rfl) (by kernel_rfl) hf (by kernel_rfl) (by kernel_rfl) (by kernel_rfl) ?_
    clear hf; clear a; intro w10 a hb hg _ hf
    replace hs := (hs.updBox 1 rfl hb hg).nf rfl
    clear hb hg
    replace hs := hs.sel [1, 2] rfl rfl
    replace hf := hf.keep (ks := [2]) rfl
    refine st tbOk 1 [2, 3] hf rfl ?_
    clear hf a; intro a hf
    refine wpList_nil ?_
    have hr := Option.some.inj hS; subst hr
    refine wp_ret ?_
    exact ret_okC hf (vs := [.agg #[.int .i64 0, strV [], strV []], .bool false]) (.cons (.cell tbOk (hs.cbx 0 rfl) (off := 0) (by kernel_rfl) (by kernel_rfl)) (.cons (.tmp (by kernel_rfl)) .nil)) ⟨_, rfl, hs.sel [] rfl rfl⟩
  clear hS; intro KK3 k2 hK3 hS
  refine reg ?_
  refine st tbOk 3 [2, 4, 6, 7, 26, 27, 40] hf rfl ?_
  clear hf a; intro a hf
  rcases Bool.eq_false_or_eq_true (!z2) with hb3 | hb3
  rotate_left
  · replace hS := of_f hb3 hS
    replace hf := hf.castB hb3 (fun qb => [(2, .pointer (some ⟨w1.heap.size, 0, none⟩)), (4, .pointer (some ⟨w3.heap.size, 0, none⟩)), (6, .int .i64 s2), (7, .int .i64 x_1), (26, .agg (List.map (Value.int .i64) ([i.2.1, i.2.2.1, i.2.2.2.1, IntKind.i64.wrap i.2.2.2.2] : List Int)).toArray), (27, .int .i64 s2), (40, .bool qb)]) (by kernel_rfl)
    refine st tbOk 5 [2, 4, 7, 26, 27, 44, 45] hf rfl ?_
    clear hf a; intro a hf
    refine st tbOk 2 [2, 4, 7, 26, 27, 44, 47] hf rfl ?_
    clear hf a; intro a hf
    rcases Bool.eq_false_or_eq_true (decide (s2 < 3)) with hb7 | hb7
    rotate_left
    · replace hS := of_f hb7 hS
      replace hf := hf.castB hb7 (fun qb => [(2, .pointer (some ⟨w1.heap.size, 0, none⟩)), (4, .pointer (some ⟨w3.heap.size, 0, none⟩)), (7, .int .i64 x_1), (26, .agg (List.map (Value.int .i64) ([i.2.1, i.2.2.1, i.2.2.2.1, IntKind.i64.wrap i.2.2.2.2] : List Int)).toArray), (27, .int .i64 s2), (44, .bool false), (47, .bool qb)]) (by kernel_rfl)
      refine st tbOk 5 [2, 4, 26, 27, 44, 47, 50, 52] hf rfl ?_
      clear hf a; intro a hf
      refine st tbOk 3 [2, 4, 26, 27, 55] hf rfl ?_
      clear hf a; intro a hf
      refine wpList_nil ?_
      exact hK3 false _ _ ⟨_, hs.sel [0, 1, 2] rfl rfl, hf.keep (ks := [2, 4, 26, 27, 55]) (by kernel_rfl)⟩ hS
    replace hS := of_t hb7 hS
    replace hf := hf.castB hb7 (fun qb => [(2, .pointer (some ⟨w1.heap.size, 0, none⟩)), (4, .pointer (some ⟨w3.heap.size, 0, none⟩)), (7, .int .i64 x_1), (26, .agg (List.map (Value.int .i64) ([i.2.1, i.2.2.1, i.2.2.2.1, IntKind.i64.wrap i.2.2.2.2] : List Int)).toArray), (27, .int .i64 s2), (44, .bool false), (47, .bool qb)]) (by kernel_rfl)
    refine st tbOk 3 [2, 4, 7, 26, 27, 44, 47, 50] hf rfl ?_
    clear hf a; intro a hf
    rcases Bool.eq_false_or_eq_true (decide (x_1 < 0)) with hb8 | hb8
    · replace hS := of_t hb8 hS
      replace hf := hf.castB hb8 (fun qb => [(2, .pointer (some ⟨w1.heap.size, 0, none⟩)), (4, .pointer (some ⟨w3.heap.size, 0, none⟩)), (7, .int .i64 x_1), (26, .agg (List.map (Value.int .i64) ([i.2.1, i.2.2.1, i.2.2.2.1, IntKind.i64.wrap i.2.2.2.2] : List Int)).toArray), (27, .int .i64 s2), (44, .bool false), (47, .bool true), (50, .bool qb)]) (by kernel_rfl)
      refine st tbOk 5 [2, 4, 26, 27, 55] hf rfl ?_
      clear hf a; intro a hf
      refine wpList_nil ?_
      exact hK3 true _ _ ⟨_, hs.sel [0, 1, 2] rfl rfl, hf.keep (ks := [2, 4, 26, 27, 55]) (by kernel_rfl)⟩ hS
    replace hS := of_f hb8 hS
    replace hf := hf.castB hb8 (fun qb => [(2, .pointer (some ⟨w1.heap.size, 0, none⟩)), (4, .pointer (some ⟨w3.heap.size, 0, none⟩)), (7, .int .i64 x_1), (26, .agg (List.map (Value.int .i64) ([i.2.1, i.2.2.1, i.2.2.2.1, IntKind.i64.wrap i.2.2.2.2] : List Int)).toArray), (27, .int .i64 s2), (44, .bool false), (47, .bool true), (50, .bool qb)]) (by kernel_rfl)
    refine st tbOk 5 [2, 4, 26, 27, 55] hf rfl ?_
    clear hf a; intro a hf
    refine wpList_nil ?_
    exact hK3 (decide (x_1 > 31)) _ _ ⟨_, hs.sel [0, 1, 2] rfl rfl, hf.keep (ks := [2, 4, 26, 27, 55]) (by kernel_rfl)⟩ hS
  replace hS := of_t hb3 hS
  replace hf := hf.castB hb3 (fun qb => [(2, .pointer (some ⟨w1.heap.size, 0, none⟩)), (4, .pointer (some ⟨w3.heap.size, 0, none⟩)), (6, .int .i64 s2), (7, .int .i64 x_1), (26, .agg (List.map (Value.int .i64) ([i.2.1, i.2.2.1, i.2.2.2.1, IntKind.i64.wrap i.2.2.2.2] : List Int)).toArray), (27, .int .i64 s2), (40, .bool qb)]) (by kernel_rfl)
  refine st tbOk 4 [2, 4, 6, 7, 26, 27, 44] hf rfl ?_
  clear hf a; intro a hf
  rcases Bool.eq_false_or_eq_true (x_1 != 0) with hb4 | hb4
  · replace hS := of_t hb4 hS
    replace hf := hf.castB hb4 (fun qb => [(2, .pointer (some ⟨w1.heap.size, 0, none⟩)), (4, .pointer (some ⟨w3.heap.size, 0, none⟩)), (6, .int .i64 s2), (7, .int .i64 x_1), (26, .agg (List.map (Value.int .i64) ([i.2.1, i.2.2.1, i.2.2.2.1, IntKind.i64.wrap i.2.2.2.2] : List Int)).toArray), (27, .int .i64 s2), (44, .bool qb)]) (by kernel_rfl)
    refine st tbOk 5 [2, 4, 7, 26, 27, 44, 47, 49] hf rfl ?_
    clear hf a; intro a hf
    refine st tbOk 5 [2, 4, 26, 27, 44, 54] hf rfl ?_
    clear hf a; intro a hf
    refine st tbOk 1 [2, 4, 26, 27, 55] hf rfl ?_
    clear hf a; intro a hf
    refine wpList_nil ?_
    exact hK3 true _ _ ⟨_, hs.sel [0, 1, 2] rfl rfl, hf.keep (ks := [2, 4, 26, 27, 55]) (by kernel_rfl)⟩ hS
  replace hS := of_f hb4 hS
  replace hf := hf.castB hb4 (fun qb => [(2, .pointer (some ⟨w1.heap.size, 0, none⟩)), (4, .pointer (some ⟨w3.heap.size, 0, none⟩)), (6, .int .i64 s2), (7, .int .i64 x_1), (26, .agg (List.map (Value.int .i64) ([i.2.1, i.2.2.1, i.2.2.2.1, IntKind.i64.wrap i.2.2.2.2] : List Int)).toArray), (27, .int .i64 s2), (44, .bool qb)]) (by kernel_rfl)
  refine st tbOk 3 [2, 4, 7, 26, 27, 44, 47] hf rfl ?_
  clear hf a; intro a hf
  rcases Bool.eq_false_or_eq_true (decide (s2 < 3)) with hb5 | hb5
  rotate_left
  · replace hS := of_f hb5 hS
    replace hf := hf.castB hb5 (fun qb => [(2, .pointer (some ⟨w1.heap.size, 0, none⟩)), (4, .pointer (some ⟨w3.heap.size, 0, none⟩)), (7, .int .i64 x_1), (26, .agg (List.map (Value.int .i64) ([i.2.1, i.2.2.1, i.2.2.2.1, IntKind.i64.wrap i.2.2.2.2] : List Int)).toArray), (27, .int .i64 s2), (44, .bool false), (47, .bool qb)]) (by kernel_rfl)
    refine st tbOk 5 [2, 4, 26, 27, 44, 47, 50, 52] hf rfl ?_
    clear hf a; intro a hf
    refine st tbOk 3 [2, 4, 26, 27, 55] hf rfl ?_
    clear hf a; intro a hf
    refine wpList_nil ?_
    exact hK3 false _ _ ⟨_, hs.sel [0, 1, 2] rfl rfl, hf.keep (ks := [2, 4, 26, 27, 55]) (by kernel_rfl)⟩ hS
  replace hS := of_t hb5 hS
  replace hf := hf.castB hb5 (fun qb => [(2, .pointer (some ⟨w1.heap.size, 0, none⟩)), (4, .pointer (some ⟨w3.heap.size, 0, none⟩)), (7, .int .i64 x_1), (26, .agg (List.map (Value.int .i64) ([i.2.1, i.2.2.1, i.2.2.2.1, IntKind.i64.wrap i.2.2.2.2] : List Int)).toArray), (27, .int .i64 s2), (44, .bool false), (47, .bool qb)]) (by kernel_rfl)
  refine st tbOk 3 [2, 4, 7, 26, 27, 44, 47, 50] hf rfl ?_
  clear hf a; intro a hf
  rcases Bool.eq_false_or_eq_true (decide (x_1 < 0)) with hb6 | hb6
  · replace hS := of_t hb6 hS
    replace hf := hf.castB hb6 (fun qb => [(2, .pointer (some ⟨w1.heap.size, 0, none⟩)), (4, .pointer (some ⟨w3.heap.size, 0, none⟩)), (7, .int .i64 x_1), (26, .agg (List.map (Value.int .i64) ([i.2.1, i.2.2.1, i.2.2.2.1, IntKind.i64.wrap i.2.2.2.2] : List Int)).toArray), (27, .int .i64 s2), (44, .bool false), (47, .bool true), (50, .bool qb)]) (by kernel_rfl)
    refine st tbOk 5 [2, 4, 26, 27, 55] hf rfl ?_
    clear hf a; intro a hf
    refine wpList_nil ?_
    exact hK3 true _ _ ⟨_, hs.sel [0, 1, 2] rfl rfl, hf.keep (ks := [2, 4, 26, 27, 55]) (by kernel_rfl)⟩ hS
  replace hS := of_f hb6 hS
  replace hf := hf.castB hb6 (fun qb => [(2, .pointer (some ⟨w1.heap.size, 0, none⟩)), (4, .pointer (some ⟨w3.heap.size, 0, none⟩)), (7, .int .i64 x_1), (26, .agg (List.map (Value.int .i64) ([i.2.1, i.2.2.1, i.2.2.2.1, IntKind.i64.wrap i.2.2.2.2] : List Int)).toArray), (27, .int .i64 s2), (44, .bool false), (47, .bool true), (50, .bool qb)]) (by kernel_rfl)
  refine st tbOk 5 [2, 4, 26, 27, 55] hf rfl ?_
  clear hf a; intro a hf
  refine wpList_nil ?_
  exact hK3 (decide (x_1 > 31)) _ _ ⟨_, hs.sel [0, 1, 2] rfl rfl, hf.keep (ks := [2, 4, 26, 27, 55]) (by kernel_rfl)⟩ hS

set_option maxHeartbeats 4000000 in
theorem isa_Encode_ok {w : World} {F : SH} {i : Int × Int × Int × Int × Int}  (hs : Sep w F (blks [gth0]) w F [gth0]) {r : Int × Int} (hS : isa_Encode i = some r) :
    Calls Tryd.prog 11 [.agg #[.int .i64 i.1, .int .i64 i.2.1, .int .i64 i.2.2.1, .int .i64 i.2.2.2.1, .int .i32 i.2.2.2.2]].toArray w (Gives (fun u w' => ∃ (F' : SH), u = .tuple #[.int .u64 r.1, .int .i64 r.2] ∧ Sep w F (blks [gth0]) w' F' [])) := by
  generalize (blks [gth0]) = R at hs ⊢
  unfold isa_Encode at hS
  refine fn_ok (vs := [.agg #[.int .i64 i.1, .int .i64 i.2.1, .int .i64 i.2.2.1, .int .i64 i.2.2.2.1, .int .i32 i.2.2.2.2]]) Tryd.func11 rfl 37 Tryd.ntmps11 (Nat.le_of_ble_eq_true rfl) ?_
  intro a hf
  replace hf := Fr.cast (L' := [(0, .agg #[.int .i64 i.1, .int .i64 i.2.1, .int .i64 i.2.2.1, .int .i64 i.2.2.2.1, .int .i32 i.2.2.2.2])]) hf (by kernel_rfl)
  refine sq ?_
  refine reg ?_
  refine bx (T := 24) [.int .i64 i.1, .int .i64 i.2.1, .int .i64 i.2.2.1, .int .i64 i.2.2.2.1, .int .i32 i.2.2.2.2] (v := .agg #[.int .i64 i.1, .int .i64 i.2.1, .int .i64 i.2.2.1, .int .i64 i.2.2.2.1, .int .i32 i.2.2.2.2]) rfl (by kernel_rfl) hf (by kernel_rfl) (by kernel_rfl) (by kernel_rfl) ?_
  clear hf; clear a; intro w1 a hb hx _ hf
  replace hs := hs.newBox hb hx
  clear hb hx
  replace hf := hf.keep (ks := [1]) rfl
  refine st tbOk 2 [1] hf rfl ?_
  clear hf a; intro a hf
  refine wpList_nil ?_
  refine sq ?_
  refine sq ?_
  refine reg ?_
  refine ldC tbOk (T := 24) (hs.cbx 0 rfl) (LeH.refl _) 0 (.agg #[.int .i64 i.1, .int .i64 i.2.1, .int .i64 i.2.2.1, .int .i64 i.2.2.2.1, .int .i32 i.2.2.2.2]) hf (by kernel_rfl) (by kernel_rfl) (by kernel_rfl) (by kernel_rfl) ?_
  clear hf a; intro a hf
  replace hf := hf.keep (ks := [1, 7]) rfl
  have hT := of_bd hS; clear hS; obtain ⟨z1, hz1, hS⟩ := hT
  refine clV ent22 (vs := [.agg #[.int .i64 i.1, .int .i64 i.2.1, .int .i64 i.2.2.1, .int .i64 i.2.2.2.1, .int .i32 i.2.2.2.2]]) (caps := []) hf (by kernel_rfl) (by kernel_rfl) (by kernel_rfl) (by kernel_rfl) (isa_may_ok (i := (i.1, i.2.1, i.2.2.1, i.2.2.2.1, i.2.2.2.2)) (hs.enter [1] rfl rfl) hz1) ?_
  clear hf; clear a; intro v w2 a hT hf; obtain ⟨F1, rfl, hr⟩ := hT
  replace hs := (hs.back [1] [0, 1] rfl rfl rfl rfl hr).nf rfl
  clear hr
  replace hf := hf.keep (ks := [1, 8]) rfl
  refine st tbOk 3 [1, 9, 10] hf rfl ?_
  clear hf a; intro a hf
  refine al tbOk i56 [.int .i64 0, strV [], strV []] rfl (by kernel_rfl) hf (by kernel_rfl) (by kernel_rfl) ?_
  clear hf; clear a; intro w3 a hb hx _ hf
  replace hs := hs.newBox hb hx
  clear hb hx
  replace hf := hf.keep (ks := [1, 4, 9, 10]) rfl
  refine stB tbOk i56 (hs.bx 0 rfl) 0 [.int .i64 z1.1.1, strV z1.1.2.1, strV z1.1.2.2] [.int .i64 z1.1.1, strV z1.1.2.1, strV z1.1.2.2] (v := .agg #[.int .i64 z1.1.1, strV z1.1.2.1, strV z1.1.2.2]) rfl rfl (by kernel_rfl) (by kernel_rfl) (by kernel_rfl) (by kernel_rfl) hf (by kernel_rfl) (by kernel_rfl) (by kernel_rfl) ?_
  clear hf; clear a; intro w4 a hb hg _ hf
  replace hs := (hs.updBox 0 rfl hb hg).nf rfl
  clear hb hg
  replace hs := hs.sel [1, 2] rfl rfl
  replace hf := hf.keep (ks := [1, 10]) rfl
  refine st tbOk 1 [1, 5] hf rfl ?_
  clear hf a; intro a hf
  refine wpList_nil ?_
  refine sq ?_
  refine reg ?_
  refine st tbOk 2 [1, 12] hf rfl ?_
  clear hf a; intro a hf
  refine wpList_nil ?_
  refine cnd (b := !z1.2) hf (by kernel_rfl) (fun hb1 => ?_) (fun hb1 => ?_)
  · replace hS := of_t hb1 hS
    refine sq ?_
    refine reg ?_
    refine st tbOk 2 [2, 3] hf rfl ?_
    clear hf a; intro a hf
    refine wpList_nil ?_
    have hr := Option.some.inj hS; subst hr
    refine wp_ret ?_
    exact ret_ok hf (vs := [.int .u64 0, .int .i64 42]) (by kernel_rfl) ⟨_, rfl, hs.sel [] rfl rfl⟩
  replace hS := of_f hb1 hS
  refine wp_skip ?_
  refine sq ?_
  refine reg ?_
  refine st tbOk 1 [1, 13] hf rfl ?_
  clear hf a; intro a hf
  refine ldC tbOk (T := 3) (hs.cbx 0 rfl) (LeH.refl _) 0 (.int .i64 i.1) hf (by kernel_rfl) (by kernel_rfl) (by kernel_rfl) (by kernel_rfl) ?_
  clear hf a; intro a hf
  replace hf := hf.keep (ks := [1, 14]) rfl
  refine st tbOk 2 [1, 15, 16] hf rfl ?_
  clear hf a; intro a hf
  refine ldC tbOk (T := 3) (hs.cbx 0 rfl) (LeH.refl _) 1 (.int .i64 i.2.1) hf (by kernel_rfl) (by kernel_rfl) (by kernel_rfl) (by kernel_rfl) ?_
  clear hf a; intro a hf
  replace hf := hf.keep (ks := [1, 15, 17]) rfl
  refine st tbOk 4 [1, 20, 21] hf rfl ?_
  clear hf a; intro a hf
  refine ldC tbOk (T := 3) (hs.cbx 0 rfl) (LeH.refl _) 2 (.int .i64 i.2.2.1) hf (by kernel_rfl) (by kernel_rfl) (by kernel_rfl) (by kernel_rfl) ?_
  clear hf a; intro a hf
  replace hf := hf.keep (ks := [1, 20, 22]) rfl
  refine st tbOk 4 [1, 25, 26] hf rfl ?_
  clear hf a; intro a hf
  refine ldC tbOk (T := 3) (hs.cbx 0 rfl) (LeH.refl _) 3 (.int .i64 i.2.2.2.1) hf (by kernel_rfl) (by kernel_rfl) (by kernel_rfl) (by kernel_rfl) ?_
  clear hf a; intro a hf
  replace hf := hf.keep (ks := [1, 25, 27]) rfl
  refine st tbOk 4 [30, 31] hf rfl ?_
  clear hf a; intro a hf
  refine ldC tbOk (T := 21) (hs.cbx 0 rfl) (LeH.refl _) 4 (.int .i32 i.2.2.2.2) hf (by kernel_rfl) (by kernel_rfl) (by kernel_rfl) (by kernel_rfl) ?_
  clear hf a; intro a hf
  replace hs := hs.sel [1] rfl rfl
  replace hf := hf.keep (ks := [30, 32]) rfl
  refine st tbOk 5 [2] hf rfl ?_
  clear hf a; intro a hf
  refine st tbOk 1 [2, 3] hf rfl ?_
  clear hf a; intro a hf
  refine wpList_nil ?_
  have hr := Option.some.inj hS; subst hr
  refine wp_ret ?_
  exact ret_ok hf (vs := [.int .u64 (bor .u64 (bor .u64 (bor .u64 (bor .u64 (IntKind.u64.wrap i.1) (shl .u64 (IntKind.u64.wrap i.2.1) 8)) (shl .u64 (IntKind.u64.wrap i.2.2.1) 13)) (shl .u64 (IntKind.u64.wrap i.2.2.2.1) 18)) (shl .u64 (IntKind.u64.wrap (IntKind.u32.wrap i.2.2.2.2)) 32)), .int .i64 0]) (by kernel_rfl) ⟨_, rfl, hs.sel [] rfl rfl⟩

set_option maxHeartbeats 4000000 in
theorem isa_Decode_ok {w : World} {F : SH} {p_w : Int}  (hs : Sep w F (blks [gth0]) w F [gth0]) {r : (Int × Int × Int × Int × Int) × Int} (hS : isa_Decode p_w = some r) :
    Calls Tryd.prog 16 [.int .u64 p_w].toArray w (Gives (fun u w' => ∃ (F' : SH), u = .tuple #[.agg #[.int .i64 r.1.1, .int .i64 r.1.2.1, .int .i64 r.1.2.2.1, .int .i64 r.1.2.2.2.1, .int .i32 r.1.2.2.2.2], .int .i64 r.2] ∧ Sep w F (blks [gth0]) w' F' [])) := by
  generalize (blks [gth0]) = R at hs ⊢
  unfold isa_Decode at hS
  refine fn_ok (vs := [.int .u64 p_w]) Tryd.func16 rfl 40 Tryd.ntmps16 (Nat.le_of_ble_eq_true rfl) ?_
  intro a hf
  replace hf := Fr.cast (L' := [(0, .int .u64 p_w)]) hf (by kernel_rfl)
  refine sq ?_
  refine reg ?_
  refine al tbOk i24 [.int .i64 0, .int .i64 0, .int .i64 0, .int .i64 0, .int .i32 0] rfl (by kernel_rfl) hf (by kernel_rfl) (by kernel_rfl) ?_
  clear hf; clear a; intro w1 a hb hx _ hf
  replace hs := hs.newBox hb hx
  clear hb hx
  replace hf := hf.keep (ks := [0, 2]) rfl
  refine st tbOk 1 [0, 2] hf rfl ?_
  clear hf a; intro a hf
  refine wpList_nil ?_
  refine sq ?_
  refine reg ?_
  refine st tbOk 5 [0, 2, 9, 11] hf rfl ?_
  clear hf a; intro a hf
  refine st tbOk 5 [0, 2, 9, 13, 16] hf rfl ?_
  clear hf a; intro a hf
  refine st tbOk 5 [0, 2, 9, 13, 17, 21] hf rfl ?_
  clear hf a; intro a hf
  refine st tbOk 4 [0, 2, 25] hf rfl ?_
  clear hf a; intro a hf
  refine al tbOk i24 [.int .i64 0, .int .i64 0, .int .i64 0, .int .i64 0, .int .i32 0] rfl (by kernel_rfl) hf (by kernel_rfl) (by kernel_rfl) ?_
  clear hf; clear a; intro w2 a hb hx _ hf
  replace hs := hs.newBox hb hx
  clear hb hx
  replace hf := hf.keep (ks := [0, 2, 4, 25]) rfl
  refine stB tbOk i24 (hs.bx 0 rfl) 0 [.int .i64 (IntKind.i64.wrap (band .u64 p_w 255)), .int .i64 (IntKind.i64.wrap (band .u64 (shr .u64 p_w 8) 31)), .int .i64 (IntKind.i64.wrap (band .u64 (shr .u64 p_w 13) 31)), .int .i64 (IntKind.i64.wrap (band .u64 (shr .u64 p_w 18) 31)), .int .i32 (IntKind.i32.wrap (shr .u64 p_w 32))] [.int .i64 (IntKind.i64.wrap (band .u64 p_w 255)), .int .i64 (IntKind.i64.wrap (band .u64 (shr .u64 p_w 8) 31)), .int .i64 (IntKind.i64.wrap (band .u64 (shr .u64 p_w 13) 31)), .int .i64 (IntKind.i64.wrap (band .u64 (shr .u64 p_w 18) 31)), .int .i32 (IntKind.i32.wrap (shr .u64 p_w 32))] (v := .agg #[.int .i64 (IntKind.i64.wrap (band .u64 p_w 255)), .int .i64 (IntKind.i64.wrap (band .u64 (shr .u64 p_w 8) 31)), .int .i64 (IntKind.i64.wrap (band .u64 (shr .u64 p_w 13) 31)), .int .i64 (IntKind.i64.wrap (band .u64 (shr .u64 p_w 18) 31)), .int .i32 (IntKind.i32.wrap (shr .u64 p_w 32))]) rfl rfl (by kernel_rfl) (by kernel_rfl) (by kernel_rfl) (by kernel_rfl) hf (by kernel_rfl) (by kernel_rfl) (by kernel_rfl) ?_
  clear hf; clear a; intro w3 a hb hg _ hf
  replace hs := (hs.updBox 0 rfl hb hg).nf rfl
  clear hb hg
  replace hf := hf.keep (ks := [0, 2, 4]) rfl
  refine wpList_nil ?_
  refine sq ?_
  refine sq ?_
  refine reg ?_
  refine ldC tbOk (T := 24) (hs.cbx 0 rfl) (LeH.refl _) 0 (.agg #[.int .i64 (IntKind.i64.wrap (band .u64 p_w 255)), .int .i64 (IntKind.i64.wrap (band .u64 (shr .u64 p_w 8) 31)), .int .i64 (IntKind.i64.wrap (band .u64 (shr .u64 p_w 13) 31)), .int .i64 (IntKind.i64.wrap (band .u64 (shr .u64 p_w 18) 31)), .int .i32 (IntKind.i32.wrap (shr .u64 p_w 32))]) hf (by kernel_rfl) (by kernel_rfl) (by kernel_rfl) (by kernel_rfl) ?_
  clear hf a; intro a hf
  replace hf := hf.keep (ks := [0, 2, 4, 27]) rfl
  have hT := of_bd hS; clear hS; obtain ⟨z1, hz1, hS⟩ := hT
  refine clV ent11 (vs := [.agg #[.int .i64 (IntKind.i64.wrap (band .u64 p_w 255)), .int .i64 (IntKind.i64.wrap (band .u64 (shr .u64 p_w 8) 31)), .int .i64 (IntKind.i64.wrap (band .u64 (shr .u64 p_w 13) 31)), .int .i64 (IntKind.i64.wrap (band .u64 (shr .u64 p_w 18) 31)), .int .i32 (IntKind.i32.wrap (shr .u64 p_w 32))]]) (caps := []) hf (by kernel_rfl) (by kernel_rfl) (by kernel_rfl) (by kernel_rfl) (isa_Encode_ok (i := (IntKind.i64.wrap (band .u64 p_w 255), IntKind.i64.wrap (band .u64 (shr .u64 p_w 8) 31), IntKind.i64.wrap (band .u64 (shr .u64 p_w 13) 31), IntKind.i64.wrap (band .u64 (shr .u64 p_w 18) 31), IntKind.i32.wrap (shr .u64 p_w 32))) (hs.enter [2] rfl rfl) hz1) ?_
  clear hf; clear a; intro v w4 a hT hf; obtain ⟨F1, rfl, hr⟩ := hT
  replace hs := (hs.back [2] [0, 1, 2] rfl rfl rfl rfl hr).nf rfl
  clear hr
  replace hf := hf.keep (ks := [0, 2, 4, 28]) rfl
  refine st tbOk 5 [0, 2, 4, 5, 6] hf rfl ?_
  clear hf a; intro a hf
  refine wpList_nil ?_
  refine sq ?_
  refine ctj (fun (s1 : Bool) (a : Act) (w' : World) => ∃ (F2 : SH), Sep w F R w' F2 [.box w1.heap.size 24 [.int .i64 (IntKind.i64.wrap (band .u64 p_w 255)), .int .i64 (IntKind.i64.wrap (band .u64 (shr .u64 p_w 8) 31)), .int .i64 (IntKind.i64.wrap (band .u64 (shr .u64 p_w 13) 31)), .int .i64 (IntKind.i64.wrap (band .u64 (shr .u64 p_w 18) 31)), .int .i32 (IntKind.i32.wrap (shr .u64 p_w 32))], .box w.heap.size 24 [.int .i64 0, .int .i64 0, .int .i64 0, .int .i64 0, .int .i32 0], gth0] ∧ Fr 40 [(2, .pointer (some ⟨w.heap.size, 0, none⟩)), (4, .pointer (some ⟨w1.heap.size, 0, none⟩)), (37, .bool s1)] a) hS ?_ ?_
  rotate_left
  · clear hS; intro KK1 k1 hK1 hS
    refine reg ?_
    refine st tbOk 3 [0, 2, 4, 5, 33] hf rfl ?_
    clear hf a; intro a hf
    rcases Bool.eq_false_or_eq_true (z1.2 != 0) with hb1 | hb1
    · replace hS := of_t hb1 hS
      replace hf := hf.castB hb1 (fun qb => [(0, .int .u64 p_w), (2, .pointer (some ⟨w.heap.size, 0, none⟩)), (4, .pointer (some ⟨w1.heap.size, 0, none⟩)), (5, .int .u64 z1.1), (33, .bool qb)]) (by kernel_rfl)
      refine st tbOk 4 [2, 4, 37] hf rfl ?_
      clear hf a; intro a hf
      refine wpList_nil ?_
      exact hK1 true _ _ ⟨_, hs.sel [0, 1, 2] rfl rfl, hf.keep (ks := [2, 4, 37]) (by kernel_rfl)⟩ hS
    replace hS := of_f hb1 hS
    replace hf := hf.castB hb1 (fun qb => [(0, .int .u64 p_w), (2, .pointer (some ⟨w.heap.size, 0, none⟩)), (4, .pointer (some ⟨w1.heap.size, 0, none⟩)), (5, .int .u64 z1.1), (33, .bool qb)]) (by kernel_rfl)
    refine st tbOk 4 [2, 4, 37] hf rfl ?_
    clear hf a; intro a hf
    refine wpList_nil ?_
    exact hK1 (z1.1 != p_w) _ _ ⟨_, hs.sel [0, 1, 2] rfl rfl, hf.keep (ks := [2, 4, 37]) (by kernel_rfl)⟩ hS
  clear hS hf hs; clear a; intro s1 a w5 hM hS
  obtain ⟨F2, hs, hf⟩ := hM
  refine cnd (b := s1) hf (by kernel_rfl) (fun hb2 => ?_) (fun hb2 => ?_)
  · replace hS := of_t hb2 hS
    refine sq ?_
    refine reg ?_
    refine st tbOk 1 [2, 38] hf rfl ?_
    clear hf a; intro a hf
    refine stB tbOk i24 (hs.bx 1 rfl) 0 [.int .i64 0, .int .i64 0, .int .i64 0, .int .i64 0, .int .i32 0] [.int .i64 0, .int .i64 0, .int .i64 0, .int .i64 0, .int .i32 0] (v := .agg #[.int .i64 0, .int .i64 0, .int .i64 0, .int .i64 0, .int .i32 0]) rfl rfl (by kernel_rfl) (by kernel_rfl) (by kernel_rfl) (by kernel_rfl) hf (by kernel_rfl) (by kernel_rfl) (by kernel_rfl) ?_
    clear hf; clear a; intro w6 a hb hg _ hf
    replace hs := (hs.updBox 1 rfl hb hg).nf rfl
    clear hb hg
    replace hs := hs.sel [1, 2] rfl rfl
    replace hf := hf.keep (ks := [2]) rfl
    refine st tbOk 1 [2, 3] hf rfl ?_
    clear hf a; intro a hf
    refine wpList_nil ?_
    have hr := Option.some.inj hS; subst hr
    refine wp_ret ?_
    exact ret_okC hf (vs := [.agg #[.int .i64 0, .int .i64 0, .int .i64 0, .int .i64 0, .int .i32 0], .int .i64 42]) (.cons (.cell tbOk (hs.cbx 0 rfl) (off := 0) (by kernel_rfl) (by kernel_rfl)) (.cons (.tmp (by kernel_rfl)) .nil)) ⟨_, rfl, hs.sel [] rfl rfl⟩
  replace hS := of_f hb2 hS
  refine wp_skip ?_
  refine sq ?_
  refine reg ?_
  refine ldC tbOk (T := 24) (hs.cbx 0 rfl) (LeH.refl _) 0 (.agg #[.int .i64 (IntKind.i64.wrap (band .u64 p_w 255)), .int .i64 (IntKind.i64.wrap (band .u64 (shr .u64 p_w 8) 31)), .int .i64 (IntKind.i64.wrap (band .u64 (shr .u64 p_w 13) 31)), .int .i64 (IntKind.i64.wrap (band .u64 (shr .u64 p_w 18) 31)), .int .i32 (IntKind.i32.wrap (shr .u64 p_w 32))]) hf (by kernel_rfl) (by kernel_rfl) (by kernel_rfl) (by kernel_rfl) ?_
  clear hf a; intro a hf
  replace hs := hs.sel [1, 2] rfl rfl
  replace hf := hf.keep (ks := [2, 39]) rfl
  refine stB tbOk i24 (hs.bx 0 rfl) 0 [.int .i64 (IntKind.i64.wrap (band .u64 p_w 255)), .int .i64 (IntKind.i64.wrap (band .u64 (shr .u64 p_w 8) 31)), .int .i64 (IntKind.i64.wrap (band .u64 (shr .u64 p_w 13) 31)), .int .i64 (IntKind.i64.wrap (band .u64 (shr .u64 p_w 18) 31)), .int .i32 (IntKind.i32.wrap (shr .u64 p_w 32))] [.int .i64 (IntKind.i64.wrap (band .u64 p_w 255)), .int .i64 (IntKind.i64.wrap (band .u64 (shr .u64 p_w 8) 31)), .int .i64 (IntKind.i64.wrap (band .u64 (shr .u64 p_w 13) 31)), .int .i64 (IntKind.i64.wrap (band .u64 (shr .u64 p_w 18) 31)), .int .i32 (IntKind.i32.wrap (shr .u64 p_w 32))] (v := .agg #[.int .i64 (IntKind.i64.wrap (band .u64 p_w 255)), .int .i64 (IntKind.i64.wrap (band .u64 (shr .u64 p_w 8) 31)), .int .i64 (IntKind.i64.wrap (band .u64 (shr .u64 p_w 13) 31)), .int .i64 (IntKind.i64.wrap (band .u64 (shr .u64 p_w 18) 31)), .int .i32 (IntKind.i32.wrap (shr .u64 p_w 32))]) rfl rfl (by kernel_rfl) (by kernel_rfl) (by kernel_rfl) (by kernel_rfl) hf (by kernel_rfl) (by kernel_rfl) (by kernel_rfl) ?_
  clear hf; clear a; intro w7 a hb hg _ hf
  replace hs := (hs.updBox 0 rfl hb hg).nf rfl
  clear hb hg
  replace hf := hf.keep (ks := [2]) rfl
  refine st tbOk 1 [2, 3] hf rfl ?_
  clear hf a; intro a hf
  refine wpList_nil ?_
  have hr := Option.some.inj hS; subst hr
  refine wp_ret ?_
  exact ret_okC hf (vs := [.agg #[.int .i64 (IntKind.i64.wrap (band .u64 p_w 255)), .int .i64 (IntKind.i64.wrap (band .u64 (shr .u64 p_w 8) 31)), .int .i64 (IntKind.i64.wrap (band .u64 (shr .u64 p_w 13) 31)), .int .i64 (IntKind.i64.wrap (band .u64 (shr .u64 p_w 18) 31)), .int .i32 (IntKind.i32.wrap (shr .u64 p_w 32))], .int .i64 0]) (.cons (.cell tbOk (hs.cbx 0 rfl) (off := 0) (by kernel_rfl) (by kernel_rfl)) (.cons (.tmp (by kernel_rfl)) .nil)) ⟨_, rfl, hs.sel [] rfl rfl⟩

theorem strconv_Itoa_ok {w : World} {F : SH} {i : Int} (hs : Sep w F (blks [gth2]) w F [gth2]) {r : List UInt8} (hS : strconv_Itoa i = some r) :
    Calls Tryd.prog 25 [.int .i64 i].toArray w (Gives (fun u w' => ∃ (F' : SH), u = strV r ∧ Sep w F (blks [gth2]) w' F' [])) := by
  unfold strconv_Itoa at hS
  obtain ⟨hc, hq⟩ := of_gd hS
  have hr := Option.some.inj hq; clear hS hq; subst hr
  obtain ⟨h0, h1⟩ := hc
  refine (Tryd.strconv_Itoa i h0 h1 w (tab_is hs.le (hs.ro 0 rfl) (by kernel_rfl))).mono ?_
  rintro e w' ⟨rfl, k, os, rfl⟩
  exact ⟨_, rfl, F, by rw [itoaD_eq h0 h1]; rfl, (hs.ext (ext_drewN w k os)).sel [] rfl rfl⟩

set_option maxHeartbeats 4000000 in
theorem isa_Text_ok {w : World} {F : SH} {i : Int × Int × Int × Int × Int}  (hs : Sep w F (blks [gth0, gth2]) w F [gth0, gth2]) {r : (List UInt8) × Int} (hS : isa_Text i = some r) :
    Calls Tryd.prog 14 [.agg #[.int .i64 i.1, .int .i64 i.2.1, .int .i64 i.2.2.1, .int .i64 i.2.2.2.1, .int .i32 i.2.2.2.2]].toArray w (Gives (fun u w' => ∃ (F' : SH), u = .tuple #[strV r.1, .int .i64 r.2] ∧ Sep w F (blks [gth0, gth2]) w' F' [])) := by
  generalize (blks [gth0, gth2]) = R at hs ⊢
  unfold isa_Text at hS
  refine fn_ok (vs := [.agg #[.int .i64 i.1, .int .i64 i.2.1, .int .i64 i.2.2.1, .int .i64 i.2.2.2.1, .int .i32 i.2.2.2.2]]) Tryd.func14 rfl 46 Tryd.ntmps14 (Nat.le_of_ble_eq_true rfl) ?_
  intro a hf
  replace hf := Fr.cast (L' := [(0, .agg #[.int .i64 i.1, .int .i64 i.2.1, .int .i64 i.2.2.1, .int .i64 i.2.2.2.1, .int .i32 i.2.2.2.2])]) hf (by kernel_rfl)
  refine sq ?_
  refine reg ?_
  refine bx (T := 24) [.int .i64 i.1, .int .i64 i.2.1, .int .i64 i.2.2.1, .int .i64 i.2.2.2.1, .int .i32 i.2.2.2.2] (v := .agg #[.int .i64 i.1, .int .i64 i.2.1, .int .i64 i.2.2.1, .int .i64 i.2.2.2.1, .int .i32 i.2.2.2.2]) rfl (by kernel_rfl) hf (by kernel_rfl) (by kernel_rfl) (by kernel_rfl) ?_
  clear hf; clear a; intro w1 a hb hx _ hf
  replace hs := hs.newBox hb hx
  clear hb hx
  replace hf := hf.keep (ks := [1]) rfl
  refine st tbOk 2 [1] hf rfl ?_
  clear hf a; intro a hf
  refine wpList_nil ?_
  refine sq ?_
  refine reg ?_
  refine ldC tbOk (T := 24) (hs.cbx 0 rfl) (LeH.refl _) 0 (.agg #[.int .i64 i.1, .int .i64 i.2.1, .int .i64 i.2.2.1, .int .i64 i.2.2.2.1, .int .i32 i.2.2.2.2]) hf (by kernel_rfl) (by kernel_rfl) (by kernel_rfl) (by kernel_rfl) ?_
  clear hf a; intro a hf
  replace hf := hf.keep (ks := [1, 10]) rfl
  have hT := of_bd hS; clear hS; obtain ⟨z1, hz1, hS⟩ := hT
  refine clV ent22 (vs := [.agg #[.int .i64 i.1, .int .i64 i.2.1, .int .i64 i.2.2.1, .int .i64 i.2.2.2.1, .int .i32 i.2.2.2.2]]) (caps := []) hf (by kernel_rfl) (by kernel_rfl) (by kernel_rfl) (by kernel_rfl) (isa_may_ok (i := (i.1, i.2.1, i.2.2.1, i.2.2.2.1, i.2.2.2.2)) (hs.enter [1] rfl rfl) hz1) ?_
  clear hf; clear a; intro v w2 a hT hf; obtain ⟨F1, rfl, hr⟩ := hT
  replace hs := (hs.back [1] [0, 1, 2] rfl rfl rfl rfl hr).nf rfl
  clear hr
  replace hf := hf.keep (ks := [1, 11]) rfl
  refine st tbOk 3 [1, 12, 13] hf rfl ?_
  clear hf a; intro a hf
  refine al tbOk i56 [.int .i64 0, strV [], strV []] rfl (by kernel_rfl) hf (by kernel_rfl) (by kernel_rfl) ?_
  clear hf; clear a; intro w3 a hb hx _ hf
  replace hs := hs.newBox hb hx
  clear hb hx
  replace hf := hf.keep (ks := [1, 4, 12, 13]) rfl
  refine stB tbOk i56 (hs.bx 0 rfl) 0 [.int .i64 z1.1.1, strV z1.1.2.1, strV z1.1.2.2] [.int .i64 z1.1.1, strV z1.1.2.1, strV z1.1.2.2] (v := .agg #[.int .i64 z1.1.1, strV z1.1.2.1, strV z1.1.2.2]) rfl rfl (by kernel_rfl) (by kernel_rfl) (by kernel_rfl) (by kernel_rfl) hf (by kernel_rfl) (by kernel_rfl) (by kernel_rfl) ?_
  clear hf; clear a; intro w4 a hb hg _ hf
  replace hs := (hs.updBox 0 rfl hb hg).nf rfl
  clear hb hg
  replace hf := hf.keep (ks := [1, 4, 13]) rfl
  refine st tbOk 1 [1, 4, 5] hf rfl ?_
  clear hf a; intro a hf
  refine wpList_nil ?_
  refine sq ?_
  refine sq ?_
  refine reg ?_
  refine st tbOk 2 [1, 4, 15] hf rfl ?_
  clear hf a; intro a hf
  refine wpList_nil ?_
  refine cnd (b := !z1.2) hf (by kernel_rfl) (fun hb1 => ?_) (fun hb1 => ?_)
  · replace hS := of_t hb1 hS
    refine sq ?_
    refine reg ?_
    refine st tbOk 2 [2, 3] hf rfl ?_
    clear hf a; intro a hf
    refine wpList_nil ?_
    have hr := Option.some.inj hS; subst hr
    refine wp_ret ?_
    exact ret_ok hf (vs := [strV [], .int .i64 42]) (by kernel_rfl) ⟨_, rfl, hs.sel [] rfl rfl⟩
  replace hS := of_f hb1 hS
  refine wp_skip ?_
  refine sq ?_
  refine reg ?_
  refine st tbOk 1 [1, 4, 16] hf rfl ?_
  clear hf a; intro a hf
  refine ldC tbOk (T := 9) (hs.cbx 0 rfl) (LeH.refl _) 1 (strV z1.1.2.1) hf (by kernel_rfl) (by kernel_rfl) (by kernel_rfl) (by kernel_rfl) ?_
  clear hf a; intro a hf
  replace hf := hf.keep (ks := [1, 4, 17]) rfl
  refine st tbOk 1 [1, 4, 6] hf rfl ?_
  clear hf a; intro a hf
  refine wpList_nil ?_
  refine sq ?_
  refine sq ?_
  refine reg ?_
  refine st tbOk 1 [1, 4, 6, 18] hf rfl ?_
  clear hf a; intro a hf
  refine ldC tbOk (T := 3) (hs.cbx 1 rfl) (LeH.refl _) 1 (.int .i64 i.2.1) hf (by kernel_rfl) (by kernel_rfl) (by kernel_rfl) (by kernel_rfl) ?_
  clear hf a; intro a hf
  replace hf := hf.keep (ks := [1, 4, 6, 19]) rfl
  refine st tbOk 1 [1, 4, 6, 19, 20] hf rfl ?_
  clear hf a; intro a hf
  refine ldC tbOk (T := 3) (hs.cbx 1 rfl) (LeH.refl _) 2 (.int .i64 i.2.2.1) hf (by kernel_rfl) (by kernel_rfl) (by kernel_rfl) (by kernel_rfl) ?_
  clear hf a; intro a hf
  replace hf := hf.keep (ks := [1, 4, 6, 19, 21]) rfl
  refine st tbOk 1 [1, 4, 6, 19, 21, 22] hf rfl ?_
  clear hf a; intro a hf
  refine ldC tbOk (T := 3) (hs.cbx 1 rfl) (LeH.refl _) 3 (.int .i64 i.2.2.2.1) hf (by kernel_rfl) (by kernel_rfl) (by kernel_rfl) (by kernel_rfl) ?_
  clear hf a; intro a hf
  replace hf := hf.keep (ks := [1, 4, 6, 19, 21, 23]) rfl
  refine st tbOk 1 [4, 6, 19, 21, 23, 24] hf rfl ?_
  clear hf a; intro a hf
  refine ldC tbOk (T := 21) (hs.cbx 1 rfl) (LeH.refl _) 4 (.int .i32 i.2.2.2.2) hf (by kernel_rfl) (by kernel_rfl) (by kernel_rfl) (by kernel_rfl) ?_
  clear hf a; intro a hf
  replace hs := hs.sel [0, 2, 3] rfl rfl
  replace hf := hf.keep (ks := [4, 6, 19, 21, 23, 25]) rfl
  refine st tbOk 3 [4, 6, 27, 28] hf rfl ?_
  clear hf a; intro a hf
  refine wpList_nil ?_
  refine ctj (fun (s1 : List UInt8) (a : Act) (w' : World) => ∃ (F2 : SH), Sep w F R w' F2 [gth0, gth2] ∧ Fr 46 [(6, strV s1)] a) hS ?_ ?_
  · clear hS hf hs; clear a; intro s1 a w10 hM hS
    obtain ⟨F2, hs, hf⟩ := hM
    refine sq ?_
    refine reg ?_
    refine st tbOk 3 [2, 3] hf rfl ?_
    clear hf a; intro a hf
    refine wpList_nil ?_
    have hr := Option.some.inj hS; subst hr
    refine wp_ret ?_
    exact ret_ok hf (vs := [strV s1, .int .i64 0]) (by kernel_rfl) ⟨_, rfl, hs.sel [] rfl rfl⟩
  clear hS; intro KK1 k1 hK1 hS
  refine blk ?_
  refine lp (st := (z1.1.2.1, 0)) (fun (s2 : (List UInt8) × Int) (a : Act) (w' : World) => ∃ (F3 : SH), Sep w F R w' F3 [.box w2.heap.size 56 [.int .i64 z1.1.1, strV z1.1.2.1, strV z1.1.2.2], gth0, gth2] ∧ Fr 46 [(4, .pointer (some ⟨w2.heap.size, 0, none⟩)), (6, strV s2.1), (27, .agg (List.map (Value.int .i64) ([i.2.1, i.2.2.1, i.2.2.2.1, IntKind.i64.wrap i.2.2.2.2] : List Int)).toArray), (28, .int .i64 s2.2)] a) ?_ ⟨_, hs.sel [0, 1, 2] rfl rfl, hf.keep (ks := [4, 6, 27, 28]) (by kernel_rfl)⟩ hS
  clear hS hf hs; clear a
  intro rec1 KK2 hK2 s2 a w5 hM hS
  obtain ⟨F3, hs, hf⟩ := hM
  refine sq ?_
  refine reg ?_
  refine st tbOk 1 [4, 6, 27, 28, 29] hf rfl ?_
  clear hf a; intro a hf
  refine wpList_nil ?_
  refine sq ?_
  refine cnd (b := decide (s2.2 < 4)) hf (by kernel_rfl) (fun hb2 => ?_) (fun hb2 => ?_)
  rotate_left
  · replace hS := of_f hb2 hS
    refine wp_exit ?_
    exact hK1 s2.1 _ _ ⟨_, hs.sel [1, 2] rfl rfl, hf.keep (ks := [6]) (by kernel_rfl)⟩ hS
  replace hS := of_t hb2 hS
  refine wp_skip ?_
  refine sq ?_
  refine ctj (fun (s3 : List UInt8) (a : Act) (w' : World) => ∃ (F4 : SH), Sep w F R w' F4 [.box w2.heap.size 56 [.int .i64 z1.1.1, strV z1.1.2.1, strV z1.1.2.2], gth0, gth2] ∧ Fr 46 [(4, .pointer (some ⟨w2.heap.size, 0, none⟩)), (6, strV s3), (27, .agg (List.map (Value.int .i64) ([i.2.1, i.2.2.1, i.2.2.2.1, IntKind.i64.wrap i.2.2.2.2] : List Int)).toArray), (28, .int .i64 s2.2)] a) hS ?_ ?_
  · clear hS hf hs; clear a; intro s3 a w9 hM hS
    obtain ⟨F4, hs, hf⟩ := hM
    refine reg ?_
    refine st tbOk 2 [4, 6, 27, 28] hf rfl ?_
    clear hf a; intro a hf
    refine wpList_nil ?_
    exact hK2 (s3, IntKind.i64.wrap (s2.2 + 1)) _ _ ⟨_, hs.sel [0, 1, 2] rfl rfl, hf.keep (ks := [4, 6, 27, 28]) (by kernel_rfl)⟩ hS
  clear hS; intro KK3 k2 hK3 hS
  refine blk ?_
  refine sq ?_
  refine reg ?_
  refine st tbOk 1 [4, 6, 27, 28, 30] hf rfl ?_
  clear hf a; intro a hf
  have hT := of_gd hS; clear hS; obtain ⟨hc1, hS⟩ := hT
  refine ixA tbOk u60 u3 rfl i3 (Value.int .i64) ([i.2.1, i.2.2.1, i.2.2.2.1, IntKind.i64.wrap i.2.2.2.2] : List Int) rfl (k := .i64) (i := s2.2) hc1 hf (by kernel_rfl) (by kernel_rfl) (by kernel_rfl) (by kernel_rfl) ?_
  clear hf a; intro a hf
  replace hf := hf.keep (ks := [4, 6, 27, 28, 30, 31]) rfl
  have hT := of_let hS; clear hS; obtain ⟨x_1, hl1, hS⟩ := hT
  refine st tbOk 2 [4, 6, 7, 8, 27, 28] (L' := [(4, .pointer (some ⟨w2.heap.size, 0, none⟩)), (6, strV s2.1), (7, .int .i64 s2.2), (8, .int .i64 x_1), (27, .agg (List.map (Value.int .i64) ([i.2.1, i.2.2.1, i.2.2.2.1, IntKind.i64.wrap i.2.2.2.2] : List Int)).toArray), (28, .int .i64 s2.2)]) hf (by subst hl1; kernel_rfl) ?_
  clear hf a; intro a hf
  refine wpList_nil ?_
  refine sq ?_
  refine regQ mixed (by kernel_rfl) ?_
  refine stQ tbOk 1 [4, 6, 7, 8, 27, 28, 32] hf rfl ?_
  clear hf a; intro a hf
  refine ldCQ tbOk (T := 9) (hs.cbx 0 rfl) (LeH.refl _) 2 (strV z1.1.2.2) hf (by kernel_rfl) (by kernel_rfl) (by kernel_rfl) (by kernel_rfl) ?_
  clear hf a; intro a hf
  replace hf := hf.keep (ks := [4, 6, 7, 8, 27, 28, 33]) rfl
  refine stQ tbOk 3 [4, 6, 8, 27, 28, 33, 34, 36] hf rfl ?_
  clear hf a; intro a hf
  have hT := of_gd hS; clear hS; obtain ⟨hc2, hS⟩ := hT
  refine cutSQ tbOk u9 (p := ([97, 98, 99, 105] : List UInt8)) (lo := s2.2) (hi := IntKind.i64.wrap (s2.2 + 1)) hc2 (.inr ⟨_, .i64, rfl, by kernel_rfl⟩) (.inr ⟨_, .i64, rfl, by kernel_rfl⟩) hf (by kernel_rfl) (by kernel_rfl) (by kernel_rfl) ?_
  clear hf a; intro a hf
  replace hf := hf.keep (ks := [4, 6, 8, 27, 28, 33, 37]) rfl
  have hT := of_bd hS; clear hS; obtain ⟨z2, hz2, hS⟩ := hT
  refine clVQ ent24 (vs := [strV z1.1.2.2, strV (cutL ([97, 98, 99, 105] : List UInt8) s2.2 (IntKind.i64.wrap (s2.2 + 1)))]) (caps := []) hf (by kernel_rfl) (by kernel_rfl) (by kernel_rfl) (by kernel_rfl) (.bool z2) (fun wq hq => (strings_Contains_ok (s := z1.1.2.2) (sub := (cutL ([97, 98, 99, 105] : List UInt8) s2.2 (IntKind.i64.wrap (s2.2 + 1)))) (hs.lendQ hq [] rfl rfl) hz2).mono fun _ _ h => Gives.mono (fun _ ⟨_, e, h⟩ => ⟨e, h.ex (pers_blks rfl)⟩) h) ?_
  clear hf a; intro a hf
  replace hf := hf.keep (ks := [4, 6, 8, 27, 28, 38]) rfl
  refine wpQuiet_nil ?_
  intro w6 hx
  replace hs := hs.ext hx
  clear hx
  refine ctj (fun (s4 : List UInt8) (a : Act) (w' : World) => ∃ (F5 : SH), Sep w F R w' F5 [.box w2.heap.size 56 [.int .i64 z1.1.1, strV z1.1.2.1, strV z1.1.2.2], gth0, gth2] ∧ Fr 46 [(4, .pointer (some ⟨w2.heap.size, 0, none⟩)), (6, strV s4), (27, .agg (List.map (Value.int .i64) ([i.2.1, i.2.2.1, i.2.2.2.1, IntKind.i64.wrap i.2.2.2.2] : List Int)).toArray), (28, .int .i64 s2.2)] a) hS ?_ ?_
  · clear hS hf hs; clear a; intro s4 a w8 hM hS
    obtain ⟨F5, hs, hf⟩ := hM
    exact hK3 s4 _ _ ⟨_, hs.sel [0, 1, 2] rfl rfl, hf.keep (ks := [4, 6, 27, 28]) (by kernel_rfl)⟩ hS
  clear hS; intro KK4 k3 hK4 hS
  refine cnd (b := z2) hf (by kernel_rfl) (fun hb3 => ?_) (fun hb3 => ?_)
  rotate_left
  · replace hS := of_f hb3 hS
    refine wp_skip ?_
    exact hK4 s2.1 _ _ ⟨_, hs.sel [0, 1, 2] rfl rfl, hf.keep (ks := [4, 6, 27, 28]) (by kernel_rfl)⟩ hS
  replace hS := of_t hb3 hS
  refine reg ?_
  refine st tbOk 2 [4, 27, 28, 39, 40] hf rfl ?_
  clear hf a; intro a hf
  have hT := of_bd hS; clear hS; obtain ⟨z3, hz3, hS⟩ := hT
  refine clV ent25 (vs := [.int .i64 x_1]) (caps := []) hf (by kernel_rfl) (by kernel_rfl) (by kernel_rfl) (by kernel_rfl) (strconv_Itoa_ok (i := x_1) (hs.enter [2] rfl rfl) hz3) ?_
  clear hf; clear a; intro v w7 a hT hf; obtain ⟨F6, rfl, hr⟩ := hT
  replace hs := (hs.back [2] [0, 1, 2] rfl rfl rfl rfl hr).nf rfl
  clear hr
  replace hf := hf.keep (ks := [4, 27, 28, 39, 41]) rfl
  have hT := of_gd hS; clear hS; obtain ⟨hc3, hS⟩ := hT
  refine addS hc3 hf (by kernel_rfl) (by kernel_rfl) (by kernel_rfl) (by kernel_rfl) ?_
  clear hf a; intro a hf
  replace hf := hf.keep (ks := [4, 27, 28, 39, 42]) rfl
  have hT := of_gd hS; clear hS; obtain ⟨hc4, hS⟩ := hT
  refine addS hc4 hf (by kernel_rfl) (by kernel_rfl) (by kernel_rfl) (by kernel_rfl) ?_
  clear hf a; intro a hf
  replace hf := hf.keep (ks := [4, 27, 28, 43]) rfl
  have hT := of_let hS; clear hS; obtain ⟨out_1, hl2, hS⟩ := hT
  refine st tbOk 1 [4, 6, 27, 28] (L' := [(4, .pointer (some ⟨w2.heap.size, 0, none⟩)), (6, strV out_1), (27, .agg (List.map (Value.int .i64) ([i.2.1, i.2.2.1, i.2.2.2.1, IntKind.i64.wrap i.2.2.2.2] : List Int)).toArray), (28, .int .i64 s2.2)]) hf (by subst hl2; kernel_rfl) ?_
  clear hf a; intro a hf
  refine wpList_nil ?_
  exact hK4 out_1 _ _ ⟨_, hs.sel [0, 1, 2] rfl rfl, hf.keep (ks := [4, 6, 27, 28]) (by kernel_rfl)⟩ hS

theorem strings_FieldsFunc_Parse_1_ok {w : World} {F : SH} {s : List UInt8} (hs : Sep w F (blks []) w F []) {r : List (List UInt8)} (hS : strings_FieldsFunc_Parse_1 s = some r) :
    Calls Tryd.prog 29 [strV s, .func (.func 30) #[] #[]].toArray w (Gives (fun u w' => ∃ (ao1 : Option Addr) (cp1 : Nat) (F' : SH), u = .slice ao1 r.length cp1 ∧ Sep w F (blks []) w' F' [.row 9 tS (.slice ao1 r.length cp1) r])) := by
  unfold strings_FieldsFunc_Parse_1 at hS
  obtain ⟨h1, hS⟩ := of_gd hS
  have hr := Option.some.inj hS; subst hr
  refine (Tryd.strings_FieldsFunc_runes 30 #[] (enters_of Tryd.func30 (by kernel_rfl) rfl) (fun x => x == 32) ⟨s.toArray⟩ w (by simpa [ByteArray.size] using h1) (pred32 (fun W x hx => ?_))).mono ?_
  · go_enter Tryd.func30, Tryd.ntmps30
    go_wp2
    go_ret
    exact ⟨congrArg (fun b => Ending.returned (Value.bool b)) (int_beq32 x), 0, rfl⟩
  · rintro e w' ⟨B, rfl, hB, ho, hx⟩
    exact fields_end hs s 9 ho hx

set_option maxHeartbeats 4000000 in
theorem isa_Parse_2_ok {w : World} {F : SH} {o : Int × (List UInt8) × (List UInt8)} {q_1 : List (List UInt8)} {ao1 : Option Addr} {cp1 : Nat} {b1 : Nat} (hs : Sep w F (blks [.cel b1 0 [.slice ao1 q_1.length cp1], .ro tS (.slice ao1 q_1.length cp1) q_1]) w F [.cel b1 0 [.slice ao1 q_1.length cp1], .ro tS (.slice ao1 q_1.length cp1) q_1]) {r : Bool} (hS : isa_Parse_2 o q_1 = some r) :
    Calls Tryd.prog 32 [.agg #[.int .i64 o.1, strV o.2.1, strV o.2.2], .pointer (some ⟨b1, 0, none⟩)].toArray w (Gives (fun u w' => ∃ (F' : SH), u = .bool r ∧ Sep w F (blks [.cel b1 0 [.slice ao1 q_1.length cp1], .ro tS (.slice ao1 q_1.length cp1) q_1]) w' F' [])) := by
  generalize (blks [.cel b1 0 [.slice ao1 q_1.length cp1], .ro tS (.slice ao1 q_1.length cp1) q_1]) = R at hs ⊢
  unfold isa_Parse_2 at hS
  refine fn_ok (vs := [.agg #[.int .i64 o.1, strV o.2.1, strV o.2.2], .pointer (some ⟨b1, 0, none⟩)]) Tryd.func32 rfl 10 Tryd.ntmps32 (Nat.le_of_ble_eq_true rfl) ?_
  intro a hf
  replace hf := Fr.cast (L' := [(0, .agg #[.int .i64 o.1, strV o.2.1, strV o.2.2]), (1, .pointer (some ⟨b1, 0, none⟩))]) hf (by kernel_rfl)
  refine sq ?_
  refine reg ?_
  refine bx (T := 56) [.int .i64 o.1, strV o.2.1, strV o.2.2] (v := .agg #[.int .i64 o.1, strV o.2.1, strV o.2.2]) rfl (by kernel_rfl) hf (by kernel_rfl) (by kernel_rfl) (by kernel_rfl) ?_
  clear hf; clear a; intro w1 a hb hx _ hf
  replace hs := hs.newBox hb hx
  clear hb hx
  replace hf := hf.keep (ks := [1, 2]) rfl
  refine st tbOk 1 [1, 2] hf rfl ?_
  clear hf a; intro a hf
  refine wpList_nil ?_
  refine sq ?_
  refine regQ mixed (by kernel_rfl) ?_
  refine stQ tbOk 1 [1, 4] hf rfl ?_
  clear hf a; intro a hf
  refine ldCQ tbOk (T := 9) (hs.cbx 0 rfl) (LeH.refl _) 1 (strV o.2.1) hf (by kernel_rfl) (by kernel_rfl) (by kernel_rfl) (by kernel_rfl) ?_
  clear hf a; intro a hf
  replace hs := hs.sel [1, 2] rfl rfl
  replace hf := hf.keep (ks := [1, 5]) rfl
  refine ldCQ tbOk (T := 53) (hs.ccel 0 rfl) (LeH.refl _) 0 (.slice ao1 q_1.length cp1) hf (by kernel_rfl) (by kernel_rfl) (by kernel_rfl) (by kernel_rfl) ?_
  clear hf a; intro a hf
  replace hs := hs.sel [1] rfl rfl
  replace hf := hf.keep (ks := [5, 6]) rfl
  have hT := of_gd hS; clear hS; obtain ⟨hc1, hS⟩ := hT
  refine ixRQ tbOk u53 i9 rfl rfl ((hs.ro 0 rfl).ra (LeH.refl _)) (k := .i64) (n := 0) hc1 hf (by kernel_rfl) (by kernel_rfl) (by kernel_rfl) (by kernel_rfl) ?_
  clear hf; clear a; intro pb1 po1 c1 a hp1 hr1 hf
  obtain rfl : c1 = [strV (gt q_1 0)] := hr1
  replace hs := hs.addCel hp1
  replace hs := hs.sel [0] rfl rfl
  replace hf := hf.keep (ks := [5, 7]) rfl
  refine ldCQ tbOk (T := 9) (hs.ccel 0 rfl) (LeH.refl _) 0 (strV (gt q_1 0)) hf (by kernel_rfl) (by kernel_rfl) (by kernel_rfl) (by kernel_rfl) ?_
  clear hf a; intro a hf
  replace hs := hs.sel [] rfl rfl
  replace hf := hf.keep (ks := [5, 8]) rfl
  refine stQ tbOk 2 [3] hf rfl ?_
  clear hf a; intro a hf
  refine wpQuiet_nil ?_
  intro w2 hx
  replace hs := hs.ext hx
  clear hx
  have hr := Option.some.inj hS; subst hr
  refine wp_ret ?_
  exact ret_ok hf (vs := [.bool (o.2.1 == (gt q_1 0))]) (by kernel_rfl) ⟨_, rfl, hs.sel [] rfl rfl⟩

set_option maxHeartbeats 4000000 in
theorem slices_IndexFunc_isa_op_isa_op_Parse_2_ok {w : World} {F : SH} {p_s : List (Int × (List UInt8) × (List UInt8))} {q_c0 : List (List UInt8)} {ao1 : Option Addr} {cp1 : Nat} {ao2 : Option Addr} {cp2 : Nat} {b1 : Nat} (hs : Sep w F (blks [.ro ty55 (.slice ao1 p_s.length cp1) p_s, .cel b1 0 [.slice ao2 q_c0.length cp2], .ro tS (.slice ao2 q_c0.length cp2) q_c0]) w F [.ro ty55 (.slice ao1 p_s.length cp1) p_s, .cel b1 0 [.slice ao2 q_c0.length cp2], .ro tS (.slice ao2 q_c0.length cp2) q_c0]) {r : Int} (hS : slices_IndexFunc_isa_op_isa_op_Parse_2 p_s q_c0 = some r) :
    Calls Tryd.prog 42 [.slice ao1 p_s.length cp1, .func (.func 32) #[] #[.pointer (some ⟨b1, 0, none⟩)]].toArray w (Gives (fun u w' => ∃ (F' : SH), u = .int .i64 r ∧ Sep w F (blks [.ro ty55 (.slice ao1 p_s.length cp1) p_s, .cel b1 0 [.slice ao2 q_c0.length cp2], .ro tS (.slice ao2 q_c0.length cp2) q_c0]) w' F' [])) := by
  generalize (blks [.ro ty55 (.slice ao1 p_s.length cp1) p_s, .cel b1 0 [.slice ao2 q_c0.length cp2], .ro tS (.slice ao2 q_c0.length cp2) q_c0]) = R at hs ⊢
  unfold slices_IndexFunc_isa_op_isa_op_Parse_2 at hS
  refine fn_ok (vs := [.slice ao1 p_s.length cp1, .func (.func 32) #[] #[.pointer (some ⟨b1, 0, none⟩)]]) Tryd.func42 rfl 19 Tryd.ntmps42 (Nat.le_of_ble_eq_true rfl) ?_
  intro a hf
  replace hf := Fr.cast (L' := [(0, .slice ao1 p_s.length cp1), (1, .func (.func 32) #[] #[.pointer (some ⟨b1, 0, none⟩)])]) hf (by kernel_rfl)
  refine sq ?_
  refine reg ?_
  refine st tbOk 1 [0, 1] hf rfl ?_
  clear hf a; intro a hf
  refine wpList_nil ?_
  refine sq ?_
  refine sq ?_
  refine reg ?_
  refine st tbOk 3 [0, 1, 7, 8] hf rfl ?_
  clear hf a; intro a hf
  refine wpList_nil ?_
  refine ctj (fun (s1 : Unit) (a : Act) (w' : World) => ∃ (F1 : SH), Sep w F R w' F1 [] ∧ Fr 19 [] a) hS ?_ ?_
  · clear hS hf hs; clear a; intro s1 a w3 hM hS
    obtain ⟨F1, hs, hf⟩ := hM
    refine sq ?_
    refine reg ?_
    refine st tbOk 1 [4] hf rfl ?_
    clear hf a; intro a hf
    refine wpList_nil ?_
    have hr := Option.some.inj hS; subst hr
    refine wp_ret ?_
    exact ret_ok hf (vs := [.int .i64 (-1)]) (by kernel_rfl) ⟨_, rfl, hs.sel [] rfl rfl⟩
  clear hS; intro KK1 k1 hK1 hS
  refine blk ?_
  refine lp (st := 0) (fun (s2 : Int) (a : Act) (w' : World) => ∃ (F2 : SH), Sep w F R w' F2 [.ro ty55 (.slice ao1 p_s.length cp1) p_s, .cel b1 0 [.slice ao2 q_c0.length cp2], .ro tS (.slice ao2 q_c0.length cp2) q_c0] ∧ Fr 19 [(0, .slice ao1 p_s.length cp1), (1, .func (.func 32) #[] #[.pointer (some ⟨b1, 0, none⟩)]), (7, .int .i64 ((p_s.length : Nat) : Int)), (8, .int .i64 s2)] a) ?_ ⟨_, hs.sel [0, 1, 2] rfl rfl, hf.keep (ks := [0, 1, 7, 8]) (by kernel_rfl)⟩ hS
  clear hS hf hs; clear a
  intro rec1 KK2 hK2 s2 a w1 hM hS
  obtain ⟨F2, hs, hf⟩ := hM
  refine sq ?_
  refine reg ?_
  refine st tbOk 1 [0, 1, 7, 8, 9] hf rfl ?_
  clear hf a; intro a hf
  refine wpList_nil ?_
  refine sq ?_
  refine cnd (b := decide (s2 < ((p_s.length : Nat) : Int))) hf (by kernel_rfl) (fun hb1 => ?_) (fun hb1 => ?_)
  rotate_left
  · replace hS := of_f hb1 hS
    refine wp_exit ?_
    exact hK1 () _ _ ⟨_, hs.sel [] rfl rfl, hf.keep (ks := []) (by kernel_rfl)⟩ hS
  replace hS := of_t hb1 hS
  refine wp_skip ?_
  refine sq ?_
  refine blk ?_
  refine sq ?_
  refine reg ?_
  refine st tbOk 2 [0, 1, 5, 7, 8] hf rfl ?_
  clear hf a; intro a hf
  refine wpList_nil ?_
  refine sq ?_
  refine reg ?_
  refine st tbOk 3 [0, 1, 5, 7, 8, 11, 12, 13] hf rfl ?_
  clear hf a; intro a hf
  have hT := of_gd hS; clear hS; obtain ⟨hc1, hS⟩ := hT
  refine ixR tbOk u83 i56 rfl rfl ((hs.ro 0 rfl).ra (LeH.refl _)) (k := .i64) (n := s2) hc1 hf (by kernel_rfl) (by kernel_rfl) (by kernel_rfl) (by kernel_rfl) ?_
  clear hf; clear a; intro pb1 po1 c1 a hp1 hr1 hf
  obtain rfl : c1 = [.int .i64 ((gt p_s s2).1), strV ((gt p_s s2).2.1), strV ((gt p_s s2).2.2)] := hr1
  replace hs := hs.addCel hp1
  replace hf := hf.keep (ks := [0, 1, 5, 7, 8, 11, 14]) rfl
  refine ldC tbOk (T := 56) (hs.ccel 0 rfl) (LeH.refl _) 0 (.agg #[.int .i64 ((gt p_s s2).1), strV ((gt p_s s2).2.1), strV ((gt p_s s2).2.2)]) hf (by kernel_rfl) (by kernel_rfl) (by kernel_rfl) (by kernel_rfl) ?_
  clear hf a; intro a hf
  replace hs := hs.sel [1, 2, 3] rfl rfl
  replace hf := hf.keep (ks := [0, 1, 5, 7, 8, 11, 15]) rfl
  have hT := of_bd hS; clear hS; obtain ⟨z1, hz1, hS⟩ := hT
  refine clV ent32 (vs := [.agg #[.int .i64 ((gt p_s s2).1), strV ((gt p_s s2).2.1), strV ((gt p_s s2).2.2)]]) (caps := [.pointer (some ⟨b1, 0, none⟩)]) hf (by kernel_rfl) (by kernel_rfl) (by kernel_rfl) (by kernel_rfl) (isa_Parse_2_ok (o := gt p_s s2) (q_1 := q_c0) (hs.enter [1, 2] rfl rfl) hz1) ?_
  clear hf; clear a; intro v w2 a hT hf; obtain ⟨F3, rfl, hr⟩ := hT
  replace hs := (hs.back [1, 2] [0, 1, 2] rfl rfl rfl rfl hr).nf rfl
  clear hr
  replace hf := hf.keep (ks := [0, 1, 5, 7, 8, 16]) rfl
  refine wpList_nil ?_
  refine cnd (b := z1) hf (by kernel_rfl) (fun hb2 => ?_) (fun hb2 => ?_)
  rotate_left
  · replace hS := of_f hb2 hS
    refine wp_skip ?_
    refine reg ?_
    refine st tbOk 2 [0, 1, 7, 8] hf rfl ?_
    clear hf a; intro a hf
    refine wpList_nil ?_
    exact hK2 (IntKind.i64.wrap (s2 + 1)) _ _ ⟨_, hs.sel [0, 1, 2] rfl rfl, hf.keep (ks := [0, 1, 7, 8]) (by kernel_rfl)⟩ hS
  replace hS := of_t hb2 hS
  refine sq ?_
  refine reg ?_
  refine st tbOk 2 [4] hf rfl ?_
  clear hf a; intro a hf
  refine wpList_nil ?_
  have hr := Option.some.inj hS; subst hr
  refine wp_ret ?_
  exact ret_ok hf (vs := [.int .i64 s2]) (by kernel_rfl) ⟨_, rfl, hs.sel [] rfl rfl⟩

set_option maxHeartbeats 4000000 in
theorem isa_find_Parse_2_ok {w : World} {F : SH} {q_c0 : List (List UInt8)} {ao1 : Option Addr} {cp1 : Nat} {b1 : Nat} (hs : Sep w F (blks [.cel b1 0 [.slice ao1 q_c0.length cp1], .ro tS (.slice ao1 q_c0.length cp1) q_c0, gth0]) w F [.cel b1 0 [.slice ao1 q_c0.length cp1], .ro tS (.slice ao1 q_c0.length cp1) q_c0, gth0]) {r : (Int × (List UInt8) × (List UInt8)) × Bool} (hS : isa_find_Parse_2 q_c0 = some r) :
    Calls Tryd.prog 31 [.func (.func 32) #[] #[.pointer (some ⟨b1, 0, none⟩)]].toArray w (Gives (fun u w' => ∃ (F' : SH), u = .tuple #[.agg #[.int .i64 r.1.1, strV r.1.2.1, strV r.1.2.2], .bool r.2] ∧ Sep w F (blks [.cel b1 0 [.slice ao1 q_c0.length cp1], .ro tS (.slice ao1 q_c0.length cp1) q_c0, gth0]) w' F' [])) := by
  generalize (blks [.cel b1 0 [.slice ao1 q_c0.length cp1], .ro tS (.slice ao1 q_c0.length cp1) q_c0, gth0]) = R at hs ⊢
  unfold isa_find_Parse_2 at hS
  refine fn_ok (vs := [.func (.func 32) #[] #[.pointer (some ⟨b1, 0, none⟩)]]) Tryd.func31 rfl 14 Tryd.ntmps31 (Nat.le_of_ble_eq_true rfl) ?_
  intro a hf
  replace hf := Fr.cast (L' := [(0, .func (.func 32) #[] #[.pointer (some ⟨b1, 0, none⟩)])]) hf (by kernel_rfl)
  refine sq ?_
  refine reg ?_
  refine al tbOk i56 [.int .i64 0, strV [], strV []] rfl (by kernel_rfl) hf (by kernel_rfl) (by kernel_rfl) ?_
  clear hf; clear a; intro w1 a hb hx _ hf
  replace hs := hs.newBox hb hx
  clear hb hx
  replace hf := hf.keep (ks := [0, 2]) rfl
  refine st tbOk 1 [0, 2] hf rfl ?_
  clear hf a; intro a hf
  refine wpList_nil ?_
  refine sq ?_
  refine reg ?_
  replace hs := hs.addRo (gro0 (hs.ro 3 rfl))
  refine slG tbOk u84 i56 (b := 0) hf (by kernel_rfl) (by kernel_rfl) (by kernel_rfl) (xs := gx0) rfl ?_
  clear hf a; intro a hf
  replace hf := hf.keep (ks := [0, 2, 5]) rfl
  refine st tbOk 1 [2, 5, 6] hf rfl ?_
  clear hf a; intro a hf
  have hT := of_bd hS; clear hS; obtain ⟨z1, hz1, hS⟩ := hT
  refine clV ent42 (vs := [.slice (some ⟨0, 0, none⟩) gx0.length gx0.length, .func (.func 32) #[] #[.pointer (some ⟨b1, 0, none⟩)]]) (caps := []) hf (by kernel_rfl) (by kernel_rfl) (by kernel_rfl) (by kernel_rfl) (slices_IndexFunc_isa_op_isa_op_Parse_2_ok (p_s := gx0) (q_c0 := q_c0) (hs.enter [0, 2, 3] rfl rfl) hz1) ?_
  clear hf; clear a; intro v w2 a hT hf; obtain ⟨F1, rfl, hr⟩ := hT
  replace hs := (hs.back [0, 2, 3] [0, 1, 2, 3, 4] rfl rfl rfl rfl hr).nf rfl
  clear hr
  replace hs := hs.sel [1, 4] rfl rfl
  replace hf := hf.keep (ks := [2, 7]) rfl
  refine st tbOk 1 [2, 4] hf rfl ?_
  clear hf a; intro a hf
  refine wpList_nil ?_
  refine sq ?_
  refine sq ?_
  refine reg ?_
  refine st tbOk 2 [2, 4, 9] hf rfl ?_
  clear hf a; intro a hf
  refine wpList_nil ?_
  refine cnd (b := decide (z1 < 0)) hf (by kernel_rfl) (fun hb1 => ?_) (fun hb1 => ?_)
  · replace hS := of_t hb1 hS
    refine sq ?_
    refine reg ?_
    refine st tbOk 1 [2, 10] hf rfl ?_
    clear hf a; intro a hf
    refine stB tbOk i56 (hs.bx 0 rfl) 0 [.int .i64 0, strV [], strV []] [.int .i64 0, strV [], strV []] (v := .agg #[.int .i64 0, strV [], strV []]) rfl rfl (by kernel_rfl) (by kernel_rfl) (by kernel_rfl) (by kernel_rfl) hf (by kernel_rfl) (by kernel_rfl) (by kernel_rfl) ?_
    clear hf; clear a; intro w3 a hb hg _ hf
    replace hs := (hs.updBox 0 rfl hb hg).nf rfl
    clear hb hg
    replace hf := hf.keep (ks := [2]) rfl
    refine st tbOk 1 [2, 3] hf rfl ?_
    clear hf a; intro a hf
    refine wpList_nil ?_
    have hr := Option.some.inj hS; subst hr
    refine wp_ret ?_
    exact ret_okC hf (vs := [.agg #[.int .i64 0, strV [], strV []], .bool false]) (.cons (.cell tbOk (hs.cbx 0 rfl) (off := 0) (by kernel_rfl) (by kernel_rfl)) (.cons (.tmp (by kernel_rfl)) .nil)) ⟨_, rfl, hs.sel [] rfl rfl⟩
  replace hS := of_f hb1 hS
  refine wp_skip ?_
  refine sq ?_
  refine reg ?_
  refine st tbOk 1 [2, 11] hf rfl ?_
  clear hf a; intro a hf
  replace hs := hs.addRo (gro0 (hs.ro 1 rfl))
  have hT := of_gd hS; clear hS; obtain ⟨hc1, hS⟩ := hT
  refine ixG tbOk u84 i56 rfl rfl (b := 0) (xs := gx0) rfl ((hs.ro 0 rfl).ra (LeH.refl _)) (k := .i64) (i := z1) hc1 hf (by kernel_rfl) (by kernel_rfl) (by kernel_rfl) (by kernel_rfl) ?_
  clear hf; clear a; intro pb1 po1 c1 a hp1 hr1 hf
  obtain rfl : c1 = [.int .i64 ((gt gx0 z1).1), strV ((gt gx0 z1).2.1), strV ((gt gx0 z1).2.2)] := hr1
  replace hs := hs.addCel hp1
  replace hs := hs.sel [0, 2, 3] rfl rfl
  replace hf := hf.keep (ks := [2, 12]) rfl
  refine ldC tbOk (T := 56) (hs.ccel 0 rfl) (LeH.refl _) 0 (.agg #[.int .i64 ((gt gx0 z1).1), strV ((gt gx0 z1).2.1), strV ((gt gx0 z1).2.2)]) hf (by kernel_rfl) (by kernel_rfl) (by kernel_rfl) (by kernel_rfl) ?_
  clear hf a; intro a hf
  replace hs := hs.sel [1, 2] rfl rfl
  replace hf := hf.keep (ks := [2, 13]) rfl
  refine stB tbOk i56 (hs.bx 0 rfl) 0 [.int .i64 ((gt gx0 z1).1), strV ((gt gx0 z1).2.1), strV ((gt gx0 z1).2.2)] [.int .i64 ((gt gx0 z1).1), strV ((gt gx0 z1).2.1), strV ((gt gx0 z1).2.2)] (v := .agg #[.int .i64 ((gt gx0 z1).1), strV ((gt gx0 z1).2.1), strV ((gt gx0 z1).2.2)]) rfl rfl (by kernel_rfl) (by kernel_rfl) (by kernel_rfl) (by kernel_rfl) hf (by kernel_rfl) (by kernel_rfl) (by kernel_rfl) ?_
  clear hf; clear a; intro w4 a hb hg _ hf
  replace hs := (hs.updBox 0 rfl hb hg).nf rfl
  clear hb hg
  replace hf := hf.keep (ks := [2]) rfl
  refine st tbOk 1 [2, 3] hf rfl ?_
  clear hf a; intro a hf
  refine wpList_nil ?_
  have hr := Option.some.inj hS; subst hr
  refine wp_ret ?_
  exact ret_okC hf (vs := [.agg #[.int .i64 ((gt gx0 z1).1), strV ((gt gx0 z1).2.1), strV ((gt gx0 z1).2.2)], .bool true]) (.cons (.cell tbOk (hs.cbx 0 rfl) (off := 0) (by kernel_rfl) (by kernel_rfl)) (.cons (.tmp (by kernel_rfl)) .nil)) ⟨_, rfl, hs.sel [] rfl rfl⟩

theorem strings_TrimPrefix_ok {w : World} {F : SH} {s p : List UInt8} (hs : Sep w F (blks []) w F []) {r : List UInt8} (hS : strings_TrimPrefix s p = some r) :
    Calls Tryd.prog 43 [strV s, strV p].toArray w (Gives (fun u w' => ∃ (F' : SH), u = strV r ∧ Sep w F (blks []) w' F' [])) := by
  unfold strings_TrimPrefix at hS
  have hr := Option.some.inj hS; subst hr
  refine (Tryd.strings_TrimPrefix ⟨s.toArray⟩ ⟨p.toArray⟩ w).mono ?_
  rintro e w' ⟨rfl, rfl⟩
  exact ⟨_, rfl, F, rfl, hs⟩

theorem strconv_FormatInt_ok {w : World} {F : SH} {i base : Int} (hs : Sep w F (blks [gth2]) w F [gth2]) {r : List UInt8} (hS : strconv_FormatInt i base = some r) :
    Calls Tryd.prog 44 [.int .i64 i, .int .i64 base].toArray w (Gives (fun u w' => ∃ (F' : SH), u = strV r ∧ Sep w F (blks [gth2]) w' F' [])) := by
  unfold strconv_FormatInt at hS
  obtain ⟨hc, hq⟩ := of_gd hS
  have hr := Option.some.inj hq; clear hS hq; subst hr
  obtain ⟨rfl, h0, h1⟩ := hc
  refine (Tryd.strconv_FormatInt_10 i h0 h1 w (tab_is hs.le (hs.ro 0 rfl) (by kernel_rfl))).mono ?_
  rintro e w' ⟨rfl, k, os, rfl⟩
  exact ⟨_, rfl, F, by rw [itoaD_eq h0 h1]; rfl, (hs.ext (ext_drewN w k os)).sel [] rfl rfl⟩

set_option maxHeartbeats 4000000 in
theorem isa_number_ok {w : World} {F : SH} {p_s : List UInt8}  (hs : Sep w F (blks [gth2]) w F [gth2]) {r : Int × Bool} (hS : isa_number p_s = some r) :
    Calls Tryd.prog 33 [strV p_s].toArray w (Gives (fun u w' => ∃ (F' : SH), u = .tuple #[.int .i64 r.1, .bool r.2] ∧ Sep w F (blks [gth2]) w' F' [])) := by
  generalize (blks [gth2]) = R at hs ⊢
  unfold isa_number at hS
  refine fn_ok (vs := [strV p_s]) Tryd.func33 rfl 49 Tryd.ntmps33 (Nat.le_of_ble_eq_true rfl) ?_
  intro a hf
  replace hf := Fr.cast (L' := [(0, strV p_s)]) hf (by kernel_rfl)
  refine sq ?_
  refine reg ?_
  refine st tbOk 2 [0] hf rfl ?_
  clear hf a; intro a hf
  refine wpList_nil ?_
  refine sq ?_
  refine reg ?_
  refine st tbOk 1 [0, 4] hf rfl ?_
  clear hf a; intro a hf
  refine wpList_nil ?_
  refine sq ?_
  refine reg ?_
  refine st tbOk 1 [0, 4, 8] hf rfl ?_
  clear hf a; intro a hf
  have hT := of_bd hS; clear hS; obtain ⟨z1, hz1, hS⟩ := hT
  refine clV ent43 (vs := [strV p_s, strV [45]]) (caps := []) hf (by kernel_rfl) (by kernel_rfl) (by kernel_rfl) (by kernel_rfl) (strings_TrimPrefix_ok (s := p_s) (p := [45]) (hs.enter [] rfl rfl) hz1) ?_
  clear hf; clear a; intro v w1 a hT hf; obtain ⟨F1, rfl, hr⟩ := hT
  replace hs := (hs.back [] [0] rfl rfl rfl rfl hr).nf rfl
  clear hr
  replace hf := hf.keep (ks := [0, 4, 9]) rfl
  refine st tbOk 1 [0, 4, 5] hf rfl ?_
  clear hf a; intro a hf
  refine wpList_nil ?_
  refine sq ?_
  refine sq ?_
  refine reg ?_
  refine st tbOk 1 [0, 4, 5, 10] hf rfl ?_
  clear hf a; intro a hf
  have hT := of_gd hS; clear hS; obtain ⟨hc1, hS⟩ := hT
  refine s2b tbOk u9 u49 u5 hs (y := z1) hc1 hf (by kernel_rfl) (by kernel_rfl) (by kernel_rfl) ?_
  clear hf hs; clear a; intro ao1 cp1 w2 a hs hf
  replace hf := hf.keep (ks := [0, 4, 5, 11]) rfl
  refine st tbOk 2 [0, 4, 5, 11, 12, 13] hf rfl ?_
  clear hf a; intro a hf
  refine wpList_nil ?_
  refine ctj (fun (s1 : Int) (a : Act) (w' : World) => ∃ (F2 : SH), Sep w F R w' F2 [gth2] ∧ Fr 49 [(0, strV p_s), (4, .int .i64 s1), (5, strV z1)] a) hS ?_ ?_
  · clear hS hf hs; clear a; intro s1 a w5 hM hS
    obtain ⟨F2, hs, hf⟩ := hM
    refine sq ?_
    refine sq ?_
    refine reg ?_
    refine st tbOk 3 [0, 4, 33] hf rfl ?_
    clear hf a; intro a hf
    refine wpList_nil ?_
    refine ctj (fun (s4 : Int) (a : Act) (w' : World) => ∃ (F5 : SH), Sep w F R w' F5 [gth2] ∧ Fr 49 [(0, strV p_s), (4, .int .i64 s4)] a) hS ?_ ?_
    rotate_left
    · clear hS; intro KK4 k3 hK4 hS
      refine cnd (b := !(p_s == z1)) hf (by kernel_rfl) (fun hb4 => ?_) (fun hb4 => ?_)
      rotate_left
      · replace hS := of_f hb4 hS
        refine wp_skip ?_
        exact hK4 s1 _ _ ⟨_, hs.sel [0] rfl rfl, hf.keep (ks := [0, 4]) (by kernel_rfl)⟩ hS
      replace hS := of_t hb4 hS
      refine reg ?_
      have hT := of_let hS; clear hS; obtain ⟨n_2, hl3, hS⟩ := hT
      refine st tbOk 3 [0, 4] (L' := [(0, strV p_s), (4, .int .i64 n_2)]) hf (by subst hl3; kernel_rfl) ?_
      clear hf a; intro a hf
      refine wpList_nil ?_
      exact hK4 n_2 _ _ ⟨_, hs.sel [0] rfl rfl, hf.keep (ks := [0, 4]) (by kernel_rfl)⟩ hS
    clear hS hf hs; clear a; intro s4 a w6 hM hS
    obtain ⟨F5, hs, hf⟩ := hM
    refine sq ?_
    refine ctj (fun (s5 : Int × Bool) (a : Act) (w' : World) => ∃ (F6 : SH), Sep w F R w' F6 [gth2] ∧ Fr 49 [(2, .int .i64 s5.1), (3, .bool s5.2)] a) hS ?_ ?_
    · clear hS hf hs; clear a; intro s5 a w8 hM hS
      obtain ⟨F6, hs, hf⟩ := hM
      have hr := Option.some.inj hS; subst hr
      refine wp_ret ?_
      exact ret_ok hf (vs := [.int .i64 s5.1, .bool s5.2]) (by kernel_rfl) ⟨_, rfl, hs.sel [] rfl rfl⟩
    clear hS; intro KK5 k4 hK5 hS
    refine reg ?_
    refine st tbOk 2 [0, 4, 36, 37] hf rfl ?_
    clear hf a; intro a hf
    have hT := of_bd hS; clear hS; obtain ⟨z2, hz2, hS⟩ := hT
    refine clV ent44 (vs := [.int .i64 s4, .int .i64 10]) (caps := []) hf (by kernel_rfl) (by kernel_rfl) (by kernel_rfl) (by kernel_rfl) (strconv_FormatInt_ok (i := s4) (base := 10) (hs.enter [0] rfl rfl) hz2) ?_
    clear hf; clear a; intro v w7 a hT hf; obtain ⟨F7, rfl, hr⟩ := hT
    replace hs := (hs.back [0] [0] rfl rfl rfl rfl hr).nf rfl
    clear hr
    replace hf := hf.keep (ks := [0, 4, 36, 38]) rfl
    refine st tbOk 3 [4, 36, 41] hf rfl ?_
    clear hf a; intro a hf
    rcases Bool.eq_false_or_eq_true (z2 == p_s) with hb5 | hb5
    rotate_left
    · replace hS := of_f hb5 hS
      replace hf := hf.castB hb5 (fun qb => [(4, .int .i64 s4), (36, .int .i64 s4), (41, .bool qb)]) (by kernel_rfl)
      refine st tbOk 5 [36, 45, 46] hf rfl ?_
      clear hf a; intro a hf
      refine st tbOk 4 [2, 3] hf rfl ?_
      clear hf a; intro a hf
      refine wpList_nil ?_
      exact hK5 (s4, false) _ _ ⟨_, hs.sel [0] rfl rfl, hf.keep (ks := [2, 3]) (by kernel_rfl)⟩ hS
    replace hS := of_t hb5 hS
    replace hf := hf.castB hb5 (fun qb => [(4, .int .i64 s4), (36, .int .i64 s4), (41, .bool qb)]) (by kernel_rfl)
    refine st tbOk 4 [4, 36, 45] hf rfl ?_
    clear hf a; intro a hf
    rcases Bool.eq_false_or_eq_true (decide (s4 ≥ (-2147483648))) with hb6 | hb6
    rotate_left
    · replace hS := of_f hb6 hS
      replace hf := hf.castB hb6 (fun qb => [(4, .int .i64 s4), (36, .int .i64 s4), (45, .bool qb)]) (by kernel_rfl)
      refine st tbOk 5 [2, 3] hf rfl ?_
      clear hf a; intro a hf
      refine wpList_nil ?_
      exact hK5 (s4, false) _ _ ⟨_, hs.sel [0] rfl rfl, hf.keep (ks := [2, 3]) (by kernel_rfl)⟩ hS
    replace hS := of_t hb6 hS
    replace hf := hf.castB hb6 (fun qb => [(4, .int .i64 s4), (36, .int .i64 s4), (45, .bool qb)]) (by kernel_rfl)
    refine st tbOk 5 [2, 3] hf rfl ?_
    clear hf a; intro a hf
    refine wpList_nil ?_
    exact hK5 (s4, decide (s4 < 2147483648)) _ _ ⟨_, hs.sel [0] rfl rfl, hf.keep (ks := [2, 3]) (by kernel_rfl)⟩ hS
  clear hS; intro KK1 k1 hK1 hS
  refine blk ?_
  refine lp (st := (0, 0)) (fun (s2 : Int × Int) (a : Act) (w' : World) => ∃ (F3 : SH), Sep w F R w' F3 [.srow 5 (.slice ao1 (ofStr z1).length cp1) (ofStr z1), gth2] ∧ Fr 49 [(0, strV p_s), (4, .int .i64 s2.1), (5, strV z1), (11, .slice ao1 (ofStr z1).length cp1), (12, .int .i64 (((ofStr z1).length : Nat) : Int)), (13, .int .i64 s2.2)] a) ?_ ⟨_, hs.sel [0, 1] rfl rfl, hf.keep (ks := [0, 4, 5, 11, 12, 13]) (by kernel_rfl)⟩ hS
  clear hS hf hs; clear a
  intro rec1 KK2 hK2 s2 a w3 hM hS
  obtain ⟨F3, hs, hf⟩ := hM
  refine sq ?_
  refine reg ?_
  refine st tbOk 1 [0, 4, 5, 11, 12, 13, 14] hf rfl ?_
  clear hf a; intro a hf
  refine wpList_nil ?_
  refine sq ?_
  refine cnd (b := decide (s2.2 < (((ofStr z1).length : Nat) : Int))) hf (by kernel_rfl) (fun hb1 => ?_) (fun hb1 => ?_)
  rotate_left
  · replace hS := of_f hb1 hS
    refine wp_exit ?_
    exact hK1 s2.1 _ _ ⟨_, hs.sel [1] rfl rfl, hf.keep (ks := [0, 4, 5]) (by kernel_rfl)⟩ hS
  replace hS := of_t hb1 hS
  refine wp_skip ?_
  refine sq ?_
  refine blk ?_
  refine sq ?_
  refine reg ?_
  have hT := of_gd hS; clear hS; obtain ⟨hc2, hS⟩ := hT
  refine ixR tbOk u49 i5 rfl rfl (hs.raS 0 rfl) (k := .i64) (n := s2.2) hc2 hf (by kernel_rfl) (by kernel_rfl) (by kernel_rfl) (by kernel_rfl) ?_
  clear hf; clear a; intro pb1 po1 c1 a hp1 hr1 hf
  obtain rfl : c1 = [.int .u8 (gt (ofStr z1) s2.2)] := hr1
  replace hf := hf.keep (ks := [0, 4, 5, 11, 12, 13, 15]) rfl
  refine ldC tbOk (T := 5) hp1 (LeH.refl _) 0 (.int .u8 (gt (ofStr z1) s2.2)) hf (by kernel_rfl) (by kernel_rfl) (by kernel_rfl) (by kernel_rfl) ?_
  clear hf a; intro a hf
  replace hf := hf.keep (ks := [0, 4, 5, 11, 12, 13, 16]) rfl
  have hT := of_let hS; clear hS; obtain ⟨c_1, hl1, hS⟩ := hT
  refine st tbOk 1 [0, 4, 5, 7, 11, 12, 13] (L' := [(0, strV p_s), (4, .int .i64 s2.1), (5, strV z1), (7, .int .u8 c_1), (11, .slice ao1 (ofStr z1).length cp1), (12, .int .i64 (((ofStr z1).length : Nat) : Int)), (13, .int .i64 s2.2)]) hf (by subst hl1; kernel_rfl) ?_
  clear hf a; intro a hf
  refine wpList_nil ?_
  refine sq ?_
  refine sq ?_
  refine ctj (fun (s3 : Bool) (a : Act) (w' : World) => ∃ (F4 : SH), Sep w F R w' F4 [.srow 5 (.slice ao1 (ofStr z1).length cp1) (ofStr z1), gth2] ∧ Fr 49 [(0, strV p_s), (4, .int .i64 s2.1), (5, strV z1), (7, .int .u8 c_1), (11, .slice ao1 (ofStr z1).length cp1), (12, .int .i64 (((ofStr z1).length : Nat) : Int)), (13, .int .i64 s2.2), (22, .bool s3)] a) hS ?_ ?_
  · clear hS hf hs; clear a; intro s3 a w4 hM hS
    obtain ⟨F4, hs, hf⟩ := hM
    refine cnd (b := s3) hf (by kernel_rfl) (fun hb3 => ?_) (fun hb3 => ?_)
    · replace hS := of_t hb3 hS
      refine sq ?_
      refine reg ?_
      refine st tbOk 2 [2, 3] hf rfl ?_
      clear hf a; intro a hf
      refine wpList_nil ?_
      have hr := Option.some.inj hS; subst hr
      refine wp_ret ?_
      exact ret_ok hf (vs := [.int .i64 0, .bool false]) (by kernel_rfl) ⟨_, rfl, hs.sel [] rfl rfl⟩
    replace hS := of_f hb3 hS
    refine wp_skip ?_
    refine reg ?_
    have hT := of_let hS; clear hS; obtain ⟨n_1, hl2, hS⟩ := hT
    refine st tbOk 8 [0, 4, 5, 11, 12, 13] (L' := [(0, strV p_s), (4, .int .i64 n_1), (5, strV z1), (11, .slice ao1 (ofStr z1).length cp1), (12, .int .i64 (((ofStr z1).length : Nat) : Int)), (13, .int .i64 s2.2)]) hf (by subst hl2; kernel_rfl) ?_
    clear hf a; intro a hf
    refine wpList_nil ?_
    refine reg ?_
    refine st tbOk 2 [0, 4, 5, 11, 12, 13] hf rfl ?_
    clear hf a; intro a hf
    refine wpList_nil ?_
    exact hK2 (n_1, IntKind.i64.wrap (s2.2 + 1)) _ _ ⟨_, hs.sel [0, 1] rfl rfl, hf.keep (ks := [0, 4, 5, 11, 12, 13]) (by kernel_rfl)⟩ hS
  clear hS; intro KK3 k2 hK3 hS
  refine reg ?_
  refine st tbOk 3 [0, 4, 5, 7, 11, 12, 13, 19] hf rfl ?_
  clear hf a; intro a hf
  rcases Bool.eq_false_or_eq_true (decide (c_1 < 48)) with hb2 | hb2
  · replace hS := of_t hb2 hS
    replace hf := hf.castB hb2 (fun qb => [(0, strV p_s), (4, .int .i64 s2.1), (5, strV z1), (7, .int .u8 c_1), (11, .slice ao1 (ofStr z1).length cp1), (12, .int .i64 (((ofStr z1).length : Nat) : Int)), (13, .int .i64 s2.2), (19, .bool qb)]) (by kernel_rfl)
    refine st tbOk 3 [0, 4, 5, 7, 11, 12, 13, 22] hf rfl ?_
    clear hf a; intro a hf
    refine wpList_nil ?_
    exact hK3 true _ _ ⟨_, hs.sel [0, 1] rfl rfl, hf.keep (ks := [0, 4, 5, 7, 11, 12, 13, 22]) (by kernel_rfl)⟩ hS
  replace hS := of_f hb2 hS
  replace hf := hf.castB hb2 (fun qb => [(0, strV p_s), (4, .int .i64 s2.1), (5, strV z1), (7, .int .u8 c_1), (11, .slice ao1 (ofStr z1).length cp1), (12, .int .i64 (((ofStr z1).length : Nat) : Int)), (13, .int .i64 s2.2), (19, .bool qb)]) (by kernel_rfl)
  refine st tbOk 3 [0, 4, 5, 7, 11, 12, 13, 22] hf rfl ?_
  clear hf a; intro a hf
  refine wpList_nil ?_
  exact hK3 (decide (c_1 > 57)) _ _ ⟨_, hs.sel [0, 1] rfl rfl, hf.keep (ks := [0, 4, 5, 7, 11, 12, 13, 22]) (by kernel_rfl)⟩ hS

set_option maxHeartbeats 4000000 in
theorem isa_Parse_ok {w : World} {F : SH} {p_s : List UInt8}  (hs : Sep w F (blks [gth0, gth2]) w F [gth0, gth2]) {r : (Int × Int × Int × Int × Int) × Int} (hS : isa_Parse p_s = some r) :
    Calls Tryd.prog 18 [strV p_s].toArray w (Gives (fun u w' => ∃ (F' : SH), u = .tuple #[.agg #[.int .i64 r.1.1, .int .i64 r.1.2.1, .int .i64 r.1.2.2.1, .int .i64 r.1.2.2.2.1, .int .i32 r.1.2.2.2.2], .int .i64 r.2] ∧ Sep w F (blks [gth0, gth2]) w' F' [])) := by
  generalize (blks [gth0, gth2]) = R at hs ⊢
  unfold isa_Parse at hS
  refine fn_ok (vs := [strV p_s]) Tryd.func18 rfl 87 Tryd.ntmps18 (Nat.le_of_ble_eq_true rfl) ?_
  intro a hf
  replace hf := Fr.cast (L' := [(0, strV p_s)]) hf (by kernel_rfl)
  refine sq ?_
  refine reg ?_
  refine al tbOk i24 [.int .i64 0, .int .i64 0, .int .i64 0, .int .i64 0, .int .i32 0] rfl (by kernel_rfl) hf (by kernel_rfl) (by kernel_rfl) ?_
  clear hf; clear a; intro w1 a hb hx _ hf
  replace hs := hs.newBox hb hx
  clear hb hx
  replace hf := hf.keep (ks := [0, 2]) rfl
  refine st tbOk 1 [0, 2] hf rfl ?_
  clear hf a; intro a hf
  refine wpList_nil ?_
  refine sq ?_
  refine reg ?_
  refine st tbOk 1 [2, 14] hf rfl ?_
  clear hf a; intro a hf
  have hT := of_bd hS; clear hS; obtain ⟨z1, hz1, hS⟩ := hT
  refine clV ent29 (vs := [strV p_s, .func (.func 30) #[] #[]]) (caps := []) hf (by kernel_rfl) (by kernel_rfl) (by kernel_rfl) (by kernel_rfl) (strings_FieldsFunc_Parse_1_ok (s := p_s) (hs.enter [] rfl rfl) hz1) ?_
  clear hf; clear a; intro v w2 a hT hf; obtain ⟨ao1, cp1, F1, rfl, hr⟩ := hT
  replace hs := (hs.back [] [0, 1, 2] rfl rfl rfl rfl hr).nf rfl
  clear hr
  replace hf := hf.keep (ks := [2, 15]) rfl
  refine al tbOk i53 [.slice none 0 0] rfl (by kernel_rfl) hf (by kernel_rfl) (by kernel_rfl) ?_
  clear hf; clear a; intro w3 a hb hx _ hf
  replace hs := hs.newBox hb hx
  clear hb hx
  replace hf := hf.keep (ks := [2, 4, 15]) rfl
  refine stB tbOk i53 (hs.bx 0 rfl) 0 [.slice ao1 z1.length cp1] [.slice ao1 z1.length cp1] (v := .slice ao1 z1.length cp1) rfl rfl (by kernel_rfl) (by kernel_rfl) (by kernel_rfl) (by kernel_rfl) hf (by kernel_rfl) (by kernel_rfl) (by kernel_rfl) ?_
  clear hf; clear a; intro w4 a hb hg _ hf
  replace hs := (hs.updBox 0 rfl hb hg).nf rfl
  clear hb hg
  replace hf := hf.keep (ks := [2, 4]) rfl
  refine wpList_nil ?_
  refine sq ?_
  refine sq ?_
  refine reg ?_
  refine ldC tbOk (T := 53) (hs.cbx 0 rfl) (LeH.refl _) 0 (.slice ao1 z1.length cp1) hf (by kernel_rfl) (by kernel_rfl) (by kernel_rfl) (by kernel_rfl) ?_
  clear hf a; intro a hf
  replace hf := hf.keep (ks := [2, 4, 16]) rfl
  refine st tbOk 2 [2, 4, 18] hf rfl ?_
  clear hf a; intro a hf
  refine wpList_nil ?_
  refine cnd (b := ((z1.length : Nat) : Int) == 0) hf (by kernel_rfl) (fun hb1 => ?_) (fun hb1 => ?_)
  · replace hS := of_t hb1 hS
    refine sq ?_
    refine reg ?_
    refine st tbOk 1 [2, 19] hf rfl ?_
    clear hf a; intro a hf
    refine stB tbOk i24 (hs.bx 2 rfl) 0 [.int .i64 0, .int .i64 0, .int .i64 0, .int .i64 0, .int .i32 0] [.int .i64 0, .int .i64 0, .int .i64 0, .int .i64 0, .int .i32 0] (v := .agg #[.int .i64 0, .int .i64 0, .int .i64 0, .int .i64 0, .int .i32 0]) rfl rfl (by kernel_rfl) (by kernel_rfl) (by kernel_rfl) (by kernel_rfl) hf (by kernel_rfl) (by kernel_rfl) (by kernel_rfl) ?_
    clear hf; clear a; intro w5 a hb hg _ hf
    replace hs := (hs.updBox 2 rfl hb hg).nf rfl
    clear hb hg
    replace hs := hs.sel [2, 3, 4] rfl rfl
    replace hf := hf.keep (ks := [2]) rfl
    refine st tbOk 1 [2, 3] hf rfl ?_
    clear hf a; intro a hf
    refine wpList_nil ?_
    have hr := Option.some.inj hS; subst hr
    refine wp_ret ?_
    exact ret_okC hf (vs := [.agg #[.int .i64 0, .int .i64 0, .int .i64 0, .int .i64 0, .int .i32 0], .int .i64 11]) (.cons (.cell tbOk (hs.cbx 0 rfl) (off := 0) (by kernel_rfl) (by kernel_rfl)) (.cons (.tmp (by kernel_rfl)) .nil)) ⟨_, rfl, hs.sel [] rfl rfl⟩
  replace hS := of_f hb1 hS
  refine wp_skip ?_
  refine sq ?_
  refine reg ?_
  refine st tbOk 1 [2, 4, 21] hf rfl ?_
  clear hf a; intro a hf
  have hT := of_bd hS; clear hS; obtain ⟨z2, hz2, hS⟩ := hT
  refine clV ent31 (vs := [.func (.func 32) #[] #[.pointer (some ⟨w2.heap.size, 0, none⟩)]]) (caps := []) hf (by kernel_rfl) (by kernel_rfl) (by kernel_rfl) (by kernel_rfl) (isa_find_Parse_2_ok (q_c0 := z1) (hs.lend [0, 1, 3] [] rfl rfl rfl rfl rfl) hz2) ?_
  clear hf; clear a; intro v w6 a hT hf; obtain ⟨F2, rfl, hr⟩ := hT
  replace hs := (hs.backL [0, 1, 3] [] [0, 1, 2, 3, 4] rfl rfl rfl rfl rfl rfl hr trivial).nf rfl
  clear hr
  replace hf := hf.keep (ks := [2, 4, 22]) rfl
  refine st tbOk 3 [2, 4, 23, 24] hf rfl ?_
  clear hf a; intro a hf
  refine al tbOk i56 [.int .i64 0, strV [], strV []] rfl (by kernel_rfl) hf (by kernel_rfl) (by kernel_rfl) ?_
  clear hf; clear a; intro w7 a hb hx _ hf
  replace hs := hs.newBox hb hx
  clear hb hx
  replace hf := hf.keep (ks := [2, 4, 5, 23, 24]) rfl
  refine stB tbOk i56 (hs.bx 0 rfl) 0 [.int .i64 z2.1.1, strV z2.1.2.1, strV z2.1.2.2] [.int .i64 z2.1.1, strV z2.1.2.1, strV z2.1.2.2] (v := .agg #[.int .i64 z2.1.1, strV z2.1.2.1, strV z2.1.2.2]) rfl rfl (by kernel_rfl) (by kernel_rfl) (by kernel_rfl) (by kernel_rfl) hf (by kernel_rfl) (by kernel_rfl) (by kernel_rfl) ?_
  clear hf; clear a; intro w8 a hb hg _ hf
  replace hs := (hs.updBox 0 rfl hb hg).nf rfl
  clear hb hg
  replace hf := hf.keep (ks := [2, 4, 5, 24]) rfl
  refine st tbOk 1 [2, 4, 5, 6] hf rfl ?_
  clear hf a; intro a hf
  refine wpList_nil ?_
  refine sq ?_
  refine sq ?_
  refine ctj (fun (s1 : Bool) (a : Act) (w' : World) => ∃ (F3 : SH), Sep w F R w' F3 [.box w6.heap.size 56 [.int .i64 z2.1.1, strV z2.1.2.1, strV z2.1.2.2], .box w2.heap.size 53 [.slice ao1 z1.length cp1], .row 9 tS (.slice ao1 z1.length cp1) z1, .box w.heap.size 24 [.int .i64 0, .int .i64 0, .int .i64 0, .int .i64 0, .int .i32 0], gth0, gth2] ∧ Fr 87 [(2, .pointer (some ⟨w.heap.size, 0, none⟩)), (4, .pointer (some ⟨w2.heap.size, 0, none⟩)), (5, .pointer (some ⟨w6.heap.size, 0, none⟩)), (35, .bool s1)] a) hS ?_ ?_
  rotate_left
  · clear hS; intro KK1 k1 hK1 hS
    refine reg ?_
    refine st tbOk 3 [2, 4, 5, 27] hf rfl ?_
    clear hf a; intro a hf
    rcases Bool.eq_false_or_eq_true (!z2.2) with hb2 | hb2
    · replace hS := of_t hb2 hS
      replace hf := hf.castB hb2 (fun qb => [(2, .pointer (some ⟨w.heap.size, 0, none⟩)), (4, .pointer (some ⟨w2.heap.size, 0, none⟩)), (5, .pointer (some ⟨w6.heap.size, 0, none⟩)), (27, .bool qb)]) (by kernel_rfl)
      refine st tbOk 5 [2, 4, 5, 27, 29, 32] hf rfl ?_
      clear hf a; intro a hf
      refine st tbOk 3 [2, 4, 5, 35] hf rfl ?_
      clear hf a; intro a hf
      refine wpList_nil ?_
      exact hK1 true _ _ ⟨_, hs.sel [0, 1, 2, 3, 4, 5] rfl rfl, hf.keep (ks := [2, 4, 5, 35]) (by kernel_rfl)⟩ hS
    replace hS := of_f hb2 hS
    replace hf := hf.castB hb2 (fun qb => [(2, .pointer (some ⟨w.heap.size, 0, none⟩)), (4, .pointer (some ⟨w2.heap.size, 0, none⟩)), (5, .pointer (some ⟨w6.heap.size, 0, none⟩)), (27, .bool qb)]) (by kernel_rfl)
    refine ldC tbOk (T := 53) (hs.cbx 1 rfl) (LeH.refl _) 0 (.slice ao1 z1.length cp1) hf (by kernel_rfl) (by kernel_rfl) (by kernel_rfl) (by kernel_rfl) ?_
    clear hf a; intro a hf
    replace hf := hf.keep (ks := [2, 4, 5, 27, 28]) rfl
    refine st tbOk 2 [2, 4, 5, 27, 29, 30] hf rfl ?_
    clear hf a; intro a hf
    refine ldC tbOk (T := 9) (hs.cbx 0 rfl) (LeH.refl _) 2 (strV z2.1.2.2) hf (by kernel_rfl) (by kernel_rfl) (by kernel_rfl) (by kernel_rfl) ?_
    clear hf a; intro a hf
    replace hf := hf.keep (ks := [2, 4, 5, 27, 29, 31]) rfl
    refine st tbOk 4 [2, 4, 5, 35] hf rfl ?_
    clear hf a; intro a hf
    refine wpList_nil ?_
    exact hK1 (((z1.length : Nat) : Int) != (IntKind.i64.wrap (1 + ((z2.1.2.2.length : Nat) : Int)))) _ _ ⟨_, hs.sel [0, 1, 2, 3, 4, 5] rfl rfl, hf.keep (ks := [2, 4, 5, 35]) (by kernel_rfl)⟩ hS
  clear hS hf hs; clear a; intro s1 a w9 hM hS
  obtain ⟨F3, hs, hf⟩ := hM
  refine cnd (b := s1) hf (by kernel_rfl) (fun hb3 => ?_) (fun hb3 => ?_)
  · replace hS := of_t hb3 hS
    refine sq ?_
    refine reg ?_
    refine st tbOk 1 [2, 36] hf rfl ?_
    clear hf a; intro a hf
    refine stB tbOk i24 (hs.bx 3 rfl) 0 [.int .i64 0, .int .i64 0, .int .i64 0, .int .i64 0, .int .i32 0] [.int .i64 0, .int .i64 0, .int .i64 0, .int .i64 0, .int .i32 0] (v := .agg #[.int .i64 0, .int .i64 0, .int .i64 0, .int .i64 0, .int .i32 0]) rfl rfl (by kernel_rfl) (by kernel_rfl) (by kernel_rfl) (by kernel_rfl) hf (by kernel_rfl) (by kernel_rfl) (by kernel_rfl) ?_
    clear hf; clear a; intro w10 a hb hg _ hf
    replace hs := (hs.updBox 3 rfl hb hg).nf rfl
    clear hb hg
    replace hs := hs.sel [3, 4, 5] rfl rfl
    replace hf := hf.keep (ks := [2]) rfl
    refine st tbOk 1 [2, 3] hf rfl ?_
    clear hf a; intro a hf
    refine wpList_nil ?_
    have hr := Option.some.inj hS; subst hr
    refine wp_ret ?_
    exact ret_okC hf (vs := [.agg #[.int .i64 0, .int .i64 0, .int .i64 0, .int .i64 0, .int .i32 0], .int .i64 11]) (.cons (.cell tbOk (hs.cbx 0 rfl) (off := 0) (by kernel_rfl) (by kernel_rfl)) (.cons (.tmp (by kernel_rfl)) .nil)) ⟨_, rfl, hs.sel [] rfl rfl⟩
  replace hS := of_f hb3 hS
  refine wp_skip ?_
  refine sq ?_
  refine reg ?_
  refine st tbOk 1 [2, 4, 5, 37] hf rfl ?_
  clear hf a; intro a hf
  refine ldC tbOk (T := 3) (hs.cbx 0 rfl) (LeH.refl _) 0 (.int .i64 z2.1.1) hf (by kernel_rfl) (by kernel_rfl) (by kernel_rfl) (by kernel_rfl) ?_
  clear hf a; intro a hf
  replace hf := hf.keep (ks := [2, 4, 5, 38]) rfl
  refine st tbOk 1 [2, 4, 5, 39] hf rfl ?_
  clear hf a; intro a hf
  refine al tbOk i24 [.int .i64 0, .int .i64 0, .int .i64 0, .int .i64 0, .int .i32 0] rfl (by kernel_rfl) hf (by kernel_rfl) (by kernel_rfl) ?_
  clear hf; clear a; intro w11 a hb hx _ hf
  replace hs := hs.newBox hb hx
  clear hb hx
  replace hf := hf.keep (ks := [2, 4, 5, 7, 39]) rfl
  refine stB tbOk i24 (hs.bx 0 rfl) 0 [.int .i64 z2.1.1, .int .i64 0, .int .i64 0, .int .i64 0, .int .i32 0] [.int .i64 z2.1.1, .int .i64 0, .int .i64 0, .int .i64 0, .int .i32 0] (v := .agg #[.int .i64 z2.1.1, .int .i64 0, .int .i64 0, .int .i64 0, .int .i32 0]) rfl rfl (by kernel_rfl) (by kernel_rfl) (by kernel_rfl) (by kernel_rfl) hf (by kernel_rfl) (by kernel_rfl) (by kernel_rfl) ?_
  clear hf; clear a; intro w12 a hb hg _ hf
  replace hs := (hs.updBox 0 rfl hb hg).nf rfl
  clear hb hg
  replace hf := hf.keep (ks := [2, 4, 5, 7]) rfl
  refine wpList_nil ?_
  refine sq ?_
  refine sq ?_
  refine reg ?_
  refine st tbOk 1 [2, 4, 7, 40] hf rfl ?_
  clear hf a; intro a hf
  refine ldC tbOk (T := 9) (hs.cbx 1 rfl) (LeH.refl _) 2 (strV z2.1.2.2) hf (by kernel_rfl) (by kernel_rfl) (by kernel_rfl) (by kernel_rfl) ?_
  clear hf a; intro a hf
  replace hs := hs.sel [0, 2, 3, 4, 5, 6] rfl rfl
  replace hf := hf.keep (ks := [2, 4, 7, 41]) rfl
  have hT := of_gd hS; clear hS; obtain ⟨hc1, hS⟩ := hT
  refine s2b tbOk u9 u49 u5 hs (y := z2.1.2.2) hc1 hf (by kernel_rfl) (by kernel_rfl) (by kernel_rfl) ?_
  clear hf hs; clear a; intro ao2 cp2 w13 a hs hf
  replace hf := hf.keep (ks := [2, 4, 7, 42]) rfl
  refine st tbOk 2 [2, 4, 7, 42, 43, 44] hf rfl ?_
  clear hf a; intro a hf
  refine wpList_nil ?_
  refine ctj (fun (s2 : Int × Int × Int × Int × Int) (a : Act) (w' : World) => ∃ (F4 : SH), Sep w F R w' F4 [.box w9.heap.size 24 [.int .i64 s2.1, .int .i64 s2.2.1, .int .i64 s2.2.2.1, .int .i64 s2.2.2.2.1, .int .i32 s2.2.2.2.2], .box w.heap.size 24 [.int .i64 0, .int .i64 0, .int .i64 0, .int .i64 0, .int .i32 0], gth0, gth2] ∧ Fr 87 [(2, .pointer (some ⟨w.heap.size, 0, none⟩)), (7, .pointer (some ⟨w9.heap.size, 0, none⟩))] a) hS ?_ ?_
  · clear hS hf hs; clear a; intro s2 a w26 hM hS
    obtain ⟨F4, hs, hf⟩ := hM
    refine sq ?_
    refine sq ?_
    refine reg ?_
    refine ldC tbOk (T := 24) (hs.cbx 0 rfl) (LeH.refl _) 0 (.agg #[.int .i64 s2.1, .int .i64 s2.2.1, .int .i64 s2.2.2.1, .int .i64 s2.2.2.2.1, .int .i32 s2.2.2.2.2]) hf (by kernel_rfl) (by kernel_rfl) (by kernel_rfl) (by kernel_rfl) ?_
    clear hf a; intro a hf
    replace hf := hf.keep (ks := [2, 7, 79]) rfl
    have hT := of_bd hS; clear hS; obtain ⟨z4, hz4, hS⟩ := hT
    refine clV ent22 (vs := [.agg #[.int .i64 s2.1, .int .i64 s2.2.1, .int .i64 s2.2.2.1, .int .i64 s2.2.2.2.1, .int .i32 s2.2.2.2.2]]) (caps := []) hf (by kernel_rfl) (by kernel_rfl) (by kernel_rfl) (by kernel_rfl) (isa_may_ok (i := (s2.1, s2.2.1, s2.2.2.1, s2.2.2.2.1, s2.2.2.2.2)) (hs.enter [2] rfl rfl) hz4) ?_
    clear hf; clear a; intro v w27 a hT hf; obtain ⟨F12, rfl, hr⟩ := hT
    replace hs := (hs.back [2] [0, 1, 2, 3] rfl rfl rfl rfl hr).nf rfl
    clear hr
    replace hf := hf.keep (ks := [2, 7, 80]) rfl
    refine st tbOk 3 [2, 7, 81, 82] hf rfl ?_
    clear hf a; intro a hf
    refine al tbOk i56 [.int .i64 0, strV [], strV []] rfl (by kernel_rfl) hf (by kernel_rfl) (by kernel_rfl) ?_
    clear hf; clear a; intro w28 a hb hx _ hf
    replace hs := hs.newBox hb hx
    clear hb hx
    replace hf := hf.keep (ks := [2, 7, 12, 81, 82]) rfl
    refine stB tbOk i56 (hs.bx 0 rfl) 0 [.int .i64 z4.1.1, strV z4.1.2.1, strV z4.1.2.2] [.int .i64 z4.1.1, strV z4.1.2.1, strV z4.1.2.2] (v := .agg #[.int .i64 z4.1.1, strV z4.1.2.1, strV z4.1.2.2]) rfl rfl (by kernel_rfl) (by kernel_rfl) (by kernel_rfl) (by kernel_rfl) hf (by kernel_rfl) (by kernel_rfl) (by kernel_rfl) ?_
    clear hf; clear a; intro w29 a hb hg _ hf
    replace hs := (hs.updBox 0 rfl hb hg).nf rfl
    clear hb hg
    replace hs := hs.sel [1, 2, 3, 4] rfl rfl
    replace hf := hf.keep (ks := [2, 7, 82]) rfl
    refine st tbOk 1 [2, 7, 13] hf rfl ?_
    clear hf a; intro a hf
    refine wpList_nil ?_
    refine sq ?_
    refine reg ?_
    refine st tbOk 2 [2, 7, 84] hf rfl ?_
    clear hf a; intro a hf
    refine wpList_nil ?_
    refine cnd (b := !z4.2) hf (by kernel_rfl) (fun hb9 => ?_) (fun hb9 => ?_)
    · replace hS := of_t hb9 hS
      refine sq ?_
      refine reg ?_
      refine st tbOk 1 [2, 85] hf rfl ?_
      clear hf a; intro a hf
      refine stB tbOk i24 (hs.bx 1 rfl) 0 [.int .i64 0, .int .i64 0, .int .i64 0, .int .i64 0, .int .i32 0] [.int .i64 0, .int .i64 0, .int .i64 0, .int .i64 0, .int .i32 0] (v := .agg #[.int .i64 0, .int .i64 0, .int .i64 0, .int .i64 0, .int .i32 0]) rfl rfl (by kernel_rfl) (by kernel_rfl) (by kernel_rfl) (by kernel_rfl) hf (by kernel_rfl) (by kernel_rfl) (by kernel_rfl) ?_
      clear hf; clear a; intro w30 a hb hg _ hf
      replace hs := (hs.updBox 1 rfl hb hg).nf rfl
      clear hb hg
      replace hs := hs.sel [1, 2, 3] rfl rfl
      replace hf := hf.keep (ks := [2]) rfl
      refine st tbOk 1 [2, 3] hf rfl ?_
      clear hf a; intro a hf
      refine wpList_nil ?_
      have hr := Option.some.inj hS; subst hr
      refine wp_ret ?_
      exact ret_okC hf (vs := [.agg #[.int .i64 0, .int .i64 0, .int .i64 0, .int .i64 0, .int .i32 0], .int .i64 11]) (.cons (.cell tbOk (hs.cbx 0 rfl) (off := 0) (by kernel_rfl) (by kernel_rfl)) (.cons (.tmp (by kernel_rfl)) .nil)) ⟨_, rfl, hs.sel [] rfl rfl⟩
    replace hS := of_f hb9 hS
    refine wp_skip ?_
    refine sq ?_
    refine reg ?_
    refine ldC tbOk (T := 24) (hs.cbx 0 rfl) (LeH.refl _) 0 (.agg #[.int .i64 s2.1, .int .i64 s2.2.1, .int .i64 s2.2.2.1, .int .i64 s2.2.2.2.1, .int .i32 s2.2.2.2.2]) hf (by kernel_rfl) (by kernel_rfl) (by kernel_rfl) (by kernel_rfl) ?_
    clear hf a; intro a hf
    replace hs := hs.sel [1, 2, 3] rfl rfl
    replace hf := hf.keep (ks := [2, 86]) rfl
    refine stB tbOk i24 (hs.bx 0 rfl) 0 [.int .i64 s2.1, .int .i64 s2.2.1, .int .i64 s2.2.2.1, .int .i64 s2.2.2.2.1, .int .i32 s2.2.2.2.2] [.int .i64 s2.1, .int .i64 s2.2.1, .int .i64 s2.2.2.1, .int .i64 s2.2.2.2.1, .int .i32 s2.2.2.2.2] (v := .agg #[.int .i64 s2.1, .int .i64 s2.2.1, .int .i64 s2.2.2.1, .int .i64 s2.2.2.2.1, .int .i32 s2.2.2.2.2]) rfl rfl (by kernel_rfl) (by kernel_rfl) (by kernel_rfl) (by kernel_rfl) hf (by kernel_rfl) (by kernel_rfl) (by kernel_rfl) ?_
    clear hf; clear a; intro w31 a hb hg _ hf
    replace hs := (hs.updBox 0 rfl hb hg).nf rfl
    clear hb hg
    replace hf := hf.keep (ks := [2]) rfl
    refine st tbOk 1 [2, 3] hf rfl ?_
    clear hf a; intro a hf
    refine wpList_nil ?_
    have hr := Option.some.inj hS; subst hr
    refine wp_ret ?_
    exact ret_okC hf (vs := [.agg #[.int .i64 s2.1, .int .i64 s2.2.1, .int .i64 s2.2.2.1, .int .i64 s2.2.2.2.1, .int .i32 s2.2.2.2.2], .int .i64 0]) (.cons (.cell tbOk (hs.cbx 0 rfl) (off := 0) (by kernel_rfl) (by kernel_rfl)) (.cons (.tmp (by kernel_rfl)) .nil)) ⟨_, rfl, hs.sel [] rfl rfl⟩
  clear hS; intro KK2 k2 hK2 hS
  refine blk ?_
  refine lp (st := (0, (z2.1.1, 0, 0, 0, 0))) (fun (s3 : Int × (Int × Int × Int × Int × Int)) (a : Act) (w' : World) => ∃ (F5 : SH), Sep w F R w' F5 [.box w9.heap.size 24 [.int .i64 s3.2.1, .int .i64 s3.2.2.1, .int .i64 s3.2.2.2.1, .int .i64 s3.2.2.2.2.1, .int .i32 s3.2.2.2.2.2], .srow 5 (.slice ao2 (ofStr z2.1.2.2).length cp2) (ofStr z2.1.2.2), .box w2.heap.size 53 [.slice ao1 z1.length cp1], .row 9 tS (.slice ao1 z1.length cp1) z1, .box w.heap.size 24 [.int .i64 0, .int .i64 0, .int .i64 0, .int .i64 0, .int .i32 0], gth0, gth2] ∧ Fr 87 [(2, .pointer (some ⟨w.heap.size, 0, none⟩)), (4, .pointer (some ⟨w2.heap.size, 0, none⟩)), (7, .pointer (some ⟨w9.heap.size, 0, none⟩)), (42, .slice ao2 (ofStr z2.1.2.2).length cp2), (43, .int .i64 (((ofStr z2.1.2.2).length : Nat) : Int)), (44, .int .i64 s3.1)] a) ?_ ⟨_, hs.sel [1, 0, 2, 3, 4, 5, 6] rfl rfl, hf.keep (ks := [2, 4, 7, 42, 43, 44]) (by kernel_rfl)⟩ hS
  clear hS hf hs; clear a
  intro rec1 KK3 hK3 s3 a w14 hM hS
  obtain ⟨F5, hs, hf⟩ := hM
  refine sq ?_
  refine reg ?_
  refine st tbOk 1 [2, 4, 7, 42, 43, 44, 45] hf rfl ?_
  clear hf a; intro a hf
  refine wpList_nil ?_
  refine sq ?_
  refine cnd (b := decide (s3.1 < (((ofStr z2.1.2.2).length : Nat) : Int))) hf (by kernel_rfl) (fun hb4 => ?_) (fun hb4 => ?_)
  rotate_left
  · replace hS := of_f hb4 hS
    refine wp_exit ?_
    exact hK2 (s3.2.1, s3.2.2.1, s3.2.2.2.1, s3.2.2.2.2.1, s3.2.2.2.2.2) _ _ ⟨_, hs.sel [0, 4, 5, 6] rfl rfl, hf.keep (ks := [2, 7]) (by kernel_rfl)⟩ hS
  replace hS := of_t hb4 hS
  refine wp_skip ?_
  refine sq ?_
  refine ctj (fun (s4 : Int × Int × Int × Int × Int) (a : Act) (w' : World) => ∃ (F6 : SH), Sep w F R w' F6 [.box w9.heap.size 24 [.int .i64 s4.1, .int .i64 s4.2.1, .int .i64 s4.2.2.1, .int .i64 s4.2.2.2.1, .int .i32 s4.2.2.2.2], .srow 5 (.slice ao2 (ofStr z2.1.2.2).length cp2) (ofStr z2.1.2.2), .box w2.heap.size 53 [.slice ao1 z1.length cp1], .row 9 tS (.slice ao1 z1.length cp1) z1, .box w.heap.size 24 [.int .i64 0, .int .i64 0, .int .i64 0, .int .i64 0, .int .i32 0], gth0, gth2] ∧ Fr 87 [(2, .pointer (some ⟨w.heap.size, 0, none⟩)), (4, .pointer (some ⟨w2.heap.size, 0, none⟩)), (7, .pointer (some ⟨w9.heap.size, 0, none⟩)), (42, .slice ao2 (ofStr z2.1.2.2).length cp2), (43, .int .i64 (((ofStr z2.1.2.2).length : Nat) : Int)), (44, .int .i64 s3.1)] a) hS ?_ ?_
  · clear hS hf hs; clear a; intro s4 a w25 hM hS
    obtain ⟨F6, hs, hf⟩ := hM
    refine reg ?_
    refine st tbOk 2 [2, 4, 7, 42, 43, 44] hf rfl ?_
    clear hf a; intro a hf
    refine wpList_nil ?_
    exact hK3 (IntKind.i64.wrap (s3.1 + 1), (s4.1, s4.2.1, s4.2.2.1, s4.2.2.2.1, s4.2.2.2.2)) _ _ ⟨_, hs.sel [0, 1, 2, 3, 4, 5, 6] rfl rfl, hf.keep (ks := [2, 4, 7, 42, 43, 44]) (by kernel_rfl)⟩ hS
  clear hS; intro KK4 k3 hK4 hS
  refine blk ?_
  refine sq ?_
  refine reg ?_
  refine st tbOk 1 [2, 4, 7, 42, 43, 44, 46] hf rfl ?_
  clear hf a; intro a hf
  have hT := of_gd hS; clear hS; obtain ⟨hc2, hS⟩ := hT
  refine ixR tbOk u49 i5 rfl rfl (hs.raS 1 rfl) (k := .i64) (n := s3.1) hc2 hf (by kernel_rfl) (by kernel_rfl) (by kernel_rfl) (by kernel_rfl) ?_
  clear hf; clear a; intro pb1 po1 c1 a hp1 hr1 hf
  obtain rfl : c1 = [.int .u8 (gt (ofStr z2.1.2.2) s3.1)] := hr1
  replace hf := hf.keep (ks := [2, 4, 7, 42, 43, 44, 46, 47]) rfl
  refine ldC tbOk (T := 5) hp1 (LeH.refl _) 0 (.int .u8 (gt (ofStr z2.1.2.2) s3.1)) hf (by kernel_rfl) (by kernel_rfl) (by kernel_rfl) (by kernel_rfl) ?_
  clear hf a; intro a hf
  replace hf := hf.keep (ks := [2, 4, 7, 42, 43, 44, 46, 48]) rfl
  have hT := of_let hS; clear hS; obtain ⟨f_1, hl1, hS⟩ := hT
  refine st tbOk 2 [2, 4, 7, 8, 9, 42, 43, 44] (L' := [(2, .pointer (some ⟨w.heap.size, 0, none⟩)), (4, .pointer (some ⟨w2.heap.size, 0, none⟩)), (7, .pointer (some ⟨w9.heap.size, 0, none⟩)), (8, .int .i64 s3.1), (9, .int .u8 f_1), (42, .slice ao2 (ofStr z2.1.2.2).length cp2), (43, .int .i64 (((ofStr z2.1.2.2).length : Nat) : Int)), (44, .int .i64 s3.1)]) hf (by subst hl1; kernel_rfl) ?_
  clear hf a; intro a hf
  refine wpList_nil ?_
  refine sq ?_
  refine reg ?_
  refine ldC tbOk (T := 53) (hs.cbx 2 rfl) (LeH.refl _) 0 (.slice ao1 z1.length cp1) hf (by kernel_rfl) (by kernel_rfl) (by kernel_rfl) (by kernel_rfl) ?_
  clear hf a; intro a hf
  replace hf := hf.keep (ks := [2, 4, 7, 8, 9, 42, 43, 44, 50]) rfl
  refine st tbOk 2 [2, 4, 7, 9, 42, 43, 44, 50, 52] hf rfl ?_
  clear hf a; intro a hf
  have hT := of_gd hS; clear hS; obtain ⟨hc3, hS⟩ := hT
  refine ixR tbOk u53 i9 rfl rfl (hs.raW 3 rfl) (k := .i64) (n := IntKind.i64.wrap (1 + s3.1)) hc3 hf (by kernel_rfl) (by kernel_rfl) (by kernel_rfl) (by kernel_rfl) ?_
  clear hf; clear a; intro pb2 po2 c2 a hp2 hr2 hf
  obtain rfl : c2 = [strV (gt z1 (IntKind.i64.wrap (1 + s3.1)))] := hr2
  replace hf := hf.keep (ks := [2, 4, 7, 9, 42, 43, 44, 53]) rfl
  refine ldC tbOk (T := 9) hp2 (LeH.refl _) 0 (strV (gt z1 (IntKind.i64.wrap (1 + s3.1)))) hf (by kernel_rfl) (by kernel_rfl) (by kernel_rfl) (by kernel_rfl) ?_
  clear hf a; intro a hf
  replace hf := hf.keep (ks := [2, 4, 7, 9, 42, 43, 44, 54]) rfl
  have hT := of_bd hS; clear hS; obtain ⟨z3, hz3, hS⟩ := hT
  refine clV ent33 (vs := [strV (gt z1 (IntKind.i64.wrap (1 + s3.1)))]) (caps := []) hf (by kernel_rfl) (by kernel_rfl) (by kernel_rfl) (by kernel_rfl) (isa_number_ok (p_s := gt z1 (IntKind.i64.wrap (1 + s3.1))) (hs.enter [6] rfl rfl) hz3) ?_
  clear hf; clear a; intro v w15 a hT hf; obtain ⟨F7, rfl, hr⟩ := hT
  replace hs := (hs.back [6] [0, 1, 2, 3, 4, 5, 6] rfl rfl rfl rfl hr).nf rfl
  clear hr
  replace hf := hf.keep (ks := [2, 4, 7, 9, 42, 43, 44, 55]) rfl
  refine st tbOk 5 [2, 4, 7, 9, 10, 11, 42, 43, 44] hf rfl ?_
  clear hf a; intro a hf
  refine wpList_nil ?_
  refine sq ?_
  refine sq ?_
  refine reg ?_
  refine st tbOk 2 [2, 4, 7, 9, 10, 42, 43, 44, 59] hf rfl ?_
  clear hf a; intro a hf
  refine wpList_nil ?_
  refine cnd (b := !z3.2) hf (by kernel_rfl) (fun hb5 => ?_) (fun hb5 => ?_)
  · replace hS := of_t hb5 hS
    refine sq ?_
    refine reg ?_
    refine st tbOk 1 [2, 60] hf rfl ?_
    clear hf a; intro a hf
    refine stB tbOk i24 (hs.bx 4 rfl) 0 [.int .i64 0, .int .i64 0, .int .i64 0, .int .i64 0, .int .i32 0] [.int .i64 0, .int .i64 0, .int .i64 0, .int .i64 0, .int .i32 0] (v := .agg #[.int .i64 0, .int .i64 0, .int .i64 0, .int .i64 0, .int .i32 0]) rfl rfl (by kernel_rfl) (by kernel_rfl) (by kernel_rfl) (by kernel_rfl) hf (by kernel_rfl) (by kernel_rfl) (by kernel_rfl) ?_
    clear hf; clear a; intro w16 a hb hg _ hf
    replace hs := (hs.updBox 4 rfl hb hg).nf rfl
    clear hb hg
    replace hs := hs.sel [4, 5, 6] rfl rfl
    replace hf := hf.keep (ks := [2]) rfl
    refine st tbOk 1 [2, 3] hf rfl ?_
    clear hf a; intro a hf
    refine wpList_nil ?_
    have hr := Option.some.inj hS; subst hr
    refine wp_ret ?_
    exact ret_okC hf (vs := [.agg #[.int .i64 0, .int .i64 0, .int .i64 0, .int .i64 0, .int .i32 0], .int .i64 11]) (.cons (.cell tbOk (hs.cbx 0 rfl) (off := 0) (by kernel_rfl) (by kernel_rfl)) (.cons (.tmp (by kernel_rfl)) .nil)) ⟨_, rfl, hs.sel [] rfl rfl⟩
  replace hS := of_f hb5 hS
  refine wp_skip ?_
  refine sq ?_
  refine reg ?_
  refine st tbOk 1 [2, 4, 7, 10, 42, 43, 44, 61] hf rfl ?_
  clear hf a; intro a hf
  refine wpList_nil ?_
  refine ctj (fun (s5 : Int × Int × Int × Int × Int) (a : Act) (w' : World) => ∃ (F8 : SH), Sep w F R w' F8 [.box w9.heap.size 24 [.int .i64 s5.1, .int .i64 s5.2.1, .int .i64 s5.2.2.1, .int .i64 s5.2.2.2.1, .int .i32 s5.2.2.2.2], .srow 5 (.slice ao2 (ofStr z2.1.2.2).length cp2) (ofStr z2.1.2.2), .box w2.heap.size 53 [.slice ao1 z1.length cp1], .row 9 tS (.slice ao1 z1.length cp1) z1, .box w.heap.size 24 [.int .i64 0, .int .i64 0, .int .i64 0, .int .i64 0, .int .i32 0], gth0, gth2] ∧ Fr 87 [(2, .pointer (some ⟨w.heap.size, 0, none⟩)), (4, .pointer (some ⟨w2.heap.size, 0, none⟩)), (7, .pointer (some ⟨w9.heap.size, 0, none⟩)), (42, .slice ao2 (ofStr z2.1.2.2).length cp2), (43, .int .i64 (((ofStr z2.1.2.2).length : Nat) : Int)), (44, .int .i64 s3.1)] a) hS ?_ ?_
  · clear hS hf hs; clear a; intro s5 a w24 hM hS
    obtain ⟨F8, hs, hf⟩ := hM
    exact hK4 (s5.1, s5.2.1, s5.2.2.1, s5.2.2.2.1, s5.2.2.2.2) _ _ ⟨_, hs.sel [0, 1, 2, 3, 4, 5, 6] rfl rfl, hf.keep (ks := [2, 4, 7, 42, 43, 44]) (by kernel_rfl)⟩ hS
  clear hS; intro KK5 k4 hK5 hS
  refine blk ?_
  refine sq ?_
  refine reg ?_
  refine st tbOk 2 [2, 4, 7, 10, 42, 43, 44, 61, 65] hf rfl ?_
  clear hf a; intro a hf
  refine wpList_nil ?_
  refine ctj (fun (s6 : Int × Int × Int × Int × Int) (a : Act) (w' : World) => ∃ (F9 : SH), Sep w F R w' F9 [.box w9.heap.size 24 [.int .i64 s6.1, .int .i64 s6.2.1, .int .i64 s6.2.2.1, .int .i64 s6.2.2.2.1, .int .i32 s6.2.2.2.2], .srow 5 (.slice ao2 (ofStr z2.1.2.2).length cp2) (ofStr z2.1.2.2), .box w2.heap.size 53 [.slice ao1 z1.length cp1], .row 9 tS (.slice ao1 z1.length cp1) z1, .box w.heap.size 24 [.int .i64 0, .int .i64 0, .int .i64 0, .int .i64 0, .int .i32 0], gth0, gth2] ∧ Fr 87 [(2, .pointer (some ⟨w.heap.size, 0, none⟩)), (4, .pointer (some ⟨w2.heap.size, 0, none⟩)), (7, .pointer (some ⟨w9.heap.size, 0, none⟩)), (42, .slice ao2 (ofStr z2.1.2.2).length cp2), (43, .int .i64 (((ofStr z2.1.2.2).length : Nat) : Int)), (44, .int .i64 s3.1)] a) hS ?_ ?_
  · clear hS hf hs; clear a; intro s6 a w23 hM hS
    obtain ⟨F9, hs, hf⟩ := hM
    exact hK5 (s6.1, s6.2.1, s6.2.2.1, s6.2.2.2.1, s6.2.2.2.2) _ _ ⟨_, hs.sel [0, 1, 2, 3, 4, 5, 6] rfl rfl, hf.keep (ks := [2, 4, 7, 42, 43, 44]) (by kernel_rfl)⟩ hS
  clear hS; intro KK6 k5 hK6 hS
  refine cnd (b := f_1 == 97) hf (by kernel_rfl) (fun hb6 => ?_) (fun hb6 => ?_)
  · replace hS := of_t hb6 hS
    refine reg ?_
    refine st tbOk 2 [2, 4, 7, 42, 43, 44, 67, 68] hf rfl ?_
    clear hf a; intro a hf
    refine stB tbOk i3 (hs.bx 0 rfl) 1 [.int .i64 z3.1] [.int .i64 s3.2.1, .int .i64 z3.1, .int .i64 s3.2.2.2.1, .int .i64 s3.2.2.2.2.1, .int .i32 s3.2.2.2.2.2] (v := .int .i64 z3.1) rfl rfl (by kernel_rfl) (by kernel_rfl) (by kernel_rfl) (by kernel_rfl) hf (by kernel_rfl) (by kernel_rfl) (by kernel_rfl) ?_
    clear hf; clear a; intro w17 a hb hg _ hf
    replace hs := (hs.updBox 0 rfl hb hg).nf rfl
    clear hb hg
    replace hf := hf.keep (ks := [2, 4, 7, 42, 43, 44]) rfl
    refine wpList_nil ?_
    exact hK6 (s3.2.1, z3.1, s3.2.2.2.1, s3.2.2.2.2.1, s3.2.2.2.2.2) _ _ ⟨_, hs.sel [0, 1, 2, 3, 4, 5, 6] rfl rfl, hf.keep (ks := [2, 4, 7, 42, 43, 44]) (by kernel_rfl)⟩ hS
  replace hS := of_f hb6 hS
  refine sq ?_
  refine reg ?_
  refine st tbOk 2 [2, 4, 7, 10, 42, 43, 44, 61, 69] hf rfl ?_
  clear hf a; intro a hf
  refine wpList_nil ?_
  refine ctj (fun (s7 : Int × Int × Int × Int × Int) (a : Act) (w' : World) => ∃ (F10 : SH), Sep w F R w' F10 [.box w9.heap.size 24 [.int .i64 s7.1, .int .i64 s7.2.1, .int .i64 s7.2.2.1, .int .i64 s7.2.2.2.1, .int .i32 s7.2.2.2.2], .srow 5 (.slice ao2 (ofStr z2.1.2.2).length cp2) (ofStr z2.1.2.2), .box w2.heap.size 53 [.slice ao1 z1.length cp1], .row 9 tS (.slice ao1 z1.length cp1) z1, .box w.heap.size 24 [.int .i64 0, .int .i64 0, .int .i64 0, .int .i64 0, .int .i32 0], gth0, gth2] ∧ Fr 87 [(2, .pointer (some ⟨w.heap.size, 0, none⟩)), (4, .pointer (some ⟨w2.heap.size, 0, none⟩)), (7, .pointer (some ⟨w9.heap.size, 0, none⟩)), (42, .slice ao2 (ofStr z2.1.2.2).length cp2), (43, .int .i64 (((ofStr z2.1.2.2).length : Nat) : Int)), (44, .int .i64 s3.1)] a) hS ?_ ?_
  · clear hS hf hs; clear a; intro s7 a w22 hM hS
    obtain ⟨F10, hs, hf⟩ := hM
    exact hK6 (s7.1, s7.2.1, s7.2.2.1, s7.2.2.2.1, s7.2.2.2.2) _ _ ⟨_, hs.sel [0, 1, 2, 3, 4, 5, 6] rfl rfl, hf.keep (ks := [2, 4, 7, 42, 43, 44]) (by kernel_rfl)⟩ hS
  clear hS; intro KK7 k6 hK7 hS
  refine cnd (b := f_1 == 98) hf (by kernel_rfl) (fun hb7 => ?_) (fun hb7 => ?_)
  · replace hS := of_t hb7 hS
    refine reg ?_
    refine st tbOk 2 [2, 4, 7, 42, 43, 44, 71, 72] hf rfl ?_
    clear hf a; intro a hf
    refine stB tbOk i3 (hs.bx 0 rfl) 2 [.int .i64 z3.1] [.int .i64 s3.2.1, .int .i64 s3.2.2.1, .int .i64 z3.1, .int .i64 s3.2.2.2.2.1, .int .i32 s3.2.2.2.2.2] (v := .int .i64 z3.1) rfl rfl (by kernel_rfl) (by kernel_rfl) (by kernel_rfl) (by kernel_rfl) hf (by kernel_rfl) (by kernel_rfl) (by kernel_rfl) ?_
    clear hf; clear a; intro w18 a hb hg _ hf
    replace hs := (hs.updBox 0 rfl hb hg).nf rfl
    clear hb hg
    replace hf := hf.keep (ks := [2, 4, 7, 42, 43, 44]) rfl
    refine wpList_nil ?_
    exact hK7 (s3.2.1, s3.2.2.1, z3.1, s3.2.2.2.2.1, s3.2.2.2.2.2) _ _ ⟨_, hs.sel [0, 1, 2, 3, 4, 5, 6] rfl rfl, hf.keep (ks := [2, 4, 7, 42, 43, 44]) (by kernel_rfl)⟩ hS
  replace hS := of_f hb7 hS
  refine sq ?_
  refine reg ?_
  refine st tbOk 2 [2, 4, 7, 10, 42, 43, 44, 73] hf rfl ?_
  clear hf a; intro a hf
  refine wpList_nil ?_
  refine ctj (fun (s8 : Int × Int × Int × Int × Int) (a : Act) (w' : World) => ∃ (F11 : SH), Sep w F R w' F11 [.box w9.heap.size 24 [.int .i64 s8.1, .int .i64 s8.2.1, .int .i64 s8.2.2.1, .int .i64 s8.2.2.2.1, .int .i32 s8.2.2.2.2], .srow 5 (.slice ao2 (ofStr z2.1.2.2).length cp2) (ofStr z2.1.2.2), .box w2.heap.size 53 [.slice ao1 z1.length cp1], .row 9 tS (.slice ao1 z1.length cp1) z1, .box w.heap.size 24 [.int .i64 0, .int .i64 0, .int .i64 0, .int .i64 0, .int .i32 0], gth0, gth2] ∧ Fr 87 [(2, .pointer (some ⟨w.heap.size, 0, none⟩)), (4, .pointer (some ⟨w2.heap.size, 0, none⟩)), (7, .pointer (some ⟨w9.heap.size, 0, none⟩)), (42, .slice ao2 (ofStr z2.1.2.2).length cp2), (43, .int .i64 (((ofStr z2.1.2.2).length : Nat) : Int)), (44, .int .i64 s3.1)] a) hS ?_ ?_
  · clear hS hf hs; clear a; intro s8 a w21 hM hS
    obtain ⟨F11, hs, hf⟩ := hM
    exact hK7 (s8.1, s8.2.1, s8.2.2.1, s8.2.2.2.1, s8.2.2.2.2) _ _ ⟨_, hs.sel [0, 1, 2, 3, 4, 5, 6] rfl rfl, hf.keep (ks := [2, 4, 7, 42, 43, 44]) (by kernel_rfl)⟩ hS
  clear hS; intro KK8 k7 hK8 hS
  refine cnd (b := f_1 == 99) hf (by kernel_rfl) (fun hb8 => ?_) (fun hb8 => ?_)
  · replace hS := of_t hb8 hS
    refine reg ?_
    refine st tbOk 2 [2, 4, 7, 42, 43, 44, 75, 76] hf rfl ?_
    clear hf a; intro a hf
    refine stB tbOk i3 (hs.bx 0 rfl) 3 [.int .i64 z3.1] [.int .i64 s3.2.1, .int .i64 s3.2.2.1, .int .i64 s3.2.2.2.1, .int .i64 z3.1, .int .i32 s3.2.2.2.2.2] (v := .int .i64 z3.1) rfl rfl (by kernel_rfl) (by kernel_rfl) (by kernel_rfl) (by kernel_rfl) hf (by kernel_rfl) (by kernel_rfl) (by kernel_rfl) ?_
    clear hf; clear a; intro w19 a hb hg _ hf
    replace hs := (hs.updBox 0 rfl hb hg).nf rfl
    clear hb hg
    replace hf := hf.keep (ks := [2, 4, 7, 42, 43, 44]) rfl
    refine wpList_nil ?_
    exact hK8 (s3.2.1, s3.2.2.1, s3.2.2.2.1, z3.1, s3.2.2.2.2.2) _ _ ⟨_, hs.sel [0, 1, 2, 3, 4, 5, 6] rfl rfl, hf.keep (ks := [2, 4, 7, 42, 43, 44]) (by kernel_rfl)⟩ hS
  replace hS := of_f hb8 hS
  refine reg ?_
  refine st tbOk 3 [2, 4, 7, 42, 43, 44, 63, 64] hf rfl ?_
  clear hf a; intro a hf
  refine stB tbOk i21 (hs.bx 0 rfl) 4 [.int .i32 (IntKind.i32.wrap z3.1)] [.int .i64 s3.2.1, .int .i64 s3.2.2.1, .int .i64 s3.2.2.2.1, .int .i64 s3.2.2.2.2.1, .int .i32 (IntKind.i32.wrap z3.1)] (v := .int .i32 (IntKind.i32.wrap z3.1)) rfl rfl (by kernel_rfl) (by kernel_rfl) (by kernel_rfl) (by kernel_rfl) hf (by kernel_rfl) (by kernel_rfl) (by kernel_rfl) ?_
  clear hf; clear a; intro w20 a hb hg _ hf
  replace hs := (hs.updBox 0 rfl hb hg).nf rfl
  clear hb hg
  replace hf := hf.keep (ks := [2, 4, 7, 42, 43, 44]) rfl
  refine wpList_nil ?_
  exact hK8 (s3.2.1, s3.2.2.1, s3.2.2.2.1, s3.2.2.2.2.1, IntKind.i32.wrap z3.1) _ _ ⟨_, hs.sel [0, 1, 2, 3, 4, 5, 6] rfl rfl, hf.keep (ks := [2, 4, 7, 42, 43, 44]) (by kernel_rfl)⟩ hS

theorem strings_Split_ok {w : World} {F : SH} {s sep : List UInt8} (hs : Sep w F (blks [gth1]) w F [gth1]) {r : List (List UInt8)} (hS : strings_Split s sep = some r) :
    Calls Tryd.prog 36 [strV s, strV sep].toArray w (Gives (fun u w' => ∃ (ao1 : Option Addr) (cp1 : Nat) (F' : SH), u = .slice ao1 r.length cp1 ∧ Sep w F (blks [gth1]) w' F' [.row 9 tS (.slice ao1 r.length cp1) r])) := by
  unfold strings_Split at hS
  split at hS
  · rename_i c
    obtain ⟨h1, hS⟩ := of_gd hS
    have hr := Option.some.inj hS; subst hr
    obtain ⟨m, hm⟩ := num_cell hs.le (hs.ro 0 rfl)
    refine (Tryd.strings_Split ⟨s.toArray⟩ ⟨#[c]⟩ m w (by simpa [ByteArray.size] using h1) hm (Nat.le_refl 1)).mono ?_
    rintro e w' ⟨rfl, rfl⟩
    exact split_end hs s c 9 h1
  · cases hS

theorem strings_Trim_ok {w : World} {F : SH} {s cs : List UInt8} (hs : Sep w F (blks []) w F []) {r : List UInt8} (hS : strings_Trim s cs = some r) :
    Calls Tryd.prog 37 [strV s, strV cs].toArray w (Gives (fun u w' => ∃ (F' : SH), u = strV r ∧ Sep w F (blks []) w' F' [])) := by
  unfold strings_Trim at hS
  split at hS
  · rename_i c
    obtain ⟨⟨h1, h2⟩, hS⟩ := of_gd hS
    have hr := Option.some.inj hS; subst hr
    refine (Tryd.strings_Trim_one ⟨s.toArray⟩ c h2 w (by simpa [ByteArray.size] using h1)).mono ?_
    rintro e w' ⟨rfl, rfl | rfl⟩
    · exact ⟨_, rfl, F, rfl, hs⟩
    · exact ⟨_, rfl, F, rfl, hs.ext ⟨rfl, rfl, rfl, Nat.le_refl _, fun _ _ => rfl⟩⟩
  · cases hS

set_option maxHeartbeats 4000000 in
theorem octets_width_ok {w : World} {F : SH} {n : Int}  (hs : Sep w F (blks []) w F []) {r : Bool} (hS : octets_width n = some r) :
    Calls Tryd.prog 64 [.int .i64 n].toArray w (Gives (fun u w' => ∃ (F' : SH), u = .bool r ∧ Sep w F (blks []) w' F' [])) := by
  generalize (blks []) = R at hs ⊢
  unfold octets_width at hS
  refine fn_ok (vs := [.int .i64 n]) Tryd.func64 rfl 17 Tryd.ntmps64 (Nat.le_of_ble_eq_true rfl) ?_
  intro a hf
  replace hf := Fr.cast (L' := [(0, .int .i64 n)]) hf (by kernel_rfl)
  refine sq ?_
  refine reg ?_
  refine st tbOk 1 [0] hf rfl ?_
  clear hf a; intro a hf
  refine wpList_nil ?_
  refine sq ?_
  refine ctj (fun (s1 : Bool) (a : Act) (w' : World) => ∃ (F1 : SH), Sep w F R w' F1 [] ∧ Fr 17 [(2, .bool s1)] a) hS ?_ ?_
  · clear hS hf hs; clear a; intro s1 a w1 hM hS
    obtain ⟨F1, hs, hf⟩ := hM
    have hr := Option.some.inj hS; subst hr
    refine wp_ret ?_
    exact ret_ok hf (vs := [.bool s1]) (by kernel_rfl) ⟨_, rfl, hs.sel [] rfl rfl⟩
  clear hS; intro KK1 k1 hK1 hS
  refine reg ?_
  refine st tbOk 3 [0, 5] hf rfl ?_
  clear hf a; intro a hf
  rcases Bool.eq_false_or_eq_true (n == 1) with hb1 | hb1
  · replace hS := of_t hb1 hS
    replace hf := hf.castB hb1 (fun qb => [(0, .int .i64 n), (5, .bool qb)]) (by kernel_rfl)
    refine st tbOk 5 [0, 9, 10] hf rfl ?_
    clear hf a; intro a hf
    refine st tbOk 5 [13, 15] hf rfl ?_
    clear hf a; intro a hf
    refine st tbOk 2 [2] hf rfl ?_
    clear hf a; intro a hf
    refine wpList_nil ?_
    exact hK1 true _ _ ⟨_, hs.sel [] rfl rfl, hf.keep (ks := [2]) (by kernel_rfl)⟩ hS
  replace hS := of_f hb1 hS
  replace hf := hf.castB hb1 (fun qb => [(0, .int .i64 n), (5, .bool qb)]) (by kernel_rfl)
  refine st tbOk 4 [0, 9] hf rfl ?_
  clear hf a; intro a hf
  rcases Bool.eq_false_or_eq_true (n == 2) with hb2 | hb2
  · replace hS := of_t hb2 hS
    replace hf := hf.castB hb2 (fun qb => [(0, .int .i64 n), (9, .bool qb)]) (by kernel_rfl)
    refine st tbOk 5 [13, 14] hf rfl ?_
    clear hf a; intro a hf
    refine st tbOk 3 [2] hf rfl ?_
    clear hf a; intro a hf
    refine wpList_nil ?_
    exact hK1 true _ _ ⟨_, hs.sel [] rfl rfl, hf.keep (ks := [2]) (by kernel_rfl)⟩ hS
  replace hS := of_f hb2 hS
  replace hf := hf.castB hb2 (fun qb => [(0, .int .i64 n), (9, .bool qb)]) (by kernel_rfl)
  refine st tbOk 4 [0, 13] hf rfl ?_
  clear hf a; intro a hf
  rcases Bool.eq_false_or_eq_true (n == 4) with hb3 | hb3
  · replace hS := of_t hb3 hS
    replace hf := hf.castB hb3 (fun qb => [(0, .int .i64 n), (13, .bool qb)]) (by kernel_rfl)
    refine st tbOk 4 [2] hf rfl ?_
    clear hf a; intro a hf
    refine wpList_nil ?_
    exact hK1 true _ _ ⟨_, hs.sel [] rfl rfl, hf.keep (ks := [2]) (by kernel_rfl)⟩ hS
  replace hS := of_f hb3 hS
  replace hf := hf.castB hb3 (fun qb => [(0, .int .i64 n), (13, .bool qb)]) (by kernel_rfl)
  refine st tbOk 4 [2] hf rfl ?_
  clear hf a; intro a hf
  refine wpList_nil ?_
  exact hK1 (n == 8) _ _ ⟨_, hs.sel [] rfl rfl, hf.keep (ks := [2]) (by kernel_rfl)⟩ hS

set_option maxHeartbeats 4000000 in
theorem octets_has_ok {w : World} {F : SH} {p_many : Int} {p_at : Int} {size : Int}  (hs : Sep w F (blks []) w F []) {r : Bool} (hS : octets_has p_many p_at size = some r) :
    Calls Tryd.prog 65 [.int .i64 p_many, .int .u64 p_at, .int .u64 size].toArray w (Gives (fun u w' => ∃ (F' : SH), u = .bool r ∧ Sep w F (blks []) w' F' [])) := by
  generalize (blks []) = R at hs ⊢
  unfold octets_has at hS
  refine fn_ok (vs := [.int .i64 p_many, .int .u64 p_at, .int .u64 size]) Tryd.func65 rfl 20 Tryd.ntmps65 (Nat.le_of_ble_eq_true rfl) ?_
  intro a hf
  replace hf := Fr.cast (L' := [(0, .int .i64 p_many), (1, .int .u64 p_at), (2, .int .u64 size)]) hf (by kernel_rfl)
  refine sq ?_
  refine reg ?_
  refine st tbOk 1 [0, 1, 2] hf rfl ?_
  clear hf a; intro a hf
  refine wpList_nil ?_
  refine sq ?_
  refine reg ?_
  have hT := of_let hS; clear hS; obtain ⟨all_1, hl1, hS⟩ := hT
  refine st tbOk 3 [1, 2, 7] (L' := [(1, .int .u64 p_at), (2, .int .u64 size), (7, .int .u64 all_1)]) hf (by subst hl1; kernel_rfl) ?_
  clear hf a; intro a hf
  refine wpList_nil ?_
  refine sq ?_
  refine ctj (fun (s1 : Bool) (a : Act) (w' : World) => ∃ (F1 : SH), Sep w F R w' F1 [] ∧ Fr 20 [(6, .bool s1)] a) hS ?_ ?_
  · clear hS hf hs; clear a; intro s1 a w1 hM hS
    obtain ⟨F1, hs, hf⟩ := hM
    have hr := Option.some.inj hS; subst hr
    refine wp_ret ?_
    exact ret_ok hf (vs := [.bool s1]) (by kernel_rfl) ⟨_, rfl, hs.sel [] rfl rfl⟩
  clear hS; intro KK1 k1 hK1 hS
  refine reg ?_
  refine st tbOk 4 [1, 2, 7, 13] hf rfl ?_
  clear hf a; intro a hf
  rcases Bool.eq_false_or_eq_true (decide (p_at ≤ all_1)) with hb1 | hb1
  rotate_left
  · replace hS := of_f hb1 hS
    replace hf := hf.castB hb1 (fun qb => [(1, .int .u64 p_at), (2, .int .u64 size), (7, .int .u64 all_1), (13, .bool qb)]) (by kernel_rfl)
    refine st tbOk 5 [13, 18] hf rfl ?_
    clear hf a; intro a hf
    refine st tbOk 2 [6] hf rfl ?_
    clear hf a; intro a hf
    refine wpList_nil ?_
    exact hK1 false _ _ ⟨_, hs.sel [] rfl rfl, hf.keep (ks := [6]) (by kernel_rfl)⟩ hS
  replace hS := of_t hb1 hS
  replace hf := hf.castB hb1 (fun qb => [(1, .int .u64 p_at), (2, .int .u64 size), (7, .int .u64 all_1), (13, .bool qb)]) (by kernel_rfl)
  refine st tbOk 5 [13, 18] hf rfl ?_
  clear hf a; intro a hf
  refine st tbOk 2 [6] hf rfl ?_
  clear hf a; intro a hf
  refine wpList_nil ?_
  exact hK1 (decide (size ≤ (IntKind.u64.wrap (all_1 - p_at)))) _ _ ⟨_, hs.sel [] rfl rfl, hf.keep (ks := [6]) (by kernel_rfl)⟩ hS

set_option maxHeartbeats 4000000 in
theorem octets_fits_ok {w : World} {F : SH} {b : List Int} {p_at : Int} {n : Int} {ao1 : Option Addr} {cp1 : Nat} (hs : Sep w F (blks [.ro (tI .u8) (.slice ao1 b.length cp1) b]) w F [.ro (tI .u8) (.slice ao1 b.length cp1) b]) {r : Int} (hS : octets_fits b p_at n = some r) :
    Calls Tryd.prog 53 [.slice ao1 b.length cp1, .int .u64 p_at, .int .i64 n].toArray w (Gives (fun u w' => ∃ (F' : SH), u = .int .i64 r ∧ Sep w F (blks [.ro (tI .u8) (.slice ao1 b.length cp1) b]) w' F' [])) := by
  generalize (blks [.ro (tI .u8) (.slice ao1 b.length cp1) b]) = R at hs ⊢
  unfold octets_fits at hS
  refine fn_ok (vs := [.slice ao1 b.length cp1, .int .u64 p_at, .int .i64 n]) Tryd.func53 rfl 19 Tryd.ntmps53 (Nat.le_of_ble_eq_true rfl) ?_
  intro a hf
  replace hf := Fr.cast (L' := [(0, .slice ao1 b.length cp1), (1, .int .u64 p_at), (2, .int .i64 n)]) hf (by kernel_rfl)
  refine sq ?_
  refine reg ?_
  refine st tbOk 1 [0, 1, 2] hf rfl ?_
  clear hf a; intro a hf
  refine wpList_nil ?_
  refine sq ?_
  refine blk ?_
  refine sq ?_
  refine reg ?_
  refine st tbOk 1 [0, 1, 2, 8] hf rfl ?_
  clear hf a; intro a hf
  have hT := of_bd hS; clear hS; obtain ⟨z1, hz1, hS⟩ := hT
  refine clV ent64 (vs := [.int .i64 n]) (caps := []) hf (by kernel_rfl) (by kernel_rfl) (by kernel_rfl) (by kernel_rfl) (octets_width_ok (n := n) (hs.enter [] rfl rfl) hz1) ?_
  clear hf; clear a; intro v w1 a hT hf; obtain ⟨F1, rfl, hr⟩ := hT
  replace hs := (hs.back [] [0] rfl rfl rfl rfl hr).nf rfl
  clear hr
  replace hf := hf.keep (ks := [0, 1, 2, 9]) rfl
  refine st tbOk 2 [0, 1, 2, 7] hf rfl ?_
  clear hf a; intro a hf
  refine wpList_nil ?_
  refine cnd (b := !z1) hf (by kernel_rfl) (fun hb1 => ?_) (fun hb1 => ?_)
  · replace hS := of_t hb1 hS
    refine sq ?_
    refine reg ?_
    refine st tbOk 1 [6] hf rfl ?_
    clear hf a; intro a hf
    refine wpList_nil ?_
    have hr := Option.some.inj hS; subst hr
    refine wp_ret ?_
    exact ret_ok hf (vs := [.int .i64 1]) (by kernel_rfl) ⟨_, rfl, hs.sel [] rfl rfl⟩
  replace hS := of_f hb1 hS
  refine sq ?_
  refine reg ?_
  refine st tbOk 5 [13, 14, 16] hf rfl ?_
  clear hf a; intro a hf
  have hT := of_bd hS; clear hS; obtain ⟨z2, hz2, hS⟩ := hT
  refine clV ent65 (vs := [.int .i64 ((b.length : Nat) : Int), .int .u64 p_at, .int .u64 (IntKind.u64.wrap n)]) (caps := []) hf (by kernel_rfl) (by kernel_rfl) (by kernel_rfl) (by kernel_rfl) (octets_has_ok (p_many := ((b.length : Nat) : Int)) (p_at := p_at) (size := IntKind.u64.wrap n) (hs.enter [] rfl rfl) hz2) ?_
  clear hf; clear a; intro v w2 a hT hf; obtain ⟨F2, rfl, hr⟩ := hT
  replace hs := (hs.back [] [0] rfl rfl rfl rfl hr).nf rfl
  clear hr
  replace hs := hs.sel [] rfl rfl
  replace hf := hf.keep (ks := [17]) rfl
  refine st tbOk 2 [11] hf rfl ?_
  clear hf a; intro a hf
  refine wpList_nil ?_
  refine cnd (b := !z2) hf (by kernel_rfl) (fun hb2 => ?_) (fun hb2 => ?_)
  · replace hS := of_t hb2 hS
    refine sq ?_
    refine reg ?_
    refine st tbOk 1 [6] hf rfl ?_
    clear hf a; intro a hf
    refine wpList_nil ?_
    have hr := Option.some.inj hS; subst hr
    refine wp_ret ?_
    exact ret_ok hf (vs := [.int .i64 10]) (by kernel_rfl) ⟨_, rfl, hs.sel [] rfl rfl⟩
  replace hS := of_f hb2 hS
  refine wp_skip ?_
  refine sq ?_
  refine reg ?_
  refine st tbOk 1 [6] hf rfl ?_
  clear hf a; intro a hf
  refine wpList_nil ?_
  have hr := Option.some.inj hS; subst hr
  refine wp_ret ?_
  exact ret_ok hf (vs := [.int .i64 0]) (by kernel_rfl) ⟨_, rfl, hs.sel [] rfl rfl⟩

theorem slices_Clone_byte_byte_ok {w : World} {F : SH} {s : List Int} {ao : Option Addr} {cp : Nat} (hs : Sep w F (blks [.ro (tI .u8) (.slice ao s.length cp) s]) w F [.ro (tI .u8) (.slice ao s.length cp) s]) {r : List Int} (hS : slices_Clone_byte_byte s = some r) :
    Calls Tryd.prog 54 [.slice ao s.length cp].toArray w (Gives (fun u w' => ∃ (ao1 : Option Addr) (cp1 : Nat) (F' : SH), u = .slice ao1 r.length cp1 ∧ Sep w F (blks [.ro (tI .u8) (.slice ao s.length cp) s]) w' F' [.row 5 (tI .u8) (.slice ao1 r.length cp1) r])) := by
  generalize blks [.ro (tI .u8) (.slice ao s.length cp) s] = R at hs ⊢
  unfold slices_Clone_byte_byte at hS
  obtain ⟨hc1, hS⟩ := of_gd hS
  have hr := Option.some.inj hS; subst hr
  refine fn_ok (vs := [.slice ao s.length cp]) Tryd.func54 rfl 8 Tryd.ntmps54 (Nat.le_of_ble_eq_true rfl) ?_
  intro a hf
  replace hf := Fr.cast (L' := [(0, .slice ao s.length cp)]) hf (by kernel_rfl)
  refine sq ?_
  refine reg ?_
  refine st tbOk 1 [0] (L' := [(0, .slice ao s.length cp)]) hf (by kernel_rfl) ?_
  clear hf; clear a; intro a hf
  refine wpList_nil ?_
  refine sq ?_
  refine sq ?_
  refine reg ?_
  refine st tbOk 1 [0, 3] (L' := [(0, .slice ao s.length cp), (3, .slice ao s.length cp)]) hf (by kernel_rfl) ?_
  clear hf; clear a; intro a hf
  refine eqnil tbOk u49 (ao := ao) (n := s.length) (c := cp) hf (by kernel_rfl) (by kernel_rfl) (by kernel_rfl) ?_
  clear hf; clear a; intro a hf
  refine wpList_nil ?_
  refine cnd (b := ao.isNone) hf (by kernel_rfl) (fun hb => ?_) (fun hb => ?_)
  · have hao : ao = none := by simpa using hb
    subst hao
    have hnil := (hs.ro 0 rfl).none_nil (Nat.le_of_ble_eq_true rfl)
    subst hnil
    refine sq ?_
    refine reg ?_
    refine st tbOk 1 [2] (L' := [(2, .slice none 0 0)]) hf (by kernel_rfl) ?_
    clear hf; clear a; intro a hf
    refine wpList_nil ?_
    refine wp_ret ?_
    replace hs := hs.addNil 5 (tI .u8)
    exact ret_ok hf (vs := [.slice none 0 0]) (by kernel_rfl) ⟨none, 0, _, rfl, hs.sel [0] rfl rfl⟩
  · refine wp_skip ?_
    refine sq ?_
    refine reg ?_
    refine bsR tbOk u49 i5 rfl (t := (tI .u8)) (vs := []) (cells := #[]) ([] : List Int) hs.le hf (by kernel_rfl) (by kernel_rfl) (by kernel_rfl) rfl (by kernel_rfl) rfl rfl ?_
    clear hf; clear a; intro w1 a ho hx hf
    replace hs := hs.newRow ho hx
    clear ho hx
    refine st tbOk 1 [5, 6] (L' := [(5, .slice (some ⟨w.heap.size, 0, none⟩) ([] : List Int).length ([] : List Int).length), (6, .slice ao s.length cp)]) hf (by kernel_rfl) ?_
    clear hf; clear a; intro a hf
    refine apR tbOk u49 i5 rfl rfl rfl rfl hs.le (hs.own 0 rfl) (hs.raR 1 rfl) (by simpa using hc1) hf (by kernel_rfl) (by kernel_rfl) (by kernel_rfl) (by kernel_rfl) ?_
    clear hf; clear a; intro ao2 cp2 w2 a ho hg hl hf
    replace hs := hs.updRow 0 rfl ho hg hl
    clear ho hg hl
    refine st tbOk 1 [2] (L' := [(2, .slice ao2 s.length cp2)]) hf (by kernel_rfl) ?_
    clear hf; clear a; intro a hf
    refine wpList_nil ?_
    refine wp_ret ?_
    exact ret_ok hf (vs := [.slice ao2 s.length cp2]) (by kernel_rfl) ⟨ao2, cp2, _, rfl, hs.sel [0] rfl rfl⟩

set_option maxHeartbeats 4000000 in
theorem octets_Set_ok {w : World} {F : SH} {b : List Int} {p_at : Int} {n : Int} {p_x : Int} {ao1 : Option Addr} {cp1 : Nat} (hs : Sep w F (blks [.ro (tI .u8) (.slice ao1 b.length cp1) b]) w F [.ro (tI .u8) (.slice ao1 b.length cp1) b]) {r : (List Int) × Int} (hS : octets_Set b p_at n p_x = some r) :
    Calls Tryd.prog 38 [.slice ao1 b.length cp1, .int .u64 p_at, .int .i64 n, .int .u64 p_x].toArray w (Gives (fun u w' => ∃ (ao5 : Option Addr) (cp5 : Nat) (F' : SH), u = .tuple #[.slice ao5 r.1.length cp5, .int .i64 r.2] ∧ Sep w F (blks [.ro (tI .u8) (.slice ao1 b.length cp1) b]) w' F' [.row 5 (tI .u8) (.slice ao5 r.1.length cp5) r.1])) := by
  generalize (blks [.ro (tI .u8) (.slice ao1 b.length cp1) b]) = R at hs ⊢
  unfold octets_Set at hS
  refine fn_ok (vs := [.slice ao1 b.length cp1, .int .u64 p_at, .int .i64 n, .int .u64 p_x]) Tryd.func38 rfl 40 Tryd.ntmps38 (Nat.le_of_ble_eq_true rfl) ?_
  intro a hf
  replace hf := Fr.cast (L' := [(0, .slice ao1 b.length cp1), (1, .int .u64 p_at), (2, .int .i64 n), (3, .int .u64 p_x)]) hf (by kernel_rfl)
  refine sq ?_
  refine reg ?_
  refine st tbOk 2 [0, 1, 2, 3] hf rfl ?_
  clear hf a; intro a hf
  refine wpList_nil ?_
  refine sq ?_
  refine sq ?_
  refine reg ?_
  refine st tbOk 3 [0, 1, 2, 3, 13, 14, 15] hf rfl ?_
  clear hf a; intro a hf
  have hT := of_bd hS; clear hS; obtain ⟨z1, hz1, hS⟩ := hT
  refine clV ent53 (vs := [.slice ao1 b.length cp1, .int .u64 p_at, .int .i64 n]) (caps := []) hf (by kernel_rfl) (by kernel_rfl) (by kernel_rfl) (by kernel_rfl) (octets_fits_ok (b := b) (p_at := p_at) (n := n) (hs.enter [0] rfl rfl) hz1) ?_
  clear hf; clear a; intro v w1 a hT hf; obtain ⟨F1, rfl, hr⟩ := hT
  replace hs := (hs.back [0] [0] rfl rfl rfl rfl hr).nf rfl
  clear hr
  replace hf := hf.keep (ks := [0, 1, 2, 3, 16]) rfl
  refine st tbOk 1 [0, 1, 2, 3, 10] hf rfl ?_
  clear hf a; intro a hf
  refine wpList_nil ?_
  refine sq ?_
  refine reg ?_
  refine st tbOk 2 [0, 1, 2, 3, 10, 18] hf rfl ?_
  clear hf a; intro a hf
  refine wpList_nil ?_
  refine cnd (b := z1 != 0) hf (by kernel_rfl) (fun hb1 => ?_) (fun hb1 => ?_)
  · replace hS := of_t hb1 hS
    refine sq ?_
    refine reg ?_
    refine st tbOk 3 [8, 9] hf rfl ?_
    clear hf a; intro a hf
    refine wpList_nil ?_
    have hr := Option.some.inj hS; subst hr
    refine wp_ret ?_
    replace hs := hs.addNil 5 (tI .u8)
    exact ret_ok hf (vs := [.slice none 0 0, .int .i64 z1]) (by kernel_rfl) ⟨none, 0, _, rfl, hs.sel [0] rfl rfl⟩
  replace hS := of_f hb1 hS
  refine wp_skip ?_
  refine sq ?_
  refine reg ?_
  refine st tbOk 1 [1, 2, 3, 20] hf rfl ?_
  clear hf a; intro a hf
  have hT := of_bd hS; clear hS; obtain ⟨z2, hz2, hS⟩ := hT
  refine clV ent54 (vs := [.slice ao1 b.length cp1]) (caps := []) hf (by kernel_rfl) (by kernel_rfl) (by kernel_rfl) (by kernel_rfl) (slices_Clone_byte_byte_ok (s := b) (hs.enter [0] rfl rfl) hz2) ?_
  clear hf; clear a; intro v w2 a hT hf; obtain ⟨ao2, cp2, F2, rfl, hr⟩ := hT
  replace hs := (hs.back [0] [0] rfl rfl rfl rfl hr).nf rfl
  clear hr
  replace hs := hs.sel [0] rfl rfl
  replace hf := hf.keep (ks := [1, 2, 3, 21]) rfl
  refine st tbOk 1 [1, 2, 3, 11] hf rfl ?_
  clear hf a; intro a hf
  refine wpList_nil ?_
  refine sq ?_
  refine sq ?_
  refine reg ?_
  refine st tbOk 2 [1, 3, 11, 22, 23] hf rfl ?_
  clear hf a; intro a hf
  refine wpList_nil ?_
  refine ctj (fun (s1 : List Int) (a : Act) (w' : World) => ∃ (ao3 : Option Addr) (cp3 : Nat) (F3 : SH), Sep w F R w' F3 [.row 5 (tI .u8) (.slice ao3 s1.length cp3) s1] ∧ Fr 40 [(11, .slice ao3 s1.length cp3)] a) hS ?_ ?_
  · clear hS hf hs; clear a; intro s1 a w5 hM hS
    obtain ⟨ao3, cp3, F3, hs, hf⟩ := hM
    refine sq ?_
    refine reg ?_
    refine st tbOk 3 [8, 9] hf rfl ?_
    clear hf a; intro a hf
    refine wpList_nil ?_
    have hr := Option.some.inj hS; subst hr
    refine wp_ret ?_
    exact ret_ok hf (vs := [.slice ao3 s1.length cp3, .int .i64 0]) (by kernel_rfl) ⟨ao3, cp3, _, rfl, hs.sel [0] rfl rfl⟩
  clear hS; intro KK1 k1 hK1 hS
  refine blk ?_
  refine lp (st := (0, z2)) (fun (s2 : Int × (List Int)) (a : Act) (w' : World) => ∃ (ao4 : Option Addr) (cp4 : Nat) (F4 : SH), Sep w F R w' F4 [.row 5 (tI .u8) (.slice ao4 s2.2.length cp4) s2.2] ∧ Fr 40 [(1, .int .u64 p_at), (3, .int .u64 p_x), (11, .slice ao4 s2.2.length cp4), (22, .int .i64 n), (23, .int .i64 s2.1)] a) ?_ ⟨ao2, cp2, _, hs.sel [0] rfl rfl, hf.keep (ks := [1, 3, 11, 22, 23]) (by kernel_rfl)⟩ hS
  clear hS hf hs; clear a
  intro rec1 KK2 hK2 s2 a w3 hM hS
  obtain ⟨ao4, cp4, F4, hs, hf⟩ := hM
  refine sq ?_
  refine reg ?_
  refine st tbOk 1 [1, 3, 11, 22, 23, 24] hf rfl ?_
  clear hf a; intro a hf
  refine wpList_nil ?_
  refine sq ?_
  refine cnd (b := decide (s2.1 < n)) hf (by kernel_rfl) (fun hb2 => ?_) (fun hb2 => ?_)
  rotate_left
  · replace hS := of_f hb2 hS
    refine wp_exit ?_
    exact hK1 s2.2 _ _ ⟨ao4, cp4, _, hs.sel [0] rfl rfl, hf.keep (ks := [11]) (by kernel_rfl)⟩ hS
  replace hS := of_t hb2 hS
  refine wp_skip ?_
  refine sq ?_
  refine blk ?_
  refine sq ?_
  refine reg ?_
  refine st tbOk 2 [1, 3, 11, 12, 22, 23] hf rfl ?_
  clear hf a; intro a hf
  refine wpList_nil ?_
  refine reg ?_
  refine st tbOk 5 [1, 3, 11, 12, 22, 23, 26, 30] hf rfl ?_
  clear hf a; intro a hf
  refine st tbOk 4 [1, 3, 11, 22, 23, 26, 30, 31, 34] hf rfl ?_
  clear hf a; intro a hf
  have hT := of_gd hS; clear hS; obtain ⟨hc1, hS⟩ := hT
  refine bin (run_shr (k := .u64) (k' := .u64) (x := p_x) hc1 _) hf (by kernel_rfl) (by kernel_rfl) (by kernel_rfl) (by kernel_rfl) ?_
  clear hf a; intro a hf
  replace hf := hf.keep (ks := [1, 3, 11, 22, 23, 26, 30, 35]) rfl
  refine st tbOk 1 [1, 3, 11, 22, 23, 26, 30, 36] hf rfl ?_
  clear hf a; intro a hf
  have hT := of_gd hS; clear hS; obtain ⟨hc2, hS⟩ := hT
  refine ixW tbOk u49 i5 (hs.own 0 rfl) (k := .i64) (n := IntKind.i64.wrap ((IntKind.i64.wrap p_at) + s2.1)) hc2 hf (by kernel_rfl) (by kernel_rfl) (by kernel_rfl) (by kernel_rfl) ?_
  clear hf; clear a; intro pb1 po1 a hq1 hf
  replace hf := hf.keep (ks := [1, 3, 11, 22, 23, 36, 37]) rfl
  refine stW tbOk i5 rfl (hs.own 0 rfl) hc2 0 hq1 [.int .u8 (IntKind.u8.wrap (shr .u64 p_x (IntKind.u64.wrap (IntKind.i64.wrap (8 * s2.1)))))] (z := IntKind.u8.wrap (shr .u64 p_x (IntKind.u64.wrap (IntKind.i64.wrap (8 * s2.1))))) (fun _ e => (congrArg (fun c => spl c 0 [.int .u8 (IntKind.u8.wrap (shr .u64 p_x (IntKind.u64.wrap (IntKind.i64.wrap (8 * s2.1)))))]) e).trans rfl) (u := .int .u8 (IntKind.u8.wrap (shr .u64 p_x (IntKind.u64.wrap (IntKind.i64.wrap (8 * s2.1)))))) rfl rfl (by kernel_rfl) (by kernel_rfl) hf (by kernel_rfl) (by kernel_rfl) (by kernel_rfl) ?_
  clear hf; clear a; intro w4 a ho hg hf
  replace hs := hs.updRow 0 rfl ho hg (fun _ h => .inl h)
  clear ho hg
  replace hs : Sep w F R w4 F4 [.row 5 (tI .u8) (.slice ao4 (s2.2.set (Int.toNat (IntKind.i64.wrap ((IntKind.i64.wrap p_at) + s2.1))) (IntKind.u8.wrap (shr .u64 p_x (IntKind.u64.wrap (IntKind.i64.wrap (8 * s2.1)))))).length cp4) (s2.2.set (Int.toNat (IntKind.i64.wrap ((IntKind.i64.wrap p_at) + s2.1))) (IntKind.u8.wrap (shr .u64 p_x (IntKind.u64.wrap (IntKind.i64.wrap (8 * s2.1))))))] := Sep.cast hs (by simp only [List.length_set]; rfl)
  replace hf := Fr.cast (L' := [(1, .int .u64 p_at), (3, .int .u64 p_x), (11, .slice ao4 (s2.2.set (Int.toNat (IntKind.i64.wrap ((IntKind.i64.wrap p_at) + s2.1))) (IntKind.u8.wrap (shr .u64 p_x (IntKind.u64.wrap (IntKind.i64.wrap (8 * s2.1)))))).length cp4), (22, .int .i64 n), (23, .int .i64 s2.1), (36, .int .u8 (IntKind.u8.wrap (shr .u64 p_x (IntKind.u64.wrap (IntKind.i64.wrap (8 * s2.1)))))), (37, .pointer (some ⟨pb1, po1, none⟩))]) hf (by simp only [List.length_set])
  replace hf := hf.keep (ks := [1, 3, 11, 22, 23]) rfl
  refine wpList_nil ?_
  refine reg ?_
  refine st tbOk 2 [1, 3, 11, 22, 23] hf rfl ?_
  clear hf a; intro a hf
  refine wpList_nil ?_
  exact hK2 (IntKind.i64.wrap (s2.1 + 1), (s2.2.set (Int.toNat (IntKind.i64.wrap ((IntKind.i64.wrap p_at) + s2.1))) (IntKind.u8.wrap (shr .u64 p_x (IntKind.u64.wrap (IntKind.i64.wrap (8 * s2.1))))))) _ _ ⟨ao4, cp4, _, hs.sel [0] rfl rfl, hf.keep (ks := [1, 3, 11, 22, 23]) (by kernel_rfl)⟩ hS

set_option maxHeartbeats 4000000 in
theorem isa_Code_ok {w : World} {F : SH} {text : List UInt8}  (hs : Sep w F (blks [gth0, gth1, gth2]) w F [gth0, gth1, gth2]) {r : (List Int) × Int × Int} (hS : isa_Code text = some r) :
    Calls Tryd.prog 20 [strV text].toArray w (Gives (fun u w' => ∃ (ao7 : Option Addr) (cp7 : Nat) (F' : SH), u = .tuple #[.slice ao7 r.1.length cp7, .int .i64 r.2.1, .int .i64 r.2.2] ∧ Sep w F (blks [gth0, gth1, gth2]) w' F' [.row 5 (tI .u8) (.slice ao7 r.1.length cp7) r.1])) := by
  generalize (blks [gth0, gth1, gth2]) = R at hs ⊢
  unfold isa_Code at hS
  refine fn_ok (vs := [strV text]) Tryd.func20 rfl 61 Tryd.ntmps20 (Nat.le_of_ble_eq_true rfl) ?_
  intro a hf
  replace hf := Fr.cast (L' := [(0, strV text)]) hf (by kernel_rfl)
  refine sq ?_
  refine reg ?_
  refine st tbOk 3 [0] hf rfl ?_
  clear hf a; intro a hf
  refine wpList_nil ?_
  refine sq ?_
  refine sq ?_
  refine reg ?_
  refine st tbOk 3 [0, 17] hf rfl ?_
  clear hf a; intro a hf
  refine wpList_nil ?_
  refine cnd (b := decide (((text.length : Nat) : Int) > 65536)) hf (by kernel_rfl) (fun hb1 => ?_) (fun hb1 => ?_)
  · replace hS := of_t hb1 hS
    refine sq ?_
    refine reg ?_
    refine st tbOk 3 [2, 3, 4] hf rfl ?_
    clear hf a; intro a hf
    refine wpList_nil ?_
    have hr := Option.some.inj hS; subst hr
    refine wp_ret ?_
    replace hs := hs.addNil 5 (tI .u8)
    exact ret_ok hf (vs := [.slice none 0 0, .int .i64 13, .int .i64 0]) (by kernel_rfl) ⟨none, 0, _, rfl, hs.sel [0] rfl rfl⟩
  replace hS := of_f hb1 hS
  refine wp_skip ?_
  refine sq ?_
  refine reg ?_
  refine st tbOk 1 [0, 5] hf rfl ?_
  clear hf a; intro a hf
  refine wpList_nil ?_
  refine sq ?_
  refine sq ?_
  refine reg ?_
  refine st tbOk 1 [5, 18] hf rfl ?_
  clear hf a; intro a hf
  have hT := of_bd hS; clear hS; obtain ⟨z1, hz1, hS⟩ := hT
  refine clV ent36 (vs := [strV text, strV [10]]) (caps := []) hf (by kernel_rfl) (by kernel_rfl) (by kernel_rfl) (by kernel_rfl) (strings_Split_ok (s := text) (sep := [10]) (hs.enter [1] rfl rfl) hz1) ?_
  clear hf; clear a; intro v w1 a hT hf; obtain ⟨ao1, cp1, F1, rfl, hr⟩ := hT
  replace hs := (hs.back [1] [0, 1, 2] rfl rfl rfl rfl hr).nf rfl
  clear hr
  replace hf := hf.keep (ks := [5, 19]) rfl
  refine st tbOk 2 [5, 19, 20, 21] hf rfl ?_
  clear hf a; intro a hf
  refine wpList_nil ?_
  refine ctj (fun (s1 : List Int) (a : Act) (w' : World) => ∃ (ao2 : Option Addr) (cp2 : Nat) (F2 : SH), Sep w F R w' F2 [.row 5 (tI .u8) (.slice ao2 s1.length cp2) s1, gth0, gth1, gth2] ∧ Fr 61 [(5, .slice ao2 s1.length cp2)] a) hS ?_ ?_
  · clear hS hf hs; clear a; intro s1 a w13 hM hS
    obtain ⟨ao2, cp2, F2, hs, hf⟩ := hM
    refine sq ?_
    refine reg ?_
    refine st tbOk 4 [2, 3, 4] hf rfl ?_
    clear hf a; intro a hf
    refine wpList_nil ?_
    have hr := Option.some.inj hS; subst hr
    refine wp_ret ?_
    exact ret_ok hf (vs := [.slice ao2 s1.length cp2, .int .i64 0, .int .i64 0]) (by kernel_rfl) ⟨ao2, cp2, _, rfl, hs.sel [0] rfl rfl⟩
  clear hS; intro KK1 k1 hK1 hS
  refine blk ?_
  replace hs := hs.addNil 5 (tI .u8)
  refine lp (st := ([], 0)) (fun (s2 : (List Int) × Int) (a : Act) (w' : World) => ∃ (ao3 : Option Addr) (cp3 : Nat) (F3 : SH), Sep w F R w' F3 [.row 5 (tI .u8) (.slice ao3 s2.1.length cp3) s2.1, .row 9 tS (.slice ao1 z1.length cp1) z1, gth0, gth1, gth2] ∧ Fr 61 [(5, .slice ao3 s2.1.length cp3), (19, .slice ao1 z1.length cp1), (20, .int .i64 ((z1.length : Nat) : Int)), (21, .int .i64 s2.2)] a) ?_ ⟨none, 0, _, hs.sel [0, 1, 2, 3, 4] rfl rfl, hf.keep (ks := [5, 19, 20, 21]) (by kernel_rfl)⟩ hS
  clear hS hf hs; clear a
  intro rec1 KK2 hK2 s2 a w2 hM hS
  obtain ⟨ao3, cp3, F3, hs, hf⟩ := hM
  refine sq ?_
  refine reg ?_
  refine st tbOk 1 [5, 19, 20, 21, 22] hf rfl ?_
  clear hf a; intro a hf
  refine wpList_nil ?_
  refine sq ?_
  refine cnd (b := decide (s2.2 < ((z1.length : Nat) : Int))) hf (by kernel_rfl) (fun hb2 => ?_) (fun hb2 => ?_)
  rotate_left
  · replace hS := of_f hb2 hS
    refine wp_exit ?_
    exact hK1 s2.1 _ _ ⟨ao3, cp3, _, hs.sel [0, 2, 3, 4] rfl rfl, hf.keep (ks := [5]) (by kernel_rfl)⟩ hS
  replace hS := of_t hb2 hS
  refine wp_skip ?_
  refine sq ?_
  refine ctj (fun (s3 : List Int) (a : Act) (w' : World) => ∃ (ao4 : Option Addr) (cp4 : Nat) (F4 : SH), Sep w F R w' F4 [.row 5 (tI .u8) (.slice ao4 s3.length cp4) s3, .row 9 tS (.slice ao1 z1.length cp1) z1, gth0, gth1, gth2] ∧ Fr 61 [(5, .slice ao4 s3.length cp4), (19, .slice ao1 z1.length cp1), (20, .int .i64 ((z1.length : Nat) : Int)), (21, .int .i64 s2.2)] a) hS ?_ ?_
  · clear hS hf hs; clear a; intro s3 a w12 hM hS
    obtain ⟨ao4, cp4, F4, hs, hf⟩ := hM
    refine reg ?_
    refine st tbOk 2 [5, 19, 20, 21] hf rfl ?_
    clear hf a; intro a hf
    refine wpList_nil ?_
    exact hK2 (s3, IntKind.i64.wrap (s2.2 + 1)) _ _ ⟨ao4, cp4, _, hs.sel [0, 1, 2, 3, 4] rfl rfl, hf.keep (ks := [5, 19, 20, 21]) (by kernel_rfl)⟩ hS
  clear hS; intro KK3 k2 hK3 hS
  refine blk ?_
  refine sq ?_
  refine reg ?_
  refine st tbOk 1 [5, 19, 20, 21, 23] hf rfl ?_
  clear hf a; intro a hf
  have hT := of_gd hS; clear hS; obtain ⟨hc1, hS⟩ := hT
  refine ixR tbOk u53 i9 rfl rfl (hs.raW 1 rfl) (k := .i64) (n := s2.2) hc1 hf (by kernel_rfl) (by kernel_rfl) (by kernel_rfl) (by kernel_rfl) ?_
  clear hf; clear a; intro pb1 po1 c1 a hp1 hr1 hf
  obtain rfl : c1 = [strV (gt z1 s2.2)] := hr1
  replace hf := hf.keep (ks := [5, 19, 20, 21, 23, 24]) rfl
  refine ldC tbOk (T := 9) hp1 (LeH.refl _) 0 (strV (gt z1 s2.2)) hf (by kernel_rfl) (by kernel_rfl) (by kernel_rfl) (by kernel_rfl) ?_
  clear hf a; intro a hf
  replace hf := hf.keep (ks := [5, 19, 20, 21, 23, 25]) rfl
  have hT := of_let hS; clear hS; obtain ⟨line_1, hl1, hS⟩ := hT
  refine st tbOk 2 [5, 6, 7, 19, 20, 21] (L' := [(5, .slice ao3 s2.1.length cp3), (6, .int .i64 s2.2), (7, strV line_1), (19, .slice ao1 z1.length cp1), (20, .int .i64 ((z1.length : Nat) : Int)), (21, .int .i64 s2.2)]) hf (by subst hl1; kernel_rfl) ?_
  clear hf a; intro a hf
  refine wpList_nil ?_
  refine sq ?_
  refine sq ?_
  refine reg ?_
  refine st tbOk 1 [5, 6, 7, 19, 20, 21, 26] hf rfl ?_
  clear hf a; intro a hf
  have hT := of_bd hS; clear hS; obtain ⟨z2, hz2, hS⟩ := hT
  refine clV ent37 (vs := [strV line_1, strV [32]]) (caps := []) hf (by kernel_rfl) (by kernel_rfl) (by kernel_rfl) (by kernel_rfl) (strings_Trim_ok (s := line_1) (cs := [32]) (hs.enter [] rfl rfl) hz2) ?_
  clear hf; clear a; intro v w3 a hT hf; obtain ⟨F5, rfl, hr⟩ := hT
  replace hs := (hs.back [] [0, 1, 2, 3, 4] rfl rfl rfl rfl hr).nf rfl
  clear hr
  replace hf := hf.keep (ks := [5, 6, 7, 19, 20, 21, 27]) rfl
  refine st tbOk 1 [5, 6, 7, 8, 19, 20, 21] hf rfl ?_
  clear hf a; intro a hf
  refine wpList_nil ?_
  refine sq ?_
  refine ctj (fun (s4 : Bool) (a : Act) (w' : World) => ∃ (F6 : SH), Sep w F R w' F6 [.row 5 (tI .u8) (.slice ao3 s2.1.length cp3) s2.1, .row 9 tS (.slice ao1 z1.length cp1) z1, gth0, gth1, gth2] ∧ Fr 61 [(5, .slice ao3 s2.1.length cp3), (6, .int .i64 s2.2), (7, strV line_1), (19, .slice ao1 z1.length cp1), (20, .int .i64 ((z1.length : Nat) : Int)), (21, .int .i64 s2.2), (34, .bool s4)] a) hS ?_ ?_
  rotate_left
  · clear hS; intro KK4 k3 hK4 hS
    refine reg ?_
    refine st tbOk 3 [5, 6, 7, 8, 19, 20, 21, 30] hf rfl ?_
    clear hf a; intro a hf
    rcases Bool.eq_false_or_eq_true (z2 == []) with hb3 | hb3
    · replace hS := of_t hb3 hS
      replace hf := hf.castB hb3 (fun qb => [(5, .slice ao3 s2.1.length cp3), (6, .int .i64 s2.2), (7, strV line_1), (8, strV z2), (19, .slice ao1 z1.length cp1), (20, .int .i64 ((z1.length : Nat) : Int)), (21, .int .i64 s2.2), (30, .bool qb)]) (by kernel_rfl)
      refine st tbOk 4 [5, 6, 7, 19, 20, 21, 34] hf rfl ?_
      clear hf a; intro a hf
      refine wpList_nil ?_
      exact hK4 true _ _ ⟨_, hs.sel [0, 1, 2, 3, 4] rfl rfl, hf.keep (ks := [5, 6, 7, 19, 20, 21, 34]) (by kernel_rfl)⟩ hS
    replace hS := of_f hb3 hS
    replace hf := hf.castB hb3 (fun qb => [(5, .slice ao3 s2.1.length cp3), (6, .int .i64 s2.2), (7, strV line_1), (8, strV z2), (19, .slice ao1 z1.length cp1), (20, .int .i64 ((z1.length : Nat) : Int)), (21, .int .i64 s2.2), (30, .bool qb)]) (by kernel_rfl)
    refine st tbOk 1 [5, 6, 7, 19, 20, 21, 30, 31] hf rfl ?_
    clear hf a; intro a hf
    have hT := of_gd hS; clear hS; obtain ⟨hc2, hS⟩ := hT
    refine ixS tbOk u9 (p := z2) (k := .i64) (n := 0) hc2 hf (by kernel_rfl) (by kernel_rfl) (by kernel_rfl) (by kernel_rfl) ?_
    clear hf a; intro a hf
    replace hf := hf.keep (ks := [5, 6, 7, 19, 20, 21, 30, 32]) rfl
    refine st tbOk 2 [5, 6, 7, 19, 20, 21, 34] hf rfl ?_
    clear hf a; intro a hf
    refine wpList_nil ?_
    exact hK4 (((z2.getD (Int.toNat 0) 0).toNat : Int) == 35) _ _ ⟨_, hs.sel [0, 1, 2, 3, 4] rfl rfl, hf.keep (ks := [5, 6, 7, 19, 20, 21, 34]) (by kernel_rfl)⟩ hS
  clear hS hf hs; clear a; intro s4 a w4 hM hS
  obtain ⟨F6, hs, hf⟩ := hM
  refine cnd (b := s4) hf (by kernel_rfl) (fun hb4 => ?_) (fun hb4 => ?_)
  · replace hS := of_t hb4 hS
    refine wp_exit ?_
    exact hK3 s2.1 _ _ ⟨ao3, cp3, _, hs.sel [0, 1, 2, 3, 4] rfl rfl, hf.keep (ks := [5, 19, 20, 21]) (by kernel_rfl)⟩ hS
  replace hS := of_f hb4 hS
  refine wp_skip ?_
  refine sq ?_
  refine reg ?_
  refine st tbOk 1 [5, 6, 19, 20, 21, 36] hf rfl ?_
  clear hf a; intro a hf
  have hT := of_bd hS; clear hS; obtain ⟨z3, hz3, hS⟩ := hT
  refine clV ent18 (vs := [strV line_1]) (caps := []) hf (by kernel_rfl) (by kernel_rfl) (by kernel_rfl) (by kernel_rfl) (isa_Parse_ok (p_s := line_1) (hs.enter [2, 4] rfl rfl) hz3) ?_
  clear hf; clear a; intro v w5 a hT hf; obtain ⟨F7, rfl, hr⟩ := hT
  replace hs := (hs.back [2, 4] [0, 1, 2, 3, 4] rfl rfl rfl rfl hr).nf rfl
  clear hr
  replace hf := hf.keep (ks := [5, 6, 19, 20, 21, 37]) rfl
  refine st tbOk 3 [5, 6, 19, 20, 21, 38, 39] hf rfl ?_
  clear hf a; intro a hf
  refine al tbOk i24 [.int .i64 0, .int .i64 0, .int .i64 0, .int .i64 0, .int .i32 0] rfl (by kernel_rfl) hf (by kernel_rfl) (by kernel_rfl) ?_
  clear hf; clear a; intro w6 a hb hx _ hf
  replace hs := hs.newBox hb hx
  clear hb hx
  replace hf := hf.keep (ks := [5, 6, 9, 19, 20, 21, 38, 39]) rfl
  refine stB tbOk i24 (hs.bx 0 rfl) 0 [.int .i64 z3.1.1, .int .i64 z3.1.2.1, .int .i64 z3.1.2.2.1, .int .i64 z3.1.2.2.2.1, .int .i32 z3.1.2.2.2.2] [.int .i64 z3.1.1, .int .i64 z3.1.2.1, .int .i64 z3.1.2.2.1, .int .i64 z3.1.2.2.2.1, .int .i32 z3.1.2.2.2.2] (v := .agg #[.int .i64 z3.1.1, .int .i64 z3.1.2.1, .int .i64 z3.1.2.2.1, .int .i64 z3.1.2.2.2.1, .int .i32 z3.1.2.2.2.2]) rfl rfl (by kernel_rfl) (by kernel_rfl) (by kernel_rfl) (by kernel_rfl) hf (by kernel_rfl) (by kernel_rfl) (by kernel_rfl) ?_
  clear hf; clear a; intro w7 a hb hg _ hf
  replace hs := (hs.updBox 0 rfl hb hg).nf rfl
  clear hb hg
  replace hf := hf.keep (ks := [5, 6, 9, 19, 20, 21, 39]) rfl
  refine st tbOk 1 [5, 6, 9, 10, 19, 20, 21] hf rfl ?_
  clear hf a; intro a hf
  refine wpList_nil ?_
  refine sq ?_
  refine sq ?_
  refine reg ?_
  refine st tbOk 2 [5, 6, 9, 10, 19, 20, 21, 41] hf rfl ?_
  clear hf a; intro a hf
  refine wpList_nil ?_
  refine cnd (b := z3.2 != 0) hf (by kernel_rfl) (fun hb5 => ?_) (fun hb5 => ?_)
  · replace hS := of_t hb5 hS
    refine sq ?_
    refine reg ?_
    refine st tbOk 5 [2, 3, 44] hf rfl ?_
    clear hf a; intro a hf
    refine st tbOk 1 [2, 3, 4] hf rfl ?_
    clear hf a; intro a hf
    refine wpList_nil ?_
    have hr := Option.some.inj hS; subst hr
    refine wp_ret ?_
    replace hs := hs.addNil 5 (tI .u8)
    exact ret_ok hf (vs := [.slice none 0 0, .int .i64 z3.2, .int .i64 (IntKind.i64.wrap (s2.2 + 1))]) (by kernel_rfl) ⟨none, 0, _, rfl, hs.sel [0] rfl rfl⟩
  replace hS := of_f hb5 hS
  refine wp_skip ?_
  refine sq ?_
  refine reg ?_
  refine ldC tbOk (T := 24) (hs.cbx 0 rfl) (LeH.refl _) 0 (.agg #[.int .i64 z3.1.1, .int .i64 z3.1.2.1, .int .i64 z3.1.2.2.1, .int .i64 z3.1.2.2.2.1, .int .i32 z3.1.2.2.2.2]) hf (by kernel_rfl) (by kernel_rfl) (by kernel_rfl) (by kernel_rfl) ?_
  clear hf a; intro a hf
  replace hs := hs.sel [1, 2, 3, 4, 5] rfl rfl
  replace hf := hf.keep (ks := [5, 19, 20, 21, 46]) rfl
  have hT := of_bd hS; clear hS; obtain ⟨z4, hz4, hS⟩ := hT
  refine clV ent11 (vs := [.agg #[.int .i64 z3.1.1, .int .i64 z3.1.2.1, .int .i64 z3.1.2.2.1, .int .i64 z3.1.2.2.2.1, .int .i32 z3.1.2.2.2.2]]) (caps := []) hf (by kernel_rfl) (by kernel_rfl) (by kernel_rfl) (by kernel_rfl) (isa_Encode_ok (i := (z3.1.1, z3.1.2.1, z3.1.2.2.1, z3.1.2.2.2.1, z3.1.2.2.2.2)) (hs.enter [2] rfl rfl) hz4) ?_
  clear hf; clear a; intro v w8 a hT hf; obtain ⟨F8, rfl, hr⟩ := hT
  replace hs := (hs.back [2] [0, 1, 2, 3, 4] rfl rfl rfl rfl hr).nf rfl
  clear hr
  replace hf := hf.keep (ks := [5, 19, 20, 21, 47]) rfl
  refine st tbOk 5 [5, 11, 19, 20, 21] hf rfl ?_
  clear hf a; intro a hf
  refine wpList_nil ?_
  refine sq ?_
  refine reg ?_
  have hT := of_gd hS; clear hS; obtain ⟨hc3, hS⟩ := hT
  refine mkR tbOk u49 i5 rfl rfl (t := (tI .u8)) rfl rfl (0 : Int) hs.le rfl (k := .i64) (k' := .i64) (n := 8) hc3 hf (by kernel_rfl) (by kernel_rfl) (by kernel_rfl) (by kernel_rfl) ?_
  clear hf; clear a; intro w9 a ho hx hf
  replace hs := hs.newRow ho hx
  clear ho hx
  replace hf := hf.keep (ks := [5, 11, 19, 20, 21, 51]) rfl
  refine st tbOk 1 [5, 19, 20, 21, 51, 52] hf rfl ?_
  clear hf a; intro a hf
  have hT := of_bd hS; clear hS; obtain ⟨z5, hz5, hS⟩ := hT
  refine clV ent38 (vs := [.slice (some ⟨w8.heap.size, 0, none⟩) (List.replicate (Int.toNat 8) (0 : Int)).length (Int.toNat 8), .int .u64 0, .int .i64 8, .int .u64 z4.1]) (caps := []) hf (by kernel_rfl) (by kernel_rfl) (by kernel_rfl) (by kernel_rfl) (octets_Set_ok (b := (List.replicate (Int.toNat 8) (0 : Int))) (p_at := 0) (n := 8) (p_x := z4.1) (hs.lend [0] [] rfl rfl rfl rfl rfl) hz5) ?_
  clear hf; clear a; intro v w10 a hT hf; obtain ⟨ao5, cp5, F9, rfl, hr⟩ := hT
  replace hs := (hs.backL [0] [] [0, 1, 2, 3, 4, 5] rfl rfl rfl rfl rfl rfl hr ⟨(flat_I .u8), trivial⟩).nf rfl
  clear hr
  replace hs := hs.sel [0, 2, 3, 4, 5, 6] rfl rfl
  replace hf := hf.keep (ks := [5, 19, 20, 21, 53]) rfl
  refine st tbOk 5 [5, 13, 19, 20, 21] hf rfl ?_
  clear hf a; intro a hf
  refine wpList_nil ?_
  refine reg ?_
  refine st tbOk 2 [19, 20, 21, 56, 57] hf rfl ?_
  clear hf a; intro a hf
  have hT := of_gd hS; clear hS; obtain ⟨hc4, hS⟩ := hT
  refine apR tbOk u49 i5 rfl rfl rfl rfl hs.le (hs.own 1 rfl) (hs.raW 0 rfl) hc4 hf (by kernel_rfl) (by kernel_rfl) (by kernel_rfl) (by kernel_rfl) ?_
  clear hf; clear a; intro ao6 cp6 w11 a ho hg hl hf
  replace hs := (hs.updRow 1 rfl ho hg hl).nf rfl
  clear ho hg hl
  replace hs := hs.sel [1, 2, 3, 4, 5] rfl rfl
  replace hf := hf.keep (ks := [19, 20, 21, 58]) rfl
  refine st tbOk 1 [5, 19, 20, 21] hf rfl ?_
  clear hf a; intro a hf
  refine wpList_nil ?_
  exact hK3 (s2.1 ++ z5.1) _ _ ⟨ao6, cp6, _, hs.sel [0, 1, 2, 3, 4] rfl rfl, hf.keep (ks := [5, 19, 20, 21]) (by kernel_rfl)⟩ hS

set_option maxHeartbeats 4000000 in
theorem law12_awake_ok {w : World} {F : SH}   (hs : Sep w F (blks [gth0, gth1, gth2]) w F [gth0, gth1, gth2]) {r : Bool} (hS : law12_awake = some r) :
    Calls Tryd.prog 10 [].toArray w (Gives (fun u w' => ∃ (F' : SH), u = .bool r ∧ Sep w F (blks [gth0, gth1, gth2]) w' F' [])) := by
  generalize (blks [gth0, gth1, gth2]) = R at hs ⊢
  unfold law12_awake at hS
  refine fn_ok (vs := []) Tryd.func10 rfl 81 Tryd.ntmps10 (Nat.le_of_ble_eq_true rfl) ?_
  intro a hf
  replace hf := Fr.cast (L' := []) hf (by kernel_rfl)
  refine sq ?_
  refine reg ?_
  refine st tbOk 1 [] hf rfl ?_
  clear hf a; intro a hf
  refine wpList_nil ?_
  refine sq ?_
  refine reg ?_
  refine st tbOk 1 [13] hf rfl ?_
  clear hf a; intro a hf
  have hT := of_bd hS; clear hS; obtain ⟨z1, hz1, hS⟩ := hT
  refine clV ent11 (vs := [.agg #[.int .i64 16, .int .i64 1, .int .i64 2, .int .i64 0, .int .i32 (-1)]]) (caps := []) hf (by kernel_rfl) (by kernel_rfl) (by kernel_rfl) (by kernel_rfl) (isa_Encode_ok (i := (16, 1, 2, 0, (-1))) (hs.enter [0] rfl rfl) hz1) ?_
  clear hf; clear a; intro v w1 a hT hf; obtain ⟨F1, rfl, hr⟩ := hT
  replace hs := (hs.back [0] [0, 1, 2] rfl rfl rfl rfl hr).nf rfl
  clear hr
  replace hf := hf.keep (ks := [14]) rfl
  refine st tbOk 5 [1, 2] hf rfl ?_
  clear hf a; intro a hf
  refine wpList_nil ?_
  refine sq ?_
  refine reg ?_
  refine st tbOk 1 [1, 2, 18] hf rfl ?_
  clear hf a; intro a hf
  have hT := of_bd hS; clear hS; obtain ⟨z2, hz2, hS⟩ := hT
  refine clV ent16 (vs := [.int .u64 z1.1]) (caps := []) hf (by kernel_rfl) (by kernel_rfl) (by kernel_rfl) (by kernel_rfl) (isa_Decode_ok (p_w := z1.1) (hs.enter [0] rfl rfl) hz2) ?_
  clear hf; clear a; intro v w2 a hT hf; obtain ⟨F2, rfl, hr⟩ := hT
  replace hs := (hs.back [0] [0, 1, 2] rfl rfl rfl rfl hr).nf rfl
  clear hr
  replace hf := hf.keep (ks := [1, 2, 19]) rfl
  refine st tbOk 3 [1, 2, 20, 21] hf rfl ?_
  clear hf a; intro a hf
  refine al tbOk i24 [.int .i64 0, .int .i64 0, .int .i64 0, .int .i64 0, .int .i32 0] rfl (by kernel_rfl) hf (by kernel_rfl) (by kernel_rfl) ?_
  clear hf; clear a; intro w3 a hb hx _ hf
  replace hs := hs.newBox hb hx
  clear hb hx
  replace hf := hf.keep (ks := [1, 2, 3, 20, 21]) rfl
  refine stB tbOk i24 (hs.bx 0 rfl) 0 [.int .i64 z2.1.1, .int .i64 z2.1.2.1, .int .i64 z2.1.2.2.1, .int .i64 z2.1.2.2.2.1, .int .i32 z2.1.2.2.2.2] [.int .i64 z2.1.1, .int .i64 z2.1.2.1, .int .i64 z2.1.2.2.1, .int .i64 z2.1.2.2.2.1, .int .i32 z2.1.2.2.2.2] (v := .agg #[.int .i64 z2.1.1, .int .i64 z2.1.2.1, .int .i64 z2.1.2.2.1, .int .i64 z2.1.2.2.2.1, .int .i32 z2.1.2.2.2.2]) rfl rfl (by kernel_rfl) (by kernel_rfl) (by kernel_rfl) (by kernel_rfl) hf (by kernel_rfl) (by kernel_rfl) (by kernel_rfl) ?_
  clear hf; clear a; intro w4 a hb hg _ hf
  replace hs := (hs.updBox 0 rfl hb hg).nf rfl
  clear hb hg
  replace hf := hf.keep (ks := [1, 2, 3, 21]) rfl
  refine st tbOk 1 [1, 2, 3, 4] hf rfl ?_
  clear hf a; intro a hf
  refine wpList_nil ?_
  refine sq ?_
  refine reg ?_
  refine st tbOk 1 [1, 2, 3, 4, 23] hf rfl ?_
  clear hf a; intro a hf
  have hT := of_bd hS; clear hS; obtain ⟨z3, hz3, hS⟩ := hT
  refine clV ent14 (vs := [.agg #[.int .i64 23, .int .i64 3, .int .i64 4, .int .i64 0, .int .i32 16]]) (caps := []) hf (by kernel_rfl) (by kernel_rfl) (by kernel_rfl) (by kernel_rfl) (isa_Text_ok (i := (23, 3, 4, 0, 16)) (hs.enter [1, 3] rfl rfl) hz3) ?_
  clear hf; clear a; intro v w5 a hT hf; obtain ⟨F3, rfl, hr⟩ := hT
  replace hs := (hs.back [1, 3] [0, 1, 2, 3] rfl rfl rfl rfl hr).nf rfl
  clear hr
  replace hf := hf.keep (ks := [1, 2, 3, 4, 24]) rfl
  refine st tbOk 5 [1, 2, 3, 4, 5, 6] hf rfl ?_
  clear hf a; intro a hf
  refine wpList_nil ?_
  refine sq ?_
  refine reg ?_
  have hT := of_bd hS; clear hS; obtain ⟨z4, hz4, hS⟩ := hT
  refine clV ent18 (vs := [strV [32, 108, 100, 56, 32, 51, 32, 32, 52, 32, 49, 54]]) (caps := []) hf (by kernel_rfl) (by kernel_rfl) (by kernel_rfl) (by kernel_rfl) (isa_Parse_ok (p_s := [32, 108, 100, 56, 32, 51, 32, 32, 52, 32, 49, 54]) (hs.enter [1, 3] rfl rfl) hz4) ?_
  clear hf; clear a; intro v w6 a hT hf; obtain ⟨F4, rfl, hr⟩ := hT
  replace hs := (hs.back [1, 3] [0, 1, 2, 3] rfl rfl rfl rfl hr).nf rfl
  clear hr
  replace hf := hf.keep (ks := [1, 2, 3, 4, 5, 6, 28]) rfl
  refine st tbOk 3 [1, 2, 3, 4, 5, 6, 29, 30] hf rfl ?_
  clear hf a; intro a hf
  refine al tbOk i24 [.int .i64 0, .int .i64 0, .int .i64 0, .int .i64 0, .int .i32 0] rfl (by kernel_rfl) hf (by kernel_rfl) (by kernel_rfl) ?_
  clear hf; clear a; intro w7 a hb hx _ hf
  replace hs := hs.newBox hb hx
  clear hb hx
  replace hf := hf.keep (ks := [1, 2, 3, 4, 5, 6, 7, 29, 30]) rfl
  refine stB tbOk i24 (hs.bx 0 rfl) 0 [.int .i64 z4.1.1, .int .i64 z4.1.2.1, .int .i64 z4.1.2.2.1, .int .i64 z4.1.2.2.2.1, .int .i32 z4.1.2.2.2.2] [.int .i64 z4.1.1, .int .i64 z4.1.2.1, .int .i64 z4.1.2.2.1, .int .i64 z4.1.2.2.2.1, .int .i32 z4.1.2.2.2.2] (v := .agg #[.int .i64 z4.1.1, .int .i64 z4.1.2.1, .int .i64 z4.1.2.2.1, .int .i64 z4.1.2.2.2.1, .int .i32 z4.1.2.2.2.2]) rfl rfl (by kernel_rfl) (by kernel_rfl) (by kernel_rfl) (by kernel_rfl) hf (by kernel_rfl) (by kernel_rfl) (by kernel_rfl) ?_
  clear hf; clear a; intro w8 a hb hg _ hf
  replace hs := (hs.updBox 0 rfl hb hg).nf rfl
  clear hb hg
  replace hf := hf.keep (ks := [1, 2, 3, 4, 5, 6, 7, 30]) rfl
  refine st tbOk 1 [1, 2, 3, 4, 5, 6, 7, 8] hf rfl ?_
  clear hf a; intro a hf
  refine wpList_nil ?_
  refine sq ?_
  refine reg ?_
  have hT := of_bd hS; clear hS; obtain ⟨z5, hz5, hS⟩ := hT
  refine clV ent20 (vs := [strV [110, 111, 112, 10, 35, 32, 120, 10, 115, 121, 115]]) (caps := []) hf (by kernel_rfl) (by kernel_rfl) (by kernel_rfl) (by kernel_rfl) (isa_Code_ok (text := [110, 111, 112, 10, 35, 32, 120, 10, 115, 121, 115]) (hs.enter [2, 3, 4] rfl rfl) hz5) ?_
  clear hf; clear a; intro v w9 a hT hf; obtain ⟨ao1, cp1, F5, rfl, hr⟩ := hT
  replace hs := (hs.back [2, 3, 4] [0, 1, 2, 3, 4] rfl rfl rfl rfl hr).nf rfl
  clear hr
  replace hf := hf.keep (ks := [1, 2, 3, 4, 5, 6, 7, 8, 32]) rfl
  refine st tbOk 5 [1, 2, 3, 4, 5, 6, 7, 8, 9, 34, 35] hf rfl ?_
  clear hf a; intro a hf
  refine st tbOk 2 [1, 2, 3, 4, 5, 6, 7, 8, 9, 10, 11] hf rfl ?_
  clear hf a; intro a hf
  refine wpList_nil ?_
  refine sq ?_
  refine ctj (fun (s1 : Bool) (a : Act) (w' : World) => ∃ (F6 : SH), Sep w F R w' F6 [gth0, gth1, gth2] ∧ Fr 81 [(0, .bool s1)] a) hS ?_ ?_
  · clear hS hf hs; clear a; intro s1 a w10 hM hS
    obtain ⟨F6, hs, hf⟩ := hM
    have hr := Option.some.inj hS; subst hr
    refine wp_ret ?_
    exact ret_ok hf (vs := [.bool s1]) (by kernel_rfl) ⟨_, rfl, hs.sel [] rfl rfl⟩
  clear hS; intro KK1 k1 hK1 hS
  refine reg ?_
  refine st tbOk 3 [2, 3, 4, 5, 6, 7, 8, 9, 10, 11, 38] hf rfl ?_
  clear hf a; intro a hf
  rcases Bool.eq_false_or_eq_true (z1.1 == 18446744069414600976) with hb1 | hb1
  rotate_left
  · have hk : ((isa_Encode (16, 1, 2, 0, (-1))).bind fun z1 => (isa_Decode z1.1).bind fun z2 => (isa_Text (23, 3, 4, 0, 16)).bind fun z3 => (isa_Parse [32, 108, 100, 56, 32, 51, 32, 32, 52, 32, 49, 54]).bind fun z4 => (isa_Code [110, 111, 112, 10, 35, 32, 120, 10, 115, 121, 115]).bind fun z5 => some (z1.1 == 18446744069414600976)) = some true := by kernel_rfl
    rw [bdz hz1, bdz hz2, bdz hz3, bdz hz4, bdz hz5] at hk
    exact Bool.noConfusion (hb1.symm.trans (Option.some.inj hk))
  replace hS := of_t hb1 hS
  replace hf := hf.castB hb1 (fun qb => [(2, .int .i64 z1.2), (3, .pointer (some ⟨w2.heap.size, 0, none⟩)), (4, .int .i64 z2.2), (5, strV z3.1), (6, .int .i64 z3.2), (7, .pointer (some ⟨w6.heap.size, 0, none⟩)), (8, .int .i64 z4.2), (9, .slice ao1 z5.1.length cp1), (10, .int .i64 z5.2.1), (11, .int .i64 z5.2.2), (38, .bool qb)]) (by kernel_rfl)
  refine st tbOk 4 [3, 4, 5, 6, 7, 8, 9, 10, 11, 42] hf rfl ?_
  clear hf a; intro a hf
  rcases Bool.eq_false_or_eq_true (z1.2 == 0) with hb2 | hb2
  rotate_left
  · have hk : ((isa_Encode (16, 1, 2, 0, (-1))).bind fun z1 => (isa_Decode z1.1).bind fun z2 => (isa_Text (23, 3, 4, 0, 16)).bind fun z3 => (isa_Parse [32, 108, 100, 56, 32, 51, 32, 32, 52, 32, 49, 54]).bind fun z4 => (isa_Code [110, 111, 112, 10, 35, 32, 120, 10, 115, 121, 115]).bind fun z5 => some (z1.2 == 0)) = some true := by kernel_rfl
    rw [bdz hz1, bdz hz2, bdz hz3, bdz hz4, bdz hz5] at hk
    exact Bool.noConfusion (hb2.symm.trans (Option.some.inj hk))
  replace hS := of_t hb2 hS
  replace hf := hf.castB hb2 (fun qb => [(3, .pointer (some ⟨w2.heap.size, 0, none⟩)), (4, .int .i64 z2.2), (5, strV z3.1), (6, .int .i64 z3.2), (7, .pointer (some ⟨w6.heap.size, 0, none⟩)), (8, .int .i64 z4.2), (9, .slice ao1 z5.1.length cp1), (10, .int .i64 z5.2.1), (11, .int .i64 z5.2.2), (42, .bool qb)]) (by kernel_rfl)
  refine st tbOk 1 [4, 5, 6, 7, 8, 9, 10, 11, 42, 43] hf rfl ?_
  clear hf a; intro a hf
  refine ldC tbOk (T := 21) (hs.cbx 2 rfl) (LeH.refl _) 4 (.int .i32 z2.1.2.2.2.2) hf (by kernel_rfl) (by kernel_rfl) (by kernel_rfl) (by kernel_rfl) ?_
  clear hf a; intro a hf
  replace hs := hs.sel [0, 1, 3, 4, 5] rfl rfl
  replace hf := hf.keep (ks := [4, 5, 6, 7, 8, 9, 10, 11, 42, 44]) rfl
  refine st tbOk 3 [4, 5, 6, 7, 8, 9, 10, 11, 47] hf rfl ?_
  clear hf a; intro a hf
  rcases Bool.eq_false_or_eq_true (z2.1.2.2.2.2 == (-1)) with hb3 | hb3
  rotate_left
  · have hk : ((isa_Encode (16, 1, 2, 0, (-1))).bind fun z1 => (isa_Decode z1.1).bind fun z2 => (isa_Text (23, 3, 4, 0, 16)).bind fun z3 => (isa_Parse [32, 108, 100, 56, 32, 51, 32, 32, 52, 32, 49, 54]).bind fun z4 => (isa_Code [110, 111, 112, 10, 35, 32, 120, 10, 115, 121, 115]).bind fun z5 => some (z2.1.2.2.2.2 == (-1))) = some true := by kernel_rfl
    rw [bdz hz1, bdz hz2, bdz hz3, bdz hz4, bdz hz5] at hk
    exact Bool.noConfusion (hb3.symm.trans (Option.some.inj hk))
  replace hS := of_t hb3 hS
  replace hf := hf.castB hb3 (fun qb => [(4, .int .i64 z2.2), (5, strV z3.1), (6, .int .i64 z3.2), (7, .pointer (some ⟨w6.heap.size, 0, none⟩)), (8, .int .i64 z4.2), (9, .slice ao1 z5.1.length cp1), (10, .int .i64 z5.2.1), (11, .int .i64 z5.2.2), (47, .bool qb)]) (by kernel_rfl)
  refine st tbOk 4 [5, 6, 7, 8, 9, 10, 11, 51] hf rfl ?_
  clear hf a; intro a hf
  rcases Bool.eq_false_or_eq_true (z2.2 == 0) with hb4 | hb4
  rotate_left
  · have hk : ((isa_Encode (16, 1, 2, 0, (-1))).bind fun z1 => (isa_Decode z1.1).bind fun z2 => (isa_Text (23, 3, 4, 0, 16)).bind fun z3 => (isa_Parse [32, 108, 100, 56, 32, 51, 32, 32, 52, 32, 49, 54]).bind fun z4 => (isa_Code [110, 111, 112, 10, 35, 32, 120, 10, 115, 121, 115]).bind fun z5 => some (z2.2 == 0)) = some true := by kernel_rfl
    rw [bdz hz1, bdz hz2, bdz hz3, bdz hz4, bdz hz5] at hk
    exact Bool.noConfusion (hb4.symm.trans (Option.some.inj hk))
  replace hS := of_t hb4 hS
  replace hf := hf.castB hb4 (fun qb => [(5, strV z3.1), (6, .int .i64 z3.2), (7, .pointer (some ⟨w6.heap.size, 0, none⟩)), (8, .int .i64 z4.2), (9, .slice ao1 z5.1.length cp1), (10, .int .i64 z5.2.1), (11, .int .i64 z5.2.2), (51, .bool qb)]) (by kernel_rfl)
  refine st tbOk 4 [6, 7, 8, 9, 10, 11, 55] hf rfl ?_
  clear hf a; intro a hf
  rcases Bool.eq_false_or_eq_true (z3.1 == [108, 100, 56, 32, 51, 32, 52, 32, 49, 54]) with hb5 | hb5
  rotate_left
  · have hk : ((isa_Encode (16, 1, 2, 0, (-1))).bind fun z1 => (isa_Decode z1.1).bind fun z2 => (isa_Text (23, 3, 4, 0, 16)).bind fun z3 => (isa_Parse [32, 108, 100, 56, 32, 51, 32, 32, 52, 32, 49, 54]).bind fun z4 => (isa_Code [110, 111, 112, 10, 35, 32, 120, 10, 115, 121, 115]).bind fun z5 => some (z3.1 == [108, 100, 56, 32, 51, 32, 52, 32, 49, 54])) = some true := by kernel_rfl
    rw [bdz hz1, bdz hz2, bdz hz3, bdz hz4, bdz hz5] at hk
    exact Bool.noConfusion (hb5.symm.trans (Option.some.inj hk))
  replace hS := of_t hb5 hS
  replace hf := hf.castB hb5 (fun qb => [(6, .int .i64 z3.2), (7, .pointer (some ⟨w6.heap.size, 0, none⟩)), (8, .int .i64 z4.2), (9, .slice ao1 z5.1.length cp1), (10, .int .i64 z5.2.1), (11, .int .i64 z5.2.2), (55, .bool qb)]) (by kernel_rfl)
  refine st tbOk 4 [7, 8, 9, 10, 11, 59] hf rfl ?_
  clear hf a; intro a hf
  rcases Bool.eq_false_or_eq_true (z3.2 == 0) with hb6 | hb6
  rotate_left
  · have hk : ((isa_Encode (16, 1, 2, 0, (-1))).bind fun z1 => (isa_Decode z1.1).bind fun z2 => (isa_Text (23, 3, 4, 0, 16)).bind fun z3 => (isa_Parse [32, 108, 100, 56, 32, 51, 32, 32, 52, 32, 49, 54]).bind fun z4 => (isa_Code [110, 111, 112, 10, 35, 32, 120, 10, 115, 121, 115]).bind fun z5 => some (z3.2 == 0)) = some true := by kernel_rfl
    rw [bdz hz1, bdz hz2, bdz hz3, bdz hz4, bdz hz5] at hk
    exact Bool.noConfusion (hb6.symm.trans (Option.some.inj hk))
  replace hS := of_t hb6 hS
  replace hf := hf.castB hb6 (fun qb => [(7, .pointer (some ⟨w6.heap.size, 0, none⟩)), (8, .int .i64 z4.2), (9, .slice ao1 z5.1.length cp1), (10, .int .i64 z5.2.1), (11, .int .i64 z5.2.2), (59, .bool qb)]) (by kernel_rfl)
  refine st tbOk 1 [8, 9, 10, 11, 59, 60] hf rfl ?_
  clear hf a; intro a hf
  refine ldC tbOk (T := 3) (hs.cbx 1 rfl) (LeH.refl _) 1 (.int .i64 z4.1.2.1) hf (by kernel_rfl) (by kernel_rfl) (by kernel_rfl) (by kernel_rfl) ?_
  clear hf a; intro a hf
  replace hs := hs.sel [0, 2, 3, 4] rfl rfl
  replace hf := hf.keep (ks := [8, 9, 10, 11, 59, 61]) rfl
  refine st tbOk 3 [8, 9, 10, 11, 64] hf rfl ?_
  clear hf a; intro a hf
  rcases Bool.eq_false_or_eq_true (z4.1.2.1 == 3) with hb7 | hb7
  rotate_left
  · have hk : ((isa_Encode (16, 1, 2, 0, (-1))).bind fun z1 => (isa_Decode z1.1).bind fun z2 => (isa_Text (23, 3, 4, 0, 16)).bind fun z3 => (isa_Parse [32, 108, 100, 56, 32, 51, 32, 32, 52, 32, 49, 54]).bind fun z4 => (isa_Code [110, 111, 112, 10, 35, 32, 120, 10, 115, 121, 115]).bind fun z5 => some (z4.1.2.1 == 3)) = some true := by kernel_rfl
    rw [bdz hz1, bdz hz2, bdz hz3, bdz hz4, bdz hz5] at hk
    exact Bool.noConfusion (hb7.symm.trans (Option.some.inj hk))
  replace hS := of_t hb7 hS
  replace hf := hf.castB hb7 (fun qb => [(8, .int .i64 z4.2), (9, .slice ao1 z5.1.length cp1), (10, .int .i64 z5.2.1), (11, .int .i64 z5.2.2), (64, .bool qb)]) (by kernel_rfl)
  refine st tbOk 4 [9, 10, 11, 68] hf rfl ?_
  clear hf a; intro a hf
  rcases Bool.eq_false_or_eq_true (z4.2 == 0) with hb8 | hb8
  rotate_left
  · have hk : ((isa_Encode (16, 1, 2, 0, (-1))).bind fun z1 => (isa_Decode z1.1).bind fun z2 => (isa_Text (23, 3, 4, 0, 16)).bind fun z3 => (isa_Parse [32, 108, 100, 56, 32, 51, 32, 32, 52, 32, 49, 54]).bind fun z4 => (isa_Code [110, 111, 112, 10, 35, 32, 120, 10, 115, 121, 115]).bind fun z5 => some (z4.2 == 0)) = some true := by kernel_rfl
    rw [bdz hz1, bdz hz2, bdz hz3, bdz hz4, bdz hz5] at hk
    exact Bool.noConfusion (hb8.symm.trans (Option.some.inj hk))
  replace hS := of_t hb8 hS
  replace hf := hf.castB hb8 (fun qb => [(9, .slice ao1 z5.1.length cp1), (10, .int .i64 z5.2.1), (11, .int .i64 z5.2.2), (68, .bool qb)]) (by kernel_rfl)
  refine st tbOk 5 [10, 11, 73] hf rfl ?_
  clear hf a; intro a hf
  rcases Bool.eq_false_or_eq_true (((z5.1.length : Nat) : Int) == 16) with hb9 | hb9
  rotate_left
  · have hk : ((isa_Encode (16, 1, 2, 0, (-1))).bind fun z1 => (isa_Decode z1.1).bind fun z2 => (isa_Text (23, 3, 4, 0, 16)).bind fun z3 => (isa_Parse [32, 108, 100, 56, 32, 51, 32, 32, 52, 32, 49, 54]).bind fun z4 => (isa_Code [110, 111, 112, 10, 35, 32, 120, 10, 115, 121, 115]).bind fun z5 => some (((z5.1.length : Nat) : Int) == 16)) = some true := by kernel_rfl
    rw [bdz hz1, bdz hz2, bdz hz3, bdz hz4, bdz hz5] at hk
    exact Bool.noConfusion (hb9.symm.trans (Option.some.inj hk))
  replace hS := of_t hb9 hS
  replace hf := hf.castB hb9 (fun qb => [(10, .int .i64 z5.2.1), (11, .int .i64 z5.2.2), (73, .bool qb)]) (by kernel_rfl)
  refine st tbOk 4 [11, 77] hf rfl ?_
  clear hf a; intro a hf
  rcases Bool.eq_false_or_eq_true (z5.2.1 == 0) with hb10 | hb10
  · replace hS := of_t hb10 hS
    replace hf := hf.castB hb10 (fun qb => [(11, .int .i64 z5.2.2), (77, .bool qb)]) (by kernel_rfl)
    refine st tbOk 4 [0] hf rfl ?_
    clear hf a; intro a hf
    refine wpList_nil ?_
    exact hK1 (z5.2.2 == 0) _ _ ⟨_, hs.sel [1, 2, 3] rfl rfl, hf.keep (ks := [0]) (by kernel_rfl)⟩ hS
  have hk : ((isa_Encode (16, 1, 2, 0, (-1))).bind fun z1 => (isa_Decode z1.1).bind fun z2 => (isa_Text (23, 3, 4, 0, 16)).bind fun z3 => (isa_Parse [32, 108, 100, 56, 32, 51, 32, 32, 52, 32, 49, 54]).bind fun z4 => (isa_Code [110, 111, 112, 10, 35, 32, 120, 10, 115, 121, 115]).bind fun z5 => some (z5.2.1 == 0)) = some true := by kernel_rfl
  rw [bdz hz1, bdz hz2, bdz hz3, bdz hz4, bdz hz5] at hk
  exact Bool.noConfusion (hb10.symm.trans (Option.some.inj hk))

end Dm
