/-
  The walks: a call of each Go function gives what its shallow form gives, where that form gives something; printed by a program of this repo. No condition.
-/
import Derived.Test.YtpgohbnaphkngaaDoorWT
import Derived.Test.YtpgohbnaphkngaaDoorW3
namespace Dm
open Go Go.RowKit Go.Proofs

set_option maxHeartbeats 4000000 in
theorem ref12_Decode_ok {w : World} {F : SH} {p_w : Int}  (hs : Sep w F (blks []) w F []) {r : (Int × Int × Int × Int × Int) × Int} (hS : ref12_Decode p_w = some r) :
    Calls Tryd.prog 17 [.int .u64 p_w].toArray w (Gives (fun u w' => ∃ (F' : SH), u = .tuple #[.agg #[.int .i64 r.1.1, .int .i64 r.1.2.1, .int .i64 r.1.2.2.1, .int .i64 r.1.2.2.2.1, .int .i64 r.1.2.2.2.2], .int .i64 r.2] ∧ Sep w F (blks []) w' F' [])) := by
  generalize (blks []) = R at hs ⊢
  unfold ref12_Decode at hS
  refine fn_ok (vs := [.int .u64 p_w]) Tryd.func17 rfl 46 Tryd.ntmps17 (Nat.le_of_ble_eq_true rfl) ?_
  intro a hf
  replace hf := Fr.cast (L' := [(0, .int .u64 p_w)]) hf (by kernel_rfl)
  refine sq ?_
  refine reg ?_
  refine al tbOk i31 [.int .i64 0, .int .i64 0, .int .i64 0, .int .i64 0, .int .i64 0] rfl (by kernel_rfl) hf (by kernel_rfl) (by kernel_rfl) ?_
  clear hf; clear a; intro w1 a hb hx _ hf
  replace hs := hs.newBox hb hx
  clear hb hx
  replace hf := hf.keep (ks := [0, 2]) rfl
  refine st tbOk 1 [0, 2] hf rfl ?_
  clear hf a; intro a hf
  refine wpList_nil ?_
  refine sq ?_
  refine reg ?_
  have hT := of_let hS; clear hS; obtain ⟨m_1, hl1, hS⟩ := hT
  refine st tbOk 4 [0, 2, 4] (L' := [(0, .int .u64 p_w), (2, .pointer (some ⟨w.heap.size, 0, none⟩)), (4, .int .i64 m_1)]) hf (by subst hl1; kernel_rfl) ?_
  clear hf a; intro a hf
  refine wpList_nil ?_
  refine sq ?_
  refine sq ?_
  refine reg ?_
  refine st tbOk 2 [0, 2, 4, 12] hf rfl ?_
  clear hf a; intro a hf
  refine wpList_nil ?_
  refine ctj (fun (s1 : Int) (a : Act) (w' : World) => ∃ (F1 : SH), Sep w F R w' F1 [.box w.heap.size 31 [.int .i64 0, .int .i64 0, .int .i64 0, .int .i64 0, .int .i64 0]] ∧ Fr 46 [(0, .int .u64 p_w), (2, .pointer (some ⟨w.heap.size, 0, none⟩)), (4, .int .i64 s1)] a) hS ?_ ?_
  rotate_left
  · clear hS; intro KK1 k1 hK1 hS
    refine cnd (b := decide (m_1 ≥ 2147483648)) hf (by kernel_rfl) (fun hb1 => ?_) (fun hb1 => ?_)
    rotate_left
    · replace hS := of_f hb1 hS
      refine wp_skip ?_
      exact hK1 m_1 _ _ ⟨_, hs.sel [0] rfl rfl, hf.keep (ks := [0, 2, 4]) (by kernel_rfl)⟩ hS
    replace hS := of_t hb1 hS
    refine reg ?_
    have hT := of_let hS; clear hS; obtain ⟨m_2, hl2, hS⟩ := hT
    refine st tbOk 3 [0, 2, 4] (L' := [(0, .int .u64 p_w), (2, .pointer (some ⟨w.heap.size, 0, none⟩)), (4, .int .i64 m_2)]) hf (by subst hl2; kernel_rfl) ?_
    clear hf a; intro a hf
    refine wpList_nil ?_
    exact hK1 m_2 _ _ ⟨_, hs.sel [0] rfl rfl, hf.keep (ks := [0, 2, 4]) (by kernel_rfl)⟩ hS
  clear hS hf hs; clear a; intro s1 a w2 hM hS
  obtain ⟨F1, hs, hf⟩ := hM
  refine sq ?_
  refine reg ?_
  refine st tbOk 5 [0, 2, 4, 17, 19] hf rfl ?_
  clear hf a; intro a hf
  refine st tbOk 5 [0, 2, 4, 17, 21, 24] hf rfl ?_
  clear hf a; intro a hf
  refine st tbOk 5 [0, 2, 4, 17, 21, 25, 29] hf rfl ?_
  clear hf a; intro a hf
  refine st tbOk 2 [0, 2, 31] hf rfl ?_
  clear hf a; intro a hf
  refine al tbOk i31 [.int .i64 0, .int .i64 0, .int .i64 0, .int .i64 0, .int .i64 0] rfl (by kernel_rfl) hf (by kernel_rfl) (by kernel_rfl) ?_
  clear hf; clear a; intro w3 a hb hx _ hf
  replace hs := hs.newBox hb hx
  clear hb hx
  replace hf := hf.keep (ks := [0, 2, 5, 31]) rfl
  refine stB tbOk i31 (hs.bx 0 rfl) 0 [.int .i64 (IntKind.i64.wrap (Int.tmod p_w 256)), .int .i64 (IntKind.i64.wrap (Int.tmod (IntKind.u64.wrap (Int.tdiv p_w 256)) 32)), .int .i64 (IntKind.i64.wrap (Int.tmod (IntKind.u64.wrap (Int.tdiv p_w 8192)) 32)), .int .i64 (IntKind.i64.wrap (Int.tmod (IntKind.u64.wrap (Int.tdiv p_w 262144)) 32)), .int .i64 s1] [.int .i64 (IntKind.i64.wrap (Int.tmod p_w 256)), .int .i64 (IntKind.i64.wrap (Int.tmod (IntKind.u64.wrap (Int.tdiv p_w 256)) 32)), .int .i64 (IntKind.i64.wrap (Int.tmod (IntKind.u64.wrap (Int.tdiv p_w 8192)) 32)), .int .i64 (IntKind.i64.wrap (Int.tmod (IntKind.u64.wrap (Int.tdiv p_w 262144)) 32)), .int .i64 s1] (v := .agg #[.int .i64 (IntKind.i64.wrap (Int.tmod p_w 256)), .int .i64 (IntKind.i64.wrap (Int.tmod (IntKind.u64.wrap (Int.tdiv p_w 256)) 32)), .int .i64 (IntKind.i64.wrap (Int.tmod (IntKind.u64.wrap (Int.tdiv p_w 8192)) 32)), .int .i64 (IntKind.i64.wrap (Int.tmod (IntKind.u64.wrap (Int.tdiv p_w 262144)) 32)), .int .i64 s1]) rfl rfl (by kernel_rfl) (by kernel_rfl) (by kernel_rfl) (by kernel_rfl) hf (by kernel_rfl) (by kernel_rfl) (by kernel_rfl) ?_
  clear hf; clear a; intro w4 a hb hg _ hf
  replace hs := (hs.updBox 0 rfl hb hg).nf rfl
  clear hb hg
  replace hf := hf.keep (ks := [0, 2, 5]) rfl
  refine wpList_nil ?_
  refine sq ?_
  refine reg ?_
  refine ldC tbOk (T := 31) (hs.cbx 0 rfl) (LeH.refl _) 0 (.agg #[.int .i64 (IntKind.i64.wrap (Int.tmod p_w 256)), .int .i64 (IntKind.i64.wrap (Int.tmod (IntKind.u64.wrap (Int.tdiv p_w 256)) 32)), .int .i64 (IntKind.i64.wrap (Int.tmod (IntKind.u64.wrap (Int.tdiv p_w 8192)) 32)), .int .i64 (IntKind.i64.wrap (Int.tmod (IntKind.u64.wrap (Int.tdiv p_w 262144)) 32)), .int .i64 s1]) hf (by kernel_rfl) (by kernel_rfl) (by kernel_rfl) (by kernel_rfl) ?_
  clear hf a; intro a hf
  replace hf := hf.keep (ks := [0, 2, 5, 33]) rfl
  have hT := of_bd hS; clear hS; obtain ⟨z1, hz1, hS⟩ := hT
  refine clV ent12 (vs := [.agg #[.int .i64 (IntKind.i64.wrap (Int.tmod p_w 256)), .int .i64 (IntKind.i64.wrap (Int.tmod (IntKind.u64.wrap (Int.tdiv p_w 256)) 32)), .int .i64 (IntKind.i64.wrap (Int.tmod (IntKind.u64.wrap (Int.tdiv p_w 8192)) 32)), .int .i64 (IntKind.i64.wrap (Int.tmod (IntKind.u64.wrap (Int.tdiv p_w 262144)) 32)), .int .i64 s1]]) (caps := []) hf (by kernel_rfl) (by kernel_rfl) (by kernel_rfl) (by kernel_rfl) (ref12_Encode_ok (i := (IntKind.i64.wrap (Int.tmod p_w 256), IntKind.i64.wrap (Int.tmod (IntKind.u64.wrap (Int.tdiv p_w 256)) 32), IntKind.i64.wrap (Int.tmod (IntKind.u64.wrap (Int.tdiv p_w 8192)) 32), IntKind.i64.wrap (Int.tmod (IntKind.u64.wrap (Int.tdiv p_w 262144)) 32), s1)) (hs.enter [] rfl rfl) hz1) ?_
  clear hf; clear a; intro v w5 a hT hf; obtain ⟨F2, rfl, hr⟩ := hT
  replace hs := (hs.back [] [0, 1] rfl rfl rfl rfl hr).nf rfl
  clear hr
  replace hf := hf.keep (ks := [0, 2, 5, 34]) rfl
  refine st tbOk 5 [0, 2, 5, 6, 7] hf rfl ?_
  clear hf a; intro a hf
  refine wpList_nil ?_
  refine sq ?_
  refine sq ?_
  refine ctj (fun (s2 : Bool) (a : Act) (w' : World) => ∃ (F3 : SH), Sep w F R w' F3 [.box w2.heap.size 31 [.int .i64 (IntKind.i64.wrap (Int.tmod p_w 256)), .int .i64 (IntKind.i64.wrap (Int.tmod (IntKind.u64.wrap (Int.tdiv p_w 256)) 32)), .int .i64 (IntKind.i64.wrap (Int.tmod (IntKind.u64.wrap (Int.tdiv p_w 8192)) 32)), .int .i64 (IntKind.i64.wrap (Int.tmod (IntKind.u64.wrap (Int.tdiv p_w 262144)) 32)), .int .i64 s1], .box w.heap.size 31 [.int .i64 0, .int .i64 0, .int .i64 0, .int .i64 0, .int .i64 0]] ∧ Fr 46 [(2, .pointer (some ⟨w.heap.size, 0, none⟩)), (5, .pointer (some ⟨w2.heap.size, 0, none⟩)), (43, .bool s2)] a) hS ?_ ?_
  rotate_left
  · clear hS; intro KK2 k2 hK2 hS
    refine reg ?_
    refine st tbOk 3 [0, 2, 5, 6, 39] hf rfl ?_
    clear hf a; intro a hf
    rcases Bool.eq_false_or_eq_true (z1.2 != 0) with hb2 | hb2
    · replace hS := of_t hb2 hS
      replace hf := hf.castB hb2 (fun qb => [(0, .int .u64 p_w), (2, .pointer (some ⟨w.heap.size, 0, none⟩)), (5, .pointer (some ⟨w2.heap.size, 0, none⟩)), (6, .int .u64 z1.1), (39, .bool qb)]) (by kernel_rfl)
      refine st tbOk 4 [2, 5, 43] hf rfl ?_
      clear hf a; intro a hf
      refine wpList_nil ?_
      exact hK2 true _ _ ⟨_, hs.sel [0, 1] rfl rfl, hf.keep (ks := [2, 5, 43]) (by kernel_rfl)⟩ hS
    replace hS := of_f hb2 hS
    replace hf := hf.castB hb2 (fun qb => [(0, .int .u64 p_w), (2, .pointer (some ⟨w.heap.size, 0, none⟩)), (5, .pointer (some ⟨w2.heap.size, 0, none⟩)), (6, .int .u64 z1.1), (39, .bool qb)]) (by kernel_rfl)
    refine st tbOk 4 [2, 5, 43] hf rfl ?_
    clear hf a; intro a hf
    refine wpList_nil ?_
    exact hK2 (z1.1 != p_w) _ _ ⟨_, hs.sel [0, 1] rfl rfl, hf.keep (ks := [2, 5, 43]) (by kernel_rfl)⟩ hS
  clear hS hf hs; clear a; intro s2 a w6 hM hS
  obtain ⟨F3, hs, hf⟩ := hM
  refine cnd (b := s2) hf (by kernel_rfl) (fun hb3 => ?_) (fun hb3 => ?_)
  · replace hS := of_t hb3 hS
    refine sq ?_
    refine reg ?_
    refine st tbOk 1 [2, 44] hf rfl ?_
    clear hf a; intro a hf
    refine stB tbOk i31 (hs.bx 1 rfl) 0 [.int .i64 0, .int .i64 0, .int .i64 0, .int .i64 0, .int .i64 0] [.int .i64 0, .int .i64 0, .int .i64 0, .int .i64 0, .int .i64 0] (v := .agg #[.int .i64 0, .int .i64 0, .int .i64 0, .int .i64 0, .int .i64 0]) rfl rfl (by kernel_rfl) (by kernel_rfl) (by kernel_rfl) (by kernel_rfl) hf (by kernel_rfl) (by kernel_rfl) (by kernel_rfl) ?_
    clear hf; clear a; intro w7 a hb hg _ hf
    replace hs := (hs.updBox 1 rfl hb hg).nf rfl
    clear hb hg
    replace hs := hs.sel [1] rfl rfl
    replace hf := hf.keep (ks := [2]) rfl
    refine st tbOk 1 [2, 3] hf rfl ?_
    clear hf a; intro a hf
    refine wpList_nil ?_
    have hr := Option.some.inj hS; subst hr
    refine wp_ret ?_
    exact ret_okC hf (vs := [.agg #[.int .i64 0, .int .i64 0, .int .i64 0, .int .i64 0, .int .i64 0], .int .i64 42]) (.cons (.cell tbOk (hs.cbx 0 rfl) (off := 0) (by kernel_rfl) (by kernel_rfl)) (.cons (.tmp (by kernel_rfl)) .nil)) ⟨_, rfl, hs.sel [] rfl rfl⟩
  replace hS := of_f hb3 hS
  refine wp_skip ?_
  refine sq ?_
  refine reg ?_
  refine ldC tbOk (T := 31) (hs.cbx 0 rfl) (LeH.refl _) 0 (.agg #[.int .i64 (IntKind.i64.wrap (Int.tmod p_w 256)), .int .i64 (IntKind.i64.wrap (Int.tmod (IntKind.u64.wrap (Int.tdiv p_w 256)) 32)), .int .i64 (IntKind.i64.wrap (Int.tmod (IntKind.u64.wrap (Int.tdiv p_w 8192)) 32)), .int .i64 (IntKind.i64.wrap (Int.tmod (IntKind.u64.wrap (Int.tdiv p_w 262144)) 32)), .int .i64 s1]) hf (by kernel_rfl) (by kernel_rfl) (by kernel_rfl) (by kernel_rfl) ?_
  clear hf a; intro a hf
  replace hs := hs.sel [1] rfl rfl
  replace hf := hf.keep (ks := [2, 45]) rfl
  refine stB tbOk i31 (hs.bx 0 rfl) 0 [.int .i64 (IntKind.i64.wrap (Int.tmod p_w 256)), .int .i64 (IntKind.i64.wrap (Int.tmod (IntKind.u64.wrap (Int.tdiv p_w 256)) 32)), .int .i64 (IntKind.i64.wrap (Int.tmod (IntKind.u64.wrap (Int.tdiv p_w 8192)) 32)), .int .i64 (IntKind.i64.wrap (Int.tmod (IntKind.u64.wrap (Int.tdiv p_w 262144)) 32)), .int .i64 s1] [.int .i64 (IntKind.i64.wrap (Int.tmod p_w 256)), .int .i64 (IntKind.i64.wrap (Int.tmod (IntKind.u64.wrap (Int.tdiv p_w 256)) 32)), .int .i64 (IntKind.i64.wrap (Int.tmod (IntKind.u64.wrap (Int.tdiv p_w 8192)) 32)), .int .i64 (IntKind.i64.wrap (Int.tmod (IntKind.u64.wrap (Int.tdiv p_w 262144)) 32)), .int .i64 s1] (v := .agg #[.int .i64 (IntKind.i64.wrap (Int.tmod p_w 256)), .int .i64 (IntKind.i64.wrap (Int.tmod (IntKind.u64.wrap (Int.tdiv p_w 256)) 32)), .int .i64 (IntKind.i64.wrap (Int.tmod (IntKind.u64.wrap (Int.tdiv p_w 8192)) 32)), .int .i64 (IntKind.i64.wrap (Int.tmod (IntKind.u64.wrap (Int.tdiv p_w 262144)) 32)), .int .i64 s1]) rfl rfl (by kernel_rfl) (by kernel_rfl) (by kernel_rfl) (by kernel_rfl) hf (by kernel_rfl) (by kernel_rfl) (by kernel_rfl) ?_
  clear hf; clear a; intro w8 a hb hg _ hf
  replace hs := (hs.updBox 0 rfl hb hg).nf rfl
  clear hb hg
  replace hf := hf.keep (ks := [2]) rfl
  refine st tbOk 1 [2, 3] hf rfl ?_
  clear hf a; intro a hf
  refine wpList_nil ?_
  have hr := Option.some.inj hS; subst hr
  refine wp_ret ?_
  exact ret_okC hf (vs := [.agg #[.int .i64 (IntKind.i64.wrap (Int.tmod p_w 256)), .int .i64 (IntKind.i64.wrap (Int.tmod (IntKind.u64.wrap (Int.tdiv p_w 256)) 32)), .int .i64 (IntKind.i64.wrap (Int.tmod (IntKind.u64.wrap (Int.tdiv p_w 8192)) 32)), .int .i64 (IntKind.i64.wrap (Int.tmod (IntKind.u64.wrap (Int.tdiv p_w 262144)) 32)), .int .i64 s1], .int .i64 0]) (.cons (.cell tbOk (hs.cbx 0 rfl) (off := 0) (by kernel_rfl) (by kernel_rfl)) (.cons (.tmp (by kernel_rfl)) .nil)) ⟨_, rfl, hs.sel [] rfl rfl⟩

end Dm
