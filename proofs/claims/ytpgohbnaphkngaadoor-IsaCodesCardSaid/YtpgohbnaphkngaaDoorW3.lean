/-
  The walks: a call of each Go function gives what its shallow form gives, where that form gives something; printed by a program of this repo. No condition.
-/
import Derived.Test.YtpgohbnaphkngaaDoorWT
import Derived.Test.YtpgohbnaphkngaaDoorW2
namespace Dm
open Go Go.RowKit Go.Proofs

set_option maxHeartbeats 4000000 in
theorem ref12_Encode_ok {w : World} {F : SH} {i : Int × Int × Int × Int × Int}  (hs : Sep w F (blks []) w F []) {r : Int × Int} (hS : ref12_Encode i = some r) :
    Calls Tryd.prog 12 [.agg #[.int .i64 i.1, .int .i64 i.2.1, .int .i64 i.2.2.1, .int .i64 i.2.2.2.1, .int .i64 i.2.2.2.2]].toArray w (Gives (fun u w' => ∃ (F' : SH), u = .tuple #[.int .u64 r.1, .int .i64 r.2] ∧ Sep w F (blks []) w' F' [])) := by
  generalize (blks []) = R at hs ⊢
  unfold ref12_Encode at hS
  refine fn_ok (vs := [.agg #[.int .i64 i.1, .int .i64 i.2.1, .int .i64 i.2.2.1, .int .i64 i.2.2.2.1, .int .i64 i.2.2.2.2]]) Tryd.func12 rfl 38 Tryd.ntmps12 (Nat.le_of_ble_eq_true rfl) ?_
  intro a hf
  replace hf := Fr.cast (L' := [(0, .agg #[.int .i64 i.1, .int .i64 i.2.1, .int .i64 i.2.2.1, .int .i64 i.2.2.2.1, .int .i64 i.2.2.2.2])]) hf (by kernel_rfl)
  refine sq ?_
  refine reg ?_
  refine bx (T := 31) [.int .i64 i.1, .int .i64 i.2.1, .int .i64 i.2.2.1, .int .i64 i.2.2.2.1, .int .i64 i.2.2.2.2] (v := .agg #[.int .i64 i.1, .int .i64 i.2.1, .int .i64 i.2.2.1, .int .i64 i.2.2.2.1, .int .i64 i.2.2.2.2]) rfl (by kernel_rfl) hf (by kernel_rfl) (by kernel_rfl) (by kernel_rfl) ?_
  clear hf; clear a; intro w1 a hb hx _ hf
  replace hs := hs.newBox hb hx
  clear hb hx
  replace hf := hf.keep (ks := [1]) rfl
  refine st tbOk 2 [1] hf rfl ?_
  clear hf a; intro a hf
  refine wpList_nil ?_
  refine sq ?_
  refine reg ?_
  refine ldC tbOk (T := 31) (hs.cbx 0 rfl) (LeH.refl _) 0 (.agg #[.int .i64 i.1, .int .i64 i.2.1, .int .i64 i.2.2.1, .int .i64 i.2.2.2.1, .int .i64 i.2.2.2.2]) hf (by kernel_rfl) (by kernel_rfl) (by kernel_rfl) (by kernel_rfl) ?_
  clear hf a; intro a hf
  replace hf := hf.keep (ks := [1, 6]) rfl
  have hT := of_bd hS; clear hS; obtain ⟨z1, hz1, hS⟩ := hT
  refine clV ent23 (vs := [.agg #[.int .i64 i.1, .int .i64 i.2.1, .int .i64 i.2.2.1, .int .i64 i.2.2.2.1, .int .i64 i.2.2.2.2]]) (caps := []) hf (by kernel_rfl) (by kernel_rfl) (by kernel_rfl) (by kernel_rfl) (ref12_May_ok (i := (i.1, i.2.1, i.2.2.1, i.2.2.2.1, i.2.2.2.2)) (hs.enter [] rfl rfl) hz1) ?_
  clear hf; clear a; intro v w2 a hT hf; obtain ⟨F1, rfl, hr⟩ := hT
  replace hs := (hs.back [] [0] rfl rfl rfl rfl hr).nf rfl
  clear hr
  replace hf := hf.keep (ks := [1, 7]) rfl
  refine st tbOk 1 [1, 4] hf rfl ?_
  clear hf a; intro a hf
  refine wpList_nil ?_
  refine sq ?_
  refine sq ?_
  refine reg ?_
  refine st tbOk 2 [1, 9] hf rfl ?_
  clear hf a; intro a hf
  refine wpList_nil ?_
  refine cnd (b := !z1) hf (by kernel_rfl) (fun hb1 => ?_) (fun hb1 => ?_)
  · replace hS := of_t hb1 hS
    refine sq ?_
    refine reg ?_
    refine st tbOk 2 [2, 3] hf rfl ?_
    clear hf a; intro a hf
    refine wpList_nil ?_
    have hr := Option.some.inj hS; subst hr
    refine wp_ret ?_
    exact ret_ok hf (vs := [.int .u64 0, .int .i64 42]) (by kernel_rfl) ⟨_, rfl, hs.sel [] rfl rfl⟩
  replace hS := of_f hb1 hS
  refine wp_skip ?_
  refine sq ?_
  refine reg ?_
  refine st tbOk 1 [1, 10] hf rfl ?_
  clear hf a; intro a hf
  refine ldC tbOk (T := 2) (hs.cbx 0 rfl) (LeH.refl _) 4 (.int .i64 i.2.2.2.2) hf (by kernel_rfl) (by kernel_rfl) (by kernel_rfl) (by kernel_rfl) ?_
  clear hf a; intro a hf
  replace hf := hf.keep (ks := [1, 11]) rfl
  refine st tbOk 1 [1, 5] hf rfl ?_
  clear hf a; intro a hf
  refine wpList_nil ?_
  refine sq ?_
  refine sq ?_
  refine reg ?_
  refine st tbOk 2 [1, 5, 13] hf rfl ?_
  clear hf a; intro a hf
  refine wpList_nil ?_
  refine ctj (fun (s1 : Int) (a : Act) (w' : World) => ∃ (F2 : SH), Sep w F R w' F2 [.box w.heap.size 31 [.int .i64 i.1, .int .i64 i.2.1, .int .i64 i.2.2.1, .int .i64 i.2.2.2.1, .int .i64 i.2.2.2.2]] ∧ Fr 38 [(1, .pointer (some ⟨w.heap.size, 0, none⟩)), (5, .int .i64 s1)] a) hS ?_ ?_
  rotate_left
  · clear hS; intro KK1 k1 hK1 hS
    refine cnd (b := decide (i.2.2.2.2 < 0)) hf (by kernel_rfl) (fun hb2 => ?_) (fun hb2 => ?_)
    rotate_left
    · replace hS := of_f hb2 hS
      refine wp_skip ?_
      exact hK1 i.2.2.2.2 _ _ ⟨_, hs.sel [0] rfl rfl, hf.keep (ks := [1, 5]) (by kernel_rfl)⟩ hS
    replace hS := of_t hb2 hS
    refine reg ?_
    have hT := of_let hS; clear hS; obtain ⟨m_1, hl1, hS⟩ := hT
    refine st tbOk 3 [1, 5] (L' := [(1, .pointer (some ⟨w.heap.size, 0, none⟩)), (5, .int .i64 m_1)]) hf (by subst hl1; kernel_rfl) ?_
    clear hf a; intro a hf
    refine wpList_nil ?_
    exact hK1 m_1 _ _ ⟨_, hs.sel [0] rfl rfl, hf.keep (ks := [1, 5]) (by kernel_rfl)⟩ hS
  clear hS hf hs; clear a; intro s1 a w3 hM hS
  obtain ⟨F2, hs, hf⟩ := hM
  refine sq ?_
  refine reg ?_
  refine st tbOk 1 [1, 5, 16] hf rfl ?_
  clear hf a; intro a hf
  refine ldC tbOk (T := 3) (hs.cbx 0 rfl) (LeH.refl _) 0 (.int .i64 i.1) hf (by kernel_rfl) (by kernel_rfl) (by kernel_rfl) (by kernel_rfl) ?_
  clear hf a; intro a hf
  replace hf := hf.keep (ks := [1, 5, 17]) rfl
  refine st tbOk 2 [1, 5, 18, 19] hf rfl ?_
  clear hf a; intro a hf
  refine ldC tbOk (T := 3) (hs.cbx 0 rfl) (LeH.refl _) 1 (.int .i64 i.2.1) hf (by kernel_rfl) (by kernel_rfl) (by kernel_rfl) (by kernel_rfl) ?_
  clear hf a; intro a hf
  replace hf := hf.keep (ks := [1, 5, 18, 20]) rfl
  refine st tbOk 4 [1, 5, 23, 24] hf rfl ?_
  clear hf a; intro a hf
  refine ldC tbOk (T := 3) (hs.cbx 0 rfl) (LeH.refl _) 2 (.int .i64 i.2.2.1) hf (by kernel_rfl) (by kernel_rfl) (by kernel_rfl) (by kernel_rfl) ?_
  clear hf a; intro a hf
  replace hf := hf.keep (ks := [1, 5, 23, 25]) rfl
  refine st tbOk 4 [5, 28, 29] hf rfl ?_
  clear hf a; intro a hf
  refine ldC tbOk (T := 3) (hs.cbx 0 rfl) (LeH.refl _) 3 (.int .i64 i.2.2.2.1) hf (by kernel_rfl) (by kernel_rfl) (by kernel_rfl) (by kernel_rfl) ?_
  clear hf a; intro a hf
  replace hs := hs.sel [] rfl rfl
  replace hf := hf.keep (ks := [5, 28, 30]) rfl
  refine st tbOk 5 [33, 35] hf rfl ?_
  clear hf a; intro a hf
  refine st tbOk 4 [2, 3] hf rfl ?_
  clear hf a; intro a hf
  refine wpList_nil ?_
  have hr := Option.some.inj hS; subst hr
  refine wp_ret ?_
  exact ret_ok hf (vs := [.int .u64 (IntKind.u64.wrap ((IntKind.u64.wrap ((IntKind.u64.wrap ((IntKind.u64.wrap ((IntKind.u64.wrap i.1) + (IntKind.u64.wrap (256 * (IntKind.u64.wrap i.2.1))))) + (IntKind.u64.wrap (8192 * (IntKind.u64.wrap i.2.2.1))))) + (IntKind.u64.wrap (262144 * (IntKind.u64.wrap i.2.2.2.1))))) + (IntKind.u64.wrap (4294967296 * (IntKind.u64.wrap s1))))), .int .i64 0]) (by kernel_rfl) ⟨_, rfl, hs.sel [] rfl rfl⟩

end Dm
