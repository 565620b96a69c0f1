/-
  The walks: a call of each Go function gives what its shallow form gives, where that form gives something; printed by a program of this repo. No condition.
-/
import Derived.Test.YtpgohbnaphkngaaDoorWT
namespace Dm
open Go Go.RowKit Go.Proofs

set_option maxHeartbeats 4000000 in
theorem law12_model_ok {w : World} {F : SH} {i : Int × Int × Int × Int × Int}  (hs : Sep w F (blks []) w F []) {r : Int × Int × Int × Int × Int} (hS : law12_model i = some r) :
    Calls Tryd.prog 13 [.agg #[.int .i64 i.1, .int .i64 i.2.1, .int .i64 i.2.2.1, .int .i64 i.2.2.2.1, .int .i32 i.2.2.2.2]].toArray w (Gives (fun u w' => ∃ (F' : SH), u = .agg #[.int .i64 r.1, .int .i64 r.2.1, .int .i64 r.2.2.1, .int .i64 r.2.2.2.1, .int .i64 r.2.2.2.2] ∧ Sep w F (blks []) w' F' [])) := by
  generalize (blks []) = R at hs ⊢
  unfold law12_model at hS
  refine fn_ok (vs := [.agg #[.int .i64 i.1, .int .i64 i.2.1, .int .i64 i.2.2.1, .int .i64 i.2.2.2.1, .int .i32 i.2.2.2.2]]) Tryd.func13 rfl 15 Tryd.ntmps13 (Nat.le_of_ble_eq_true rfl) ?_
  intro a hf
  replace hf := Fr.cast (L' := [(0, .agg #[.int .i64 i.1, .int .i64 i.2.1, .int .i64 i.2.2.1, .int .i64 i.2.2.2.1, .int .i32 i.2.2.2.2])]) hf (by kernel_rfl)
  refine sq ?_
  refine reg ?_
  refine bx (T := 24) [.int .i64 i.1, .int .i64 i.2.1, .int .i64 i.2.2.1, .int .i64 i.2.2.2.1, .int .i32 i.2.2.2.2] (v := .agg #[.int .i64 i.1, .int .i64 i.2.1, .int .i64 i.2.2.1, .int .i64 i.2.2.2.1, .int .i32 i.2.2.2.2]) rfl (by kernel_rfl) hf (by kernel_rfl) (by kernel_rfl) (by kernel_rfl) ?_
  clear hf; clear a; intro w1 a hb hx _ hf
  replace hs := hs.newBox hb hx
  clear hb hx
  replace hf := hf.keep (ks := [1]) rfl
  refine al tbOk i31 [.int .i64 0, .int .i64 0, .int .i64 0, .int .i64 0, .int .i64 0] rfl (by kernel_rfl) hf (by kernel_rfl) (by kernel_rfl) ?_
  clear hf; clear a; intro w2 a hb hx _ hf
  replace hs := hs.newBox hb hx
  clear hb hx
  replace hf := hf.keep (ks := [1, 2]) rfl
  refine wpList_nil ?_
  refine sq ?_
  refine reg ?_
  refine st tbOk 1 [1, 2, 3] hf rfl ?_
  clear hf a; intro a hf
  refine ldC tbOk (T := 3) (hs.cbx 1 rfl) (LeH.refl _) 0 (.int .i64 i.1) hf (by kernel_rfl) (by kernel_rfl) (by kernel_rfl) (by kernel_rfl) ?_
  clear hf a; intro a hf
  replace hf := hf.keep (ks := [1, 2, 4]) rfl
  refine st tbOk 1 [1, 2, 4, 5] hf rfl ?_
  clear hf a; intro a hf
  refine ldC tbOk (T := 3) (hs.cbx 1 rfl) (LeH.refl _) 1 (.int .i64 i.2.1) hf (by kernel_rfl) (by kernel_rfl) (by kernel_rfl) (by kernel_rfl) ?_
  clear hf a; intro a hf
  replace hf := hf.keep (ks := [1, 2, 4, 6]) rfl
  refine st tbOk 1 [1, 2, 4, 6, 7] hf rfl ?_
  clear hf a; intro a hf
  refine ldC tbOk (T := 3) (hs.cbx 1 rfl) (LeH.refl _) 2 (.int .i64 i.2.2.1) hf (by kernel_rfl) (by kernel_rfl) (by kernel_rfl) (by kernel_rfl) ?_
  clear hf a; intro a hf
  replace hf := hf.keep (ks := [1, 2, 4, 6, 8]) rfl
  refine st tbOk 1 [1, 2, 4, 6, 8, 9] hf rfl ?_
  clear hf a; intro a hf
  refine ldC tbOk (T := 3) (hs.cbx 1 rfl) (LeH.refl _) 3 (.int .i64 i.2.2.2.1) hf (by kernel_rfl) (by kernel_rfl) (by kernel_rfl) (by kernel_rfl) ?_
  clear hf a; intro a hf
  replace hf := hf.keep (ks := [1, 2, 4, 6, 8, 10]) rfl
  refine st tbOk 1 [2, 4, 6, 8, 10, 11] hf rfl ?_
  clear hf a; intro a hf
  refine ldC tbOk (T := 21) (hs.cbx 1 rfl) (LeH.refl _) 4 (.int .i32 i.2.2.2.2) hf (by kernel_rfl) (by kernel_rfl) (by kernel_rfl) (by kernel_rfl) ?_
  clear hf a; intro a hf
  replace hs := hs.sel [0] rfl rfl
  replace hf := hf.keep (ks := [2, 4, 6, 8, 10, 12]) rfl
  refine st tbOk 2 [2, 14] hf rfl ?_
  clear hf a; intro a hf
  refine stB tbOk i31 (hs.bx 0 rfl) 0 [.int .i64 i.1, .int .i64 i.2.1, .int .i64 i.2.2.1, .int .i64 i.2.2.2.1, .int .i64 (IntKind.i64.wrap i.2.2.2.2)] [.int .i64 i.1, .int .i64 i.2.1, .int .i64 i.2.2.1, .int .i64 i.2.2.2.1, .int .i64 (IntKind.i64.wrap i.2.2.2.2)] (v := .agg #[.int .i64 i.1, .int .i64 i.2.1, .int .i64 i.2.2.1, .int .i64 i.2.2.2.1, .int .i64 (IntKind.i64.wrap i.2.2.2.2)]) rfl rfl (by kernel_rfl) (by kernel_rfl) (by kernel_rfl) (by kernel_rfl) hf (by kernel_rfl) (by kernel_rfl) (by kernel_rfl) ?_
  clear hf; clear a; intro w3 a hb hg _ hf
  replace hs := (hs.updBox 0 rfl hb hg).nf rfl
  clear hb hg
  replace hf := hf.keep (ks := [2]) rfl
  refine wpList_nil ?_
  have hr := Option.some.inj hS; subst hr
  refine wp_ret ?_
  exact ret_okC hf (vs := [.agg #[.int .i64 i.1, .int .i64 i.2.1, .int .i64 i.2.2.1, .int .i64 i.2.2.2.1, .int .i64 (IntKind.i64.wrap i.2.2.2.2)]]) (.cons (.cell tbOk (hs.cbx 0 rfl) (off := 0) (by kernel_rfl) (by kernel_rfl)) .nil) ⟨_, rfl, hs.sel [] rfl rfl⟩

end Dm
