/-
  The walks: a call of each Go function gives what its shallow form gives, where that form gives something; printed by a program of this repo. No condition.
-/
import Derived.Test.YtljdbjimdidigaaWT
namespace Dm
open Go Go.RowKit Go.Proofs

set_option maxHeartbeats 4000000 in
theorem ref04_alone_ok {w : World} {F : SH} {p_s : Int × Int × Int × Int × Int × Int × Int} {size : Int}  (hs : Sep w F (blks []) w F []) {r : Int} (hS : ref04_alone p_s size = some r) :
    Calls Try.prog 36 [.agg #[.int .u32 p_s.1, .int .u32 p_s.2.1, .int .u64 p_s.2.2.1, .int .u64 p_s.2.2.2.1, .int .u64 p_s.2.2.2.2.1, .int .u64 p_s.2.2.2.2.2.1, .int .u64 p_s.2.2.2.2.2.2], .int .u64 size].toArray w (Gives (fun u w' => ∃ (F' : SH), u = .int .i64 r ∧ Sep w F (blks []) w' F' [])) := by
  generalize (blks []) = R at hs ⊢
  unfold ref04_alone at hS
  refine fn_ok (vs := [.agg #[.int .u32 p_s.1, .int .u32 p_s.2.1, .int .u64 p_s.2.2.1, .int .u64 p_s.2.2.2.1, .int .u64 p_s.2.2.2.2.1, .int .u64 p_s.2.2.2.2.2.1, .int .u64 p_s.2.2.2.2.2.2], .int .u64 size]) Try.func36 rfl 82 Try.ntmps36 (Nat.le_of_ble_eq_true rfl) ?_
  intro a hf
  replace hf := Fr.cast (L' := [(0, .agg #[.int .u32 p_s.1, .int .u32 p_s.2.1, .int .u64 p_s.2.2.1, .int .u64 p_s.2.2.2.1, .int .u64 p_s.2.2.2.2.1, .int .u64 p_s.2.2.2.2.2.1, .int .u64 p_s.2.2.2.2.2.2]), (1, .int .u64 size)]) hf (by kernel_rfl)
  refine sq ?_
  refine reg ?_
  refine bx (T := 25) [.int .u32 p_s.1, .int .u32 p_s.2.1, .int .u64 p_s.2.2.1, .int .u64 p_s.2.2.2.1, .int .u64 p_s.2.2.2.2.1, .int .u64 p_s.2.2.2.2.2.1, .int .u64 p_s.2.2.2.2.2.2] (v := .agg #[.int .u32 p_s.1, .int .u32 p_s.2.1, .int .u64 p_s.2.2.1, .int .u64 p_s.2.2.2.1, .int .u64 p_s.2.2.2.2.1, .int .u64 p_s.2.2.2.2.2.1, .int .u64 p_s.2.2.2.2.2.2]) rfl (by kernel_rfl) hf (by kernel_rfl) (by kernel_rfl) (by kernel_rfl) ?_
  clear hf; clear a; intro w1 a hb hx _ hf
  replace hs : Sep w F R w1 F [.box w.heap.size 25 [.int .u32 p_s.1, .int .u32 p_s.2.1, .int .u64 p_s.2.2.1, .int .u64 p_s.2.2.2.1, .int .u64 p_s.2.2.2.2.1, .int .u64 p_s.2.2.2.2.2.1, .int .u64 p_s.2.2.2.2.2.2]] := hs.newBox hb hx
  clear hb hx
  replace hf := Fr.keep (ks := [1, 2]) (L' := [(1, .int .u64 size), (2, .pointer (some ⟨w.heap.size, 0, none⟩))]) hf (by kernel_rfl)
  refine st tbOk 1 [1, 2] (L' := [(1, .int .u64 size), (2, .pointer (some ⟨w.heap.size, 0, none⟩))]) hf (by kernel_rfl) ?_
  clear hf; clear a; intro a hf
  refine wpList_nil ?_
  refine sq ?_
  refine sq ?_
  refine ctj (fun (s1 : Bool) (a : Act) (w' : World) => ∃ (F1 : SH), Sep w F R w' F1 [.box w.heap.size 25 [.int .u32 p_s.1, .int .u32 p_s.2.1, .int .u64 p_s.2.2.1, .int .u64 p_s.2.2.2.1, .int .u64 p_s.2.2.2.2.1, .int .u64 p_s.2.2.2.2.2.1, .int .u64 p_s.2.2.2.2.2.2]] ∧ Fr 82 [(1, .int .u64 size), (2, .pointer (some ⟨w.heap.size, 0, none⟩)), (32, .bool s1)] a) hS ?_ ?_
  · clear hS hf hs; clear a; intro s1 a w2 hM hS
    obtain ⟨F1, hs, hf⟩ := hM
    refine cnd (b := s1) hf (by kernel_rfl) (fun hb6 => ?_) (fun hb6 => ?_)
    · replace hS := of_t hb6 hS
      refine sq ?_
      refine reg ?_
      refine st tbOk 1 [4] (L' := [(4, .int .i64 11)]) hf (by kernel_rfl) ?_
      clear hf; clear a; intro a hf
      refine wpList_nil ?_
      have hr := Option.some.inj hS; subst hr
      refine wp_ret ?_
      exact ret_ok hf (vs := [.int .i64 11]) (by kernel_rfl) ⟨_, rfl, hs.sel [] rfl rfl⟩
    · replace hS := of_f hb6 hS
      refine wp_skip ?_
      refine sq ?_
      refine sq ?_
      refine reg ?_
      refine st tbOk 1 [1, 2, 33] (L' := [(1, .int .u64 size), (2, .pointer (some ⟨w.heap.size, 0, none⟩)), (33, .pointer (some ⟨w.heap.size, 0, none⟩))]) hf (by kernel_rfl) ?_
      clear hf; clear a; intro a hf
      refine ldC tbOk (T := 22) (hs.cbx 0 rfl) (LeH.refl _) 0 (.int .u32 p_s.1) hf (by kernel_rfl) (by kernel_rfl) (by kernel_rfl) (by kernel_rfl) ?_
      clear hf; clear a; intro a hf
      replace hf := Fr.keep (ks := [1, 2, 34]) (L' := [(1, .int .u64 size), (2, .pointer (some ⟨w.heap.size, 0, none⟩)), (34, .int .u32 p_s.1)]) hf (by kernel_rfl)
      refine st tbOk 1 [1, 2, 35] (L' := [(1, .int .u64 size), (2, .pointer (some ⟨w.heap.size, 0, none⟩)), (35, .bool (p_s.1 == 0))]) hf (by kernel_rfl) ?_
      clear hf; clear a; intro a hf
      refine wpList_nil ?_
      refine cnd (b := p_s.1 == 0) hf (by kernel_rfl) (fun hb7 => ?_) (fun hb7 => ?_)
      · replace hS := of_t hb7 hS
        refine sq ?_
        refine reg ?_
        refine st tbOk 1 [4] (L' := [(4, .int .i64 0)]) hf (by kernel_rfl) ?_
        clear hf; clear a; intro a hf
        refine wpList_nil ?_
        have hr := Option.some.inj hS; subst hr
        refine wp_ret ?_
        exact ret_ok hf (vs := [.int .i64 0]) (by kernel_rfl) ⟨_, rfl, hs.sel [] rfl rfl⟩
      · replace hS := of_f hb7 hS
        refine wp_skip ?_
        refine sq ?_
        refine sq ?_
        refine ctj (fun (s2 : Bool) (a : Act) (w' : World) => ∃ (F2 : SH), Sep w F R w' F2 [.box w.heap.size 25 [.int .u32 p_s.1, .int .u32 p_s.2.1, .int .u64 p_s.2.2.1, .int .u64 p_s.2.2.2.1, .int .u64 p_s.2.2.2.2.1, .int .u64 p_s.2.2.2.2.2.1, .int .u64 p_s.2.2.2.2.2.2]] ∧ Fr 82 [(2, .pointer (some ⟨w.heap.size, 0, none⟩)), (48, .bool s2)] a) hS ?_ ?_
        · clear hS hf hs; clear a; intro s2 a w3 hM hS
          obtain ⟨F2, hs, hf⟩ := hM
          refine cnd (b := s2) hf (by kernel_rfl) (fun hb9 => ?_) (fun hb9 => ?_)
          · replace hS := of_t hb9 hS
            refine sq ?_
            refine reg ?_
            refine st tbOk 1 [4] (L' := [(4, .int .i64 10)]) hf (by kernel_rfl) ?_
            clear hf; clear a; intro a hf
            refine wpList_nil ?_
            have hr := Option.some.inj hS; subst hr
            refine wp_ret ?_
            exact ret_ok hf (vs := [.int .i64 10]) (by kernel_rfl) ⟨_, rfl, hs.sel [] rfl rfl⟩
          · replace hS := of_f hb9 hS
            refine wp_skip ?_
            refine sq ?_
            refine sq ?_
            refine reg ?_
            refine st tbOk 1 [2, 49] (L' := [(2, .pointer (some ⟨w.heap.size, 0, none⟩)), (49, .pointer (some ⟨w.heap.size, 5, none⟩))]) hf (by kernel_rfl) ?_
            clear hf; clear a; intro a hf
            refine ldC tbOk (T := 23) (hs.cbx 0 rfl) (LeH.refl _) 5 (.int .u64 p_s.2.2.2.2.2.1) hf (by kernel_rfl) (by kernel_rfl) (by kernel_rfl) (by kernel_rfl) ?_
            clear hf; clear a; intro a hf
            replace hf := Fr.keep (ks := [2, 50]) (L' := [(2, .pointer (some ⟨w.heap.size, 0, none⟩)), (50, .int .u64 p_s.2.2.2.2.2.1)]) hf (by kernel_rfl)
            refine st tbOk 1 [2, 50, 51] (L' := [(2, .pointer (some ⟨w.heap.size, 0, none⟩)), (50, .int .u64 p_s.2.2.2.2.2.1), (51, .pointer (some ⟨w.heap.size, 4, none⟩))]) hf (by kernel_rfl) ?_
            clear hf; clear a; intro a hf
            refine ldC tbOk (T := 23) (hs.cbx 0 rfl) (LeH.refl _) 4 (.int .u64 p_s.2.2.2.2.1) hf (by kernel_rfl) (by kernel_rfl) (by kernel_rfl) (by kernel_rfl) ?_
            clear hf; clear a; intro a hf
            replace hf := Fr.keep (ks := [2, 50, 52]) (L' := [(2, .pointer (some ⟨w.heap.size, 0, none⟩)), (50, .int .u64 p_s.2.2.2.2.2.1), (52, .int .u64 p_s.2.2.2.2.1)]) hf (by kernel_rfl)
            refine st tbOk 1 [2, 53] (L' := [(2, .pointer (some ⟨w.heap.size, 0, none⟩)), (53, .bool (decide (p_s.2.2.2.2.2.1 < p_s.2.2.2.2.1)))]) hf (by kernel_rfl) ?_
            clear hf; clear a; intro a hf
            refine wpList_nil ?_
            refine cnd (b := decide (p_s.2.2.2.2.2.1 < p_s.2.2.2.2.1)) hf (by kernel_rfl) (fun hb10 => ?_) (fun hb10 => ?_)
            · replace hS := of_t hb10 hS
              refine sq ?_
              refine reg ?_
              refine st tbOk 1 [4] (L' := [(4, .int .i64 11)]) hf (by kernel_rfl) ?_
              clear hf; clear a; intro a hf
              refine wpList_nil ?_
              have hr := Option.some.inj hS; subst hr
              refine wp_ret ?_
              exact ret_ok hf (vs := [.int .i64 11]) (by kernel_rfl) ⟨_, rfl, hs.sel [] rfl rfl⟩
            · replace hS := of_f hb10 hS
              refine wp_skip ?_
              refine sq ?_
              refine sq ?_
              refine ctj (fun (s3 : Bool) (a : Act) (w' : World) => ∃ (F3 : SH), Sep w F R w' F3 [.box w.heap.size 25 [.int .u32 p_s.1, .int .u32 p_s.2.1, .int .u64 p_s.2.2.1, .int .u64 p_s.2.2.2.1, .int .u64 p_s.2.2.2.2.1, .int .u64 p_s.2.2.2.2.2.1, .int .u64 p_s.2.2.2.2.2.2]] ∧ Fr 82 [(2, .pointer (some ⟨w.heap.size, 0, none⟩)), (64, .bool s3)] a) hS ?_ ?_
              · clear hS hf hs; clear a; intro s3 a w4 hM hS
                obtain ⟨F3, hs, hf⟩ := hM
                refine cnd (b := s3) hf (by kernel_rfl) (fun hb12 => ?_) (fun hb12 => ?_)
                · replace hS := of_t hb12 hS
                  refine sq ?_
                  refine reg ?_
                  refine st tbOk 1 [4] (L' := [(4, .int .i64 13)]) hf (by kernel_rfl) ?_
                  clear hf; clear a; intro a hf
                  refine wpList_nil ?_
                  have hr := Option.some.inj hS; subst hr
                  refine wp_ret ?_
                  exact ret_ok hf (vs := [.int .i64 13]) (by kernel_rfl) ⟨_, rfl, hs.sel [] rfl rfl⟩
                · replace hS := of_f hb12 hS
                  refine wp_skip ?_
                  refine sq ?_
                  refine sq ?_
                  refine ctj (fun (s4 : Bool) (a : Act) (w' : World) => ∃ (F4 : SH), Sep w F R w' F4 [] ∧ Fr 82 [(81, .bool s4)] a) hS ?_ ?_
                  · clear hS hf hs; clear a; intro s4 a w5 hM hS
                    obtain ⟨F4, hs, hf⟩ := hM
                    refine cnd (b := s4) hf (by kernel_rfl) (fun hb15 => ?_) (fun hb15 => ?_)
                    · replace hS := of_t hb15 hS
                      refine sq ?_
                      refine reg ?_
                      refine st tbOk 1 [4] (L' := [(4, .int .i64 11)]) hf (by kernel_rfl) ?_
                      clear hf; clear a; intro a hf
                      refine wpList_nil ?_
                      have hr := Option.some.inj hS; subst hr
                      refine wp_ret ?_
                      exact ret_ok hf (vs := [.int .i64 11]) (by kernel_rfl) ⟨_, rfl, hs.sel [] rfl rfl⟩
                    · replace hS := of_f hb15 hS
                      refine wp_skip ?_
                      refine sq ?_
                      refine reg ?_
                      refine st tbOk 1 [4] (L' := [(4, .int .i64 0)]) hf (by kernel_rfl) ?_
                      clear hf; clear a; intro a hf
                      refine wpList_nil ?_
                      have hr := Option.some.inj hS; subst hr
                      refine wp_ret ?_
                      exact ret_ok hf (vs := [.int .i64 0]) (by kernel_rfl) ⟨_, rfl, hs.sel [] rfl rfl⟩
                  · clear hS; intro KK4 k4 hK4 hS
                    refine reg ?_
                    refine st tbOk 1 [2, 65] (L' := [(2, .pointer (some ⟨w.heap.size, 0, none⟩)), (65, .pointer (some ⟨w.heap.size, 0, none⟩))]) hf (by kernel_rfl) ?_
                    clear hf; clear a; intro a hf
                    refine ldC tbOk (T := 22) (hs.cbx 0 rfl) (LeH.refl _) 0 (.int .u32 p_s.1) hf (by kernel_rfl) (by kernel_rfl) (by kernel_rfl) (by kernel_rfl) ?_
                    clear hf; clear a; intro a hf
                    replace hf := Fr.keep (ks := [2, 66]) (L' := [(2, .pointer (some ⟨w.heap.size, 0, none⟩)), (66, .int .u32 p_s.1)]) hf (by kernel_rfl)
                    refine st tbOk 2 [2, 68] (L' := [(2, .pointer (some ⟨w.heap.size, 0, none⟩)), (68, .bool (p_s.1 == 1))]) hf (by kernel_rfl) ?_
                    clear hf; clear a; intro a hf
                    rcases Bool.eq_false_or_eq_true (p_s.1 == 1) with hb13 | hb13
                    · replace hS := of_t hb13 hS
                      replace hf := Fr.cast (L' := [(2, .pointer (some ⟨w.heap.size, 0, none⟩)), (68, .bool true)]) hf (by rw [hb13])
                      refine st tbOk 1 [2, 68, 69] (L' := [(2, .pointer (some ⟨w.heap.size, 0, none⟩)), (68, .bool true), (69, .pointer (some ⟨w.heap.size, 3, none⟩))]) hf (by kernel_rfl) ?_
                      clear hf; clear a; intro a hf
                      refine ldC tbOk (T := 23) (hs.cbx 0 rfl) (LeH.refl _) 3 (.int .u64 p_s.2.2.2.1) hf (by kernel_rfl) (by kernel_rfl) (by kernel_rfl) (by kernel_rfl) ?_
                      clear hf; clear a; intro a hf
                      replace hf := Fr.keep (ks := [2, 68, 70]) (L' := [(2, .pointer (some ⟨w.heap.size, 0, none⟩)), (68, .bool true), (70, .int .u64 p_s.2.2.2.1)]) hf (by kernel_rfl)
                      refine st tbOk 2 [2, 68, 71, 72] (L' := [(2, .pointer (some ⟨w.heap.size, 0, none⟩)), (68, .bool true), (71, .int .u64 (Int.tmod p_s.2.2.2.1 256)), (72, .pointer (some ⟨w.heap.size, 2, none⟩))]) hf (by kernel_rfl) ?_
                      clear hf; clear a; intro a hf
                      refine ldC tbOk (T := 23) (hs.cbx 0 rfl) (LeH.refl _) 2 (.int .u64 p_s.2.2.1) hf (by kernel_rfl) (by kernel_rfl) (by kernel_rfl) (by kernel_rfl) ?_
                      clear hf; clear a; intro a hf
                      replace hf := Fr.keep (ks := [2, 68, 71, 73]) (L' := [(2, .pointer (some ⟨w.heap.size, 0, none⟩)), (68, .bool true), (71, .int .u64 (Int.tmod p_s.2.2.2.1 256)), (73, .int .u64 p_s.2.2.1)]) hf (by kernel_rfl)
                      refine st tbOk 3 [2, 68, 76] (L' := [(2, .pointer (some ⟨w.heap.size, 0, none⟩)), (68, .bool true), (76, .bool ((Int.tmod p_s.2.2.2.1 256) != (Int.tmod p_s.2.2.1 256)))]) hf (by kernel_rfl) ?_
                      clear hf; clear a; intro a hf
                      rcases Bool.eq_false_or_eq_true ((Int.tmod p_s.2.2.2.1 256) != (Int.tmod p_s.2.2.1 256)) with hb14 | hb14
                      · replace hS := of_t hb14 hS
                        replace hf := Fr.cast (L' := [(2, .pointer (some ⟨w.heap.size, 0, none⟩)), (68, .bool true), (76, .bool true)]) hf (by rw [hb14])
                        refine st tbOk 5 [81] (L' := [(81, .bool true)]) hf (by kernel_rfl) ?_
                        clear hf; clear a; intro a hf
                        refine wpList_nil ?_
                        exact hK4 true _ _ ⟨_, hs.sel [] rfl rfl, hf.keep (ks := [81]) (by kernel_rfl)⟩ hS
                      · replace hS := of_f hb14 hS
                        replace hf := Fr.cast (L' := [(2, .pointer (some ⟨w.heap.size, 0, none⟩)), (68, .bool true), (76, .bool false)]) hf (by rw [hb14])
                        refine st tbOk 1 [68, 76, 77] (L' := [(68, .bool true), (76, .bool false), (77, .pointer (some ⟨w.heap.size, 5, none⟩))]) hf (by kernel_rfl) ?_
                        clear hf; clear a; intro a hf
                        refine ldC tbOk (T := 23) (hs.cbx 0 rfl) (LeH.refl _) 5 (.int .u64 p_s.2.2.2.2.2.1) hf (by kernel_rfl) (by kernel_rfl) (by kernel_rfl) (by kernel_rfl) ?_
                        clear hf; clear a; intro a hf
                        replace hs : Sep w F R w4 F3 [] := hs.sel [] rfl rfl
                        replace hf := Fr.keep (ks := [68, 76, 78]) (L' := [(68, .bool true), (76, .bool false), (78, .int .u64 p_s.2.2.2.2.2.1)]) hf (by kernel_rfl)
                        refine st tbOk 3 [81] (L' := [(81, .bool (p_s.2.2.2.2.2.1 == 0))]) hf (by kernel_rfl) ?_
                        clear hf; clear a; intro a hf
                        refine wpList_nil ?_
                        exact hK4 (p_s.2.2.2.2.2.1 == 0) _ _ ⟨_, hs.sel [] rfl rfl, hf.keep (ks := [81]) (by kernel_rfl)⟩ hS
                    · replace hS := of_f hb13 hS
                      replace hf := Fr.cast (L' := [(2, .pointer (some ⟨w.heap.size, 0, none⟩)), (68, .bool false)]) hf (by rw [hb13])
                      refine st tbOk 13 [81] (L' := [(81, .bool false)]) hf (by kernel_rfl) ?_
                      clear hf; clear a; intro a hf
                      refine wpList_nil ?_
                      exact hK4 false _ _ ⟨_, hs.sel [] rfl rfl, hf.keep (ks := [81]) (by kernel_rfl)⟩ hS
              · clear hS; intro KK3 k3 hK3 hS
                refine reg ?_
                refine st tbOk 1 [2, 54] (L' := [(2, .pointer (some ⟨w.heap.size, 0, none⟩)), (54, .pointer (some ⟨w.heap.size, 3, none⟩))]) hf (by kernel_rfl) ?_
                clear hf; clear a; intro a hf
                refine ldC tbOk (T := 23) (hs.cbx 0 rfl) (LeH.refl _) 3 (.int .u64 p_s.2.2.2.1) hf (by kernel_rfl) (by kernel_rfl) (by kernel_rfl) (by kernel_rfl) ?_
                clear hf; clear a; intro a hf
                replace hf := Fr.keep (ks := [2, 55]) (L' := [(2, .pointer (some ⟨w.heap.size, 0, none⟩)), (55, .int .u64 p_s.2.2.2.1)]) hf (by kernel_rfl)
                refine st tbOk 2 [2, 57] (L' := [(2, .pointer (some ⟨w.heap.size, 0, none⟩)), (57, .bool (decide (p_s.2.2.2.1 > 4294967296)))]) hf (by kernel_rfl) ?_
                clear hf; clear a; intro a hf
                rcases Bool.eq_false_or_eq_true (decide (p_s.2.2.2.1 > 4294967296)) with hb11 | hb11
                · replace hS := of_t hb11 hS
                  replace hf := Fr.cast (L' := [(2, .pointer (some ⟨w.heap.size, 0, none⟩)), (57, .bool true)]) hf (by rw [hb11])
                  refine st tbOk 7 [2, 64] (L' := [(2, .pointer (some ⟨w.heap.size, 0, none⟩)), (64, .bool true)]) hf (by kernel_rfl) ?_
                  clear hf; clear a; intro a hf
                  refine wpList_nil ?_
                  exact hK3 true _ _ ⟨_, hs.sel [0] rfl rfl, hf.keep (ks := [2, 64]) (by kernel_rfl)⟩ hS
                · replace hS := of_f hb11 hS
                  replace hf := Fr.cast (L' := [(2, .pointer (some ⟨w.heap.size, 0, none⟩)), (57, .bool false)]) hf (by rw [hb11])
                  refine st tbOk 1 [2, 57, 58] (L' := [(2, .pointer (some ⟨w.heap.size, 0, none⟩)), (57, .bool false), (58, .pointer (some ⟨w.heap.size, 5, none⟩))]) hf (by kernel_rfl) ?_
                  clear hf; clear a; intro a hf
                  refine ldC tbOk (T := 23) (hs.cbx 0 rfl) (LeH.refl _) 5 (.int .u64 p_s.2.2.2.2.2.1) hf (by kernel_rfl) (by kernel_rfl) (by kernel_rfl) (by kernel_rfl) ?_
                  clear hf; clear a; intro a hf
                  replace hf := Fr.keep (ks := [2, 57, 59]) (L' := [(2, .pointer (some ⟨w.heap.size, 0, none⟩)), (57, .bool false), (59, .int .u64 p_s.2.2.2.2.2.1)]) hf (by kernel_rfl)
                  refine st tbOk 1 [2, 57, 59, 60] (L' := [(2, .pointer (some ⟨w.heap.size, 0, none⟩)), (57, .bool false), (59, .int .u64 p_s.2.2.2.2.2.1), (60, .pointer (some ⟨w.heap.size, 3, none⟩))]) hf (by kernel_rfl) ?_
                  clear hf; clear a; intro a hf
                  refine ldC tbOk (T := 23) (hs.cbx 0 rfl) (LeH.refl _) 3 (.int .u64 p_s.2.2.2.1) hf (by kernel_rfl) (by kernel_rfl) (by kernel_rfl) (by kernel_rfl) ?_
                  clear hf; clear a; intro a hf
                  replace hf := Fr.keep (ks := [2, 57, 59, 61]) (L' := [(2, .pointer (some ⟨w.heap.size, 0, none⟩)), (57, .bool false), (59, .int .u64 p_s.2.2.2.2.2.1), (61, .int .u64 p_s.2.2.2.1)]) hf (by kernel_rfl)
                  refine st tbOk 3 [2, 64] (L' := [(2, .pointer (some ⟨w.heap.size, 0, none⟩)), (64, .bool (decide (p_s.2.2.2.2.2.1 > (IntKind.u64.wrap (4294967296 - p_s.2.2.2.1)))))]) hf (by kernel_rfl) ?_
                  clear hf; clear a; intro a hf
                  refine wpList_nil ?_
                  exact hK3 (decide (p_s.2.2.2.2.2.1 > (IntKind.u64.wrap (4294967296 - p_s.2.2.2.1)))) _ _ ⟨_, hs.sel [0] rfl rfl, hf.keep (ks := [2, 64]) (by kernel_rfl)⟩ hS
        · clear hS; intro KK2 k2 hK2 hS
          refine reg ?_
          refine st tbOk 1 [1, 2, 36] (L' := [(1, .int .u64 size), (2, .pointer (some ⟨w.heap.size, 0, none⟩)), (36, .pointer (some ⟨w.heap.size, 2, none⟩))]) hf (by kernel_rfl) ?_
          clear hf; clear a; intro a hf
          refine ldC tbOk (T := 23) (hs.cbx 0 rfl) (LeH.refl _) 2 (.int .u64 p_s.2.2.1) hf (by kernel_rfl) (by kernel_rfl) (by kernel_rfl) (by kernel_rfl) ?_
          clear hf; clear a; intro a hf
          replace hf := Fr.keep (ks := [1, 2, 37]) (L' := [(1, .int .u64 size), (2, .pointer (some ⟨w.heap.size, 0, none⟩)), (37, .int .u64 p_s.2.2.1)]) hf (by kernel_rfl)
          refine st tbOk 3 [1, 2, 40] (L' := [(1, .int .u64 size), (2, .pointer (some ⟨w.heap.size, 0, none⟩)), (40, .bool (decide (p_s.2.2.1 > size)))]) hf (by kernel_rfl) ?_
          clear hf; clear a; intro a hf
          rcases Bool.eq_false_or_eq_true (decide (p_s.2.2.1 > size)) with hb8 | hb8
          · replace hS := of_t hb8 hS
            replace hf := Fr.cast (L' := [(1, .int .u64 size), (2, .pointer (some ⟨w.heap.size, 0, none⟩)), (40, .bool true)]) hf (by rw [hb8])
            refine st tbOk 8 [2, 48] (L' := [(2, .pointer (some ⟨w.heap.size, 0, none⟩)), (48, .bool true)]) hf (by kernel_rfl) ?_
            clear hf; clear a; intro a hf
            refine wpList_nil ?_
            exact hK2 true _ _ ⟨_, hs.sel [0] rfl rfl, hf.keep (ks := [2, 48]) (by kernel_rfl)⟩ hS
          · replace hS := of_f hb8 hS
            replace hf := Fr.cast (L' := [(1, .int .u64 size), (2, .pointer (some ⟨w.heap.size, 0, none⟩)), (40, .bool false)]) hf (by rw [hb8])
            refine st tbOk 1 [1, 2, 40, 41] (L' := [(1, .int .u64 size), (2, .pointer (some ⟨w.heap.size, 0, none⟩)), (40, .bool false), (41, .pointer (some ⟨w.heap.size, 4, none⟩))]) hf (by kernel_rfl) ?_
            clear hf; clear a; intro a hf
            refine ldC tbOk (T := 23) (hs.cbx 0 rfl) (LeH.refl _) 4 (.int .u64 p_s.2.2.2.2.1) hf (by kernel_rfl) (by kernel_rfl) (by kernel_rfl) (by kernel_rfl) ?_
            clear hf; clear a; intro a hf
            replace hf := Fr.keep (ks := [1, 2, 40, 42]) (L' := [(1, .int .u64 size), (2, .pointer (some ⟨w.heap.size, 0, none⟩)), (40, .bool false), (42, .int .u64 p_s.2.2.2.2.1)]) hf (by kernel_rfl)
            refine st tbOk 2 [2, 40, 42, 43, 44] (L' := [(2, .pointer (some ⟨w.heap.size, 0, none⟩)), (40, .bool false), (42, .int .u64 p_s.2.2.2.2.1), (43, .int .u64 size), (44, .pointer (some ⟨w.heap.size, 2, none⟩))]) hf (by kernel_rfl) ?_
            clear hf; clear a; intro a hf
            refine ldC tbOk (T := 23) (hs.cbx 0 rfl) (LeH.refl _) 2 (.int .u64 p_s.2.2.1) hf (by kernel_rfl) (by kernel_rfl) (by kernel_rfl) (by kernel_rfl) ?_
            clear hf; clear a; intro a hf
            replace hf := Fr.keep (ks := [2, 40, 42, 43, 45]) (L' := [(2, .pointer (some ⟨w.heap.size, 0, none⟩)), (40, .bool false), (42, .int .u64 p_s.2.2.2.2.1), (43, .int .u64 size), (45, .int .u64 p_s.2.2.1)]) hf (by kernel_rfl)
            refine st tbOk 3 [2, 48] (L' := [(2, .pointer (some ⟨w.heap.size, 0, none⟩)), (48, .bool (decide (p_s.2.2.2.2.1 > (IntKind.u64.wrap (size - p_s.2.2.1)))))]) hf (by kernel_rfl) ?_
            clear hf; clear a; intro a hf
            refine wpList_nil ?_
            exact hK2 (decide (p_s.2.2.2.2.1 > (IntKind.u64.wrap (size - p_s.2.2.1)))) _ _ ⟨_, hs.sel [0] rfl rfl, hf.keep (ks := [2, 48]) (by kernel_rfl)⟩ hS
  · clear hS; intro KK1 k1 hK1 hS
    refine reg ?_
    refine st tbOk 1 [1, 2, 5] (L' := [(1, .int .u64 size), (2, .pointer (some ⟨w.heap.size, 0, none⟩)), (5, .pointer (some ⟨w.heap.size, 0, none⟩))]) hf (by kernel_rfl) ?_
    clear hf; clear a; intro a hf
    refine ldC tbOk (T := 22) (hs.cbx 0 rfl) (LeH.refl _) 0 (.int .u32 p_s.1) hf (by kernel_rfl) (by kernel_rfl) (by kernel_rfl) (by kernel_rfl) ?_
    clear hf; clear a; intro a hf
    replace hf := Fr.keep (ks := [1, 2, 6]) (L' := [(1, .int .u64 size), (2, .pointer (some ⟨w.heap.size, 0, none⟩)), (6, .int .u32 p_s.1)]) hf (by kernel_rfl)
    refine st tbOk 2 [1, 2, 8] (L' := [(1, .int .u64 size), (2, .pointer (some ⟨w.heap.size, 0, none⟩)), (8, .bool (p_s.1 != 0))]) hf (by kernel_rfl) ?_
    clear hf; clear a; intro a hf
    rcases Bool.eq_false_or_eq_true (p_s.1 != 0) with hb1 | hb1
    · replace hS := of_t hb1 hS
      replace hf := Fr.cast (L' := [(1, .int .u64 size), (2, .pointer (some ⟨w.heap.size, 0, none⟩)), (8, .bool true)]) hf (by rw [hb1])
      refine st tbOk 1 [1, 2, 8, 9] (L' := [(1, .int .u64 size), (2, .pointer (some ⟨w.heap.size, 0, none⟩)), (8, .bool true), (9, .pointer (some ⟨w.heap.size, 0, none⟩))]) hf (by kernel_rfl) ?_
      clear hf; clear a; intro a hf
      refine ldC tbOk (T := 22) (hs.cbx 0 rfl) (LeH.refl _) 0 (.int .u32 p_s.1) hf (by kernel_rfl) (by kernel_rfl) (by kernel_rfl) (by kernel_rfl) ?_
      clear hf; clear a; intro a hf
      replace hf := Fr.keep (ks := [1, 2, 8, 10]) (L' := [(1, .int .u64 size), (2, .pointer (some ⟨w.heap.size, 0, none⟩)), (8, .bool true), (10, .int .u32 p_s.1)]) hf (by kernel_rfl)
      refine st tbOk 3 [1, 2, 13] (L' := [(1, .int .u64 size), (2, .pointer (some ⟨w.heap.size, 0, none⟩)), (13, .bool (p_s.1 != 1))]) hf (by kernel_rfl) ?_
      clear hf; clear a; intro a hf
      rcases Bool.eq_false_or_eq_true (p_s.1 != 1) with hb2 | hb2
      · replace hS := of_t hb2 hS
        replace hf := Fr.cast (L' := [(1, .int .u64 size), (2, .pointer (some ⟨w.heap.size, 0, none⟩)), (13, .bool true)]) hf (by rw [hb2])
        refine st tbOk 1 [1, 2, 13, 14] (L' := [(1, .int .u64 size), (2, .pointer (some ⟨w.heap.size, 0, none⟩)), (13, .bool true), (14, .pointer (some ⟨w.heap.size, 0, none⟩))]) hf (by kernel_rfl) ?_
        clear hf; clear a; intro a hf
        refine ldC tbOk (T := 22) (hs.cbx 0 rfl) (LeH.refl _) 0 (.int .u32 p_s.1) hf (by kernel_rfl) (by kernel_rfl) (by kernel_rfl) (by kernel_rfl) ?_
        clear hf; clear a; intro a hf
        replace hf := Fr.keep (ks := [1, 2, 13, 15]) (L' := [(1, .int .u64 size), (2, .pointer (some ⟨w.heap.size, 0, none⟩)), (13, .bool true), (15, .int .u32 p_s.1)]) hf (by kernel_rfl)
        refine st tbOk 3 [1, 2, 18] (L' := [(1, .int .u64 size), (2, .pointer (some ⟨w.heap.size, 0, none⟩)), (18, .bool (p_s.1 != 2))]) hf (by kernel_rfl) ?_
        clear hf; clear a; intro a hf
        rcases Bool.eq_false_or_eq_true (p_s.1 != 2) with hb3 | hb3
        · replace hS := of_t hb3 hS
          replace hf := Fr.cast (L' := [(1, .int .u64 size), (2, .pointer (some ⟨w.heap.size, 0, none⟩)), (18, .bool true)]) hf (by rw [hb3])
          refine st tbOk 1 [1, 2, 18, 19] (L' := [(1, .int .u64 size), (2, .pointer (some ⟨w.heap.size, 0, none⟩)), (18, .bool true), (19, .pointer (some ⟨w.heap.size, 0, none⟩))]) hf (by kernel_rfl) ?_
          clear hf; clear a; intro a hf
          refine ldC tbOk (T := 22) (hs.cbx 0 rfl) (LeH.refl _) 0 (.int .u32 p_s.1) hf (by kernel_rfl) (by kernel_rfl) (by kernel_rfl) (by kernel_rfl) ?_
          clear hf; clear a; intro a hf
          replace hf := Fr.keep (ks := [1, 2, 18, 20]) (L' := [(1, .int .u64 size), (2, .pointer (some ⟨w.heap.size, 0, none⟩)), (18, .bool true), (20, .int .u32 p_s.1)]) hf (by kernel_rfl)
          refine st tbOk 3 [1, 2, 23] (L' := [(1, .int .u64 size), (2, .pointer (some ⟨w.heap.size, 0, none⟩)), (23, .bool (p_s.1 != 4))]) hf (by kernel_rfl) ?_
          clear hf; clear a; intro a hf
          rcases Bool.eq_false_or_eq_true (p_s.1 != 4) with hb4 | hb4
          · replace hS := of_t hb4 hS
            replace hf := Fr.cast (L' := [(1, .int .u64 size), (2, .pointer (some ⟨w.heap.size, 0, none⟩)), (23, .bool true)]) hf (by rw [hb4])
            refine st tbOk 1 [1, 2, 23, 24] (L' := [(1, .int .u64 size), (2, .pointer (some ⟨w.heap.size, 0, none⟩)), (23, .bool true), (24, .pointer (some ⟨w.heap.size, 0, none⟩))]) hf (by kernel_rfl) ?_
            clear hf; clear a; intro a hf
            refine ldC tbOk (T := 22) (hs.cbx 0 rfl) (LeH.refl _) 0 (.int .u32 p_s.1) hf (by kernel_rfl) (by kernel_rfl) (by kernel_rfl) (by kernel_rfl) ?_
            clear hf; clear a; intro a hf
            replace hf := Fr.keep (ks := [1, 2, 23, 25]) (L' := [(1, .int .u64 size), (2, .pointer (some ⟨w.heap.size, 0, none⟩)), (23, .bool true), (25, .int .u32 p_s.1)]) hf (by kernel_rfl)
            refine st tbOk 3 [1, 2, 28] (L' := [(1, .int .u64 size), (2, .pointer (some ⟨w.heap.size, 0, none⟩)), (28, .bool (p_s.1 != 7))]) hf (by kernel_rfl) ?_
            clear hf; clear a; intro a hf
            rcases Bool.eq_false_or_eq_true (p_s.1 != 7) with hb5 | hb5
            · replace hS := of_t hb5 hS
              replace hf := Fr.cast (L' := [(1, .int .u64 size), (2, .pointer (some ⟨w.heap.size, 0, none⟩)), (28, .bool true)]) hf (by rw [hb5])
              refine st tbOk 4 [1, 2, 32] (L' := [(1, .int .u64 size), (2, .pointer (some ⟨w.heap.size, 0, none⟩)), (32, .bool true)]) hf (by kernel_rfl) ?_
              clear hf; clear a; intro a hf
              refine wpList_nil ?_
              exact hK1 true _ _ ⟨_, hs.sel [0] rfl rfl, hf.keep (ks := [1, 2, 32]) (by kernel_rfl)⟩ hS
            · replace hS := of_f hb5 hS
              replace hf := Fr.cast (L' := [(1, .int .u64 size), (2, .pointer (some ⟨w.heap.size, 0, none⟩)), (28, .bool false)]) hf (by rw [hb5])
              refine st tbOk 1 [1, 2, 28, 29] (L' := [(1, .int .u64 size), (2, .pointer (some ⟨w.heap.size, 0, none⟩)), (28, .bool false), (29, .pointer (some ⟨w.heap.size, 1, none⟩))]) hf (by kernel_rfl) ?_
              clear hf; clear a; intro a hf
              refine ldC tbOk (T := 22) (hs.cbx 0 rfl) (LeH.refl _) 1 (.int .u32 p_s.2.1) hf (by kernel_rfl) (by kernel_rfl) (by kernel_rfl) (by kernel_rfl) ?_
              clear hf; clear a; intro a hf
              replace hf := Fr.keep (ks := [1, 2, 28, 30]) (L' := [(1, .int .u64 size), (2, .pointer (some ⟨w.heap.size, 0, none⟩)), (28, .bool false), (30, .int .u32 p_s.2.1)]) hf (by kernel_rfl)
              refine st tbOk 2 [1, 2, 32] (L' := [(1, .int .u64 size), (2, .pointer (some ⟨w.heap.size, 0, none⟩)), (32, .bool (decide (p_s.2.1 > 7)))]) hf (by kernel_rfl) ?_
              clear hf; clear a; intro a hf
              refine wpList_nil ?_
              exact hK1 (decide (p_s.2.1 > 7)) _ _ ⟨_, hs.sel [0] rfl rfl, hf.keep (ks := [1, 2, 32]) (by kernel_rfl)⟩ hS
          · replace hS := of_f hb4 hS
            replace hf := Fr.cast (L' := [(1, .int .u64 size), (2, .pointer (some ⟨w.heap.size, 0, none⟩)), (23, .bool false)]) hf (by rw [hb4])
            refine st tbOk 6 [1, 2, 28, 29] (L' := [(1, .int .u64 size), (2, .pointer (some ⟨w.heap.size, 0, none⟩)), (28, .bool false), (29, .pointer (some ⟨w.heap.size, 1, none⟩))]) hf (by kernel_rfl) ?_
            clear hf; clear a; intro a hf
            refine ldC tbOk (T := 22) (hs.cbx 0 rfl) (LeH.refl _) 1 (.int .u32 p_s.2.1) hf (by kernel_rfl) (by kernel_rfl) (by kernel_rfl) (by kernel_rfl) ?_
            clear hf; clear a; intro a hf
            replace hf := Fr.keep (ks := [1, 2, 28, 30]) (L' := [(1, .int .u64 size), (2, .pointer (some ⟨w.heap.size, 0, none⟩)), (28, .bool false), (30, .int .u32 p_s.2.1)]) hf (by kernel_rfl)
            refine st tbOk 2 [1, 2, 32] (L' := [(1, .int .u64 size), (2, .pointer (some ⟨w.heap.size, 0, none⟩)), (32, .bool (decide (p_s.2.1 > 7)))]) hf (by kernel_rfl) ?_
            clear hf; clear a; intro a hf
            refine wpList_nil ?_
            exact hK1 (decide (p_s.2.1 > 7)) _ _ ⟨_, hs.sel [0] rfl rfl, hf.keep (ks := [1, 2, 32]) (by kernel_rfl)⟩ hS
        · replace hS := of_f hb3 hS
          replace hf := Fr.cast (L' := [(1, .int .u64 size), (2, .pointer (some ⟨w.heap.size, 0, none⟩)), (18, .bool false)]) hf (by rw [hb3])
          refine st tbOk 11 [1, 2, 28, 29] (L' := [(1, .int .u64 size), (2, .pointer (some ⟨w.heap.size, 0, none⟩)), (28, .bool false), (29, .pointer (some ⟨w.heap.size, 1, none⟩))]) hf (by kernel_rfl) ?_
          clear hf; clear a; intro a hf
          refine ldC tbOk (T := 22) (hs.cbx 0 rfl) (LeH.refl _) 1 (.int .u32 p_s.2.1) hf (by kernel_rfl) (by kernel_rfl) (by kernel_rfl) (by kernel_rfl) ?_
          clear hf; clear a; intro a hf
          replace hf := Fr.keep (ks := [1, 2, 28, 30]) (L' := [(1, .int .u64 size), (2, .pointer (some ⟨w.heap.size, 0, none⟩)), (28, .bool false), (30, .int .u32 p_s.2.1)]) hf (by kernel_rfl)
          refine st tbOk 2 [1, 2, 32] (L' := [(1, .int .u64 size), (2, .pointer (some ⟨w.heap.size, 0, none⟩)), (32, .bool (decide (p_s.2.1 > 7)))]) hf (by kernel_rfl) ?_
          clear hf; clear a; intro a hf
          refine wpList_nil ?_
          exact hK1 (decide (p_s.2.1 > 7)) _ _ ⟨_, hs.sel [0] rfl rfl, hf.keep (ks := [1, 2, 32]) (by kernel_rfl)⟩ hS
      · replace hS := of_f hb2 hS
        replace hf := Fr.cast (L' := [(1, .int .u64 size), (2, .pointer (some ⟨w.heap.size, 0, none⟩)), (13, .bool false)]) hf (by rw [hb2])
        refine st tbOk 16 [1, 2, 28, 29] (L' := [(1, .int .u64 size), (2, .pointer (some ⟨w.heap.size, 0, none⟩)), (28, .bool false), (29, .pointer (some ⟨w.heap.size, 1, none⟩))]) hf (by kernel_rfl) ?_
        clear hf; clear a; intro a hf
        refine ldC tbOk (T := 22) (hs.cbx 0 rfl) (LeH.refl _) 1 (.int .u32 p_s.2.1) hf (by kernel_rfl) (by kernel_rfl) (by kernel_rfl) (by kernel_rfl) ?_
        clear hf; clear a; intro a hf
        replace hf := Fr.keep (ks := [1, 2, 28, 30]) (L' := [(1, .int .u64 size), (2, .pointer (some ⟨w.heap.size, 0, none⟩)), (28, .bool false), (30, .int .u32 p_s.2.1)]) hf (by kernel_rfl)
        refine st tbOk 2 [1, 2, 32] (L' := [(1, .int .u64 size), (2, .pointer (some ⟨w.heap.size, 0, none⟩)), (32, .bool (decide (p_s.2.1 > 7)))]) hf (by kernel_rfl) ?_
        clear hf; clear a; intro a hf
        refine wpList_nil ?_
        exact hK1 (decide (p_s.2.1 > 7)) _ _ ⟨_, hs.sel [0] rfl rfl, hf.keep (ks := [1, 2, 32]) (by kernel_rfl)⟩ hS
    · replace hS := of_f hb1 hS
      replace hf := Fr.cast (L' := [(1, .int .u64 size), (2, .pointer (some ⟨w.heap.size, 0, none⟩)), (8, .bool false)]) hf (by rw [hb1])
      refine st tbOk 21 [1, 2, 28, 29] (L' := [(1, .int .u64 size), (2, .pointer (some ⟨w.heap.size, 0, none⟩)), (28, .bool false), (29, .pointer (some ⟨w.heap.size, 1, none⟩))]) hf (by kernel_rfl) ?_
      clear hf; clear a; intro a hf
      refine ldC tbOk (T := 22) (hs.cbx 0 rfl) (LeH.refl _) 1 (.int .u32 p_s.2.1) hf (by kernel_rfl) (by kernel_rfl) (by kernel_rfl) (by kernel_rfl) ?_
      clear hf; clear a; intro a hf
      replace hf := Fr.keep (ks := [1, 2, 28, 30]) (L' := [(1, .int .u64 size), (2, .pointer (some ⟨w.heap.size, 0, none⟩)), (28, .bool false), (30, .int .u32 p_s.2.1)]) hf (by kernel_rfl)
      refine st tbOk 2 [1, 2, 32] (L' := [(1, .int .u64 size), (2, .pointer (some ⟨w.heap.size, 0, none⟩)), (32, .bool (decide (p_s.2.1 > 7)))]) hf (by kernel_rfl) ?_
      clear hf; clear a; intro a hf
      refine wpList_nil ?_
      exact hK1 (decide (p_s.2.1 > 7)) _ _ ⟨_, hs.sel [0] rfl rfl, hf.keep (ks := [1, 2, 32]) (by kernel_rfl)⟩ hS

end Dm
