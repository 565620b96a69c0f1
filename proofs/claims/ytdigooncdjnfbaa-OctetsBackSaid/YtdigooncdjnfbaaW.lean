/-
  The walks: a call of each Go function gives what its shallow form gives, where that form gives something; printed by a program of this repo. No condition.
-/
import Derived.Test.YtdigooncdjnfbaaProg
import Derived.Test.YtdigooncdjnfbaaLib
import Derived.Test.YtdigooncdjnfbaaS
namespace Dm
open Go Go.RowKit Go.Proofs

def tb : Tb := ⟨[(3, .int .i64), (4, .bool), (5, .int .u8), (9, .string), (22, .slice 5), (23, .int .u64), (37, .slice 3), (38, .int .u64)],
  [(3, .int .i64 0, 1, 8), (4, .bool false, 1, 1), (5, .int .u8 0, 1, 1), (9, .string ⟨#[]⟩, 1, 16), (22, .slice none 0 0, 1, 24), (23, .int .u64 0, 1, 8), (37, .slice none 0 0, 1, 24), (38, .int .u64 0, 1, 8)]⟩
theorem u3 : asc tb.und 3 = some (.int .i64) := by kernel_rfl
theorem u4 : asc tb.und 4 = some (.bool) := by kernel_rfl
theorem u5 : asc tb.und 5 = some (.int .u8) := by kernel_rfl
theorem u9 : asc tb.und 9 = some (.string) := by kernel_rfl
theorem u22 : asc tb.und 22 = some (.slice 5) := by kernel_rfl
theorem u23 : asc tb.und 23 = some (.int .u64) := by kernel_rfl
theorem u37 : asc tb.und 37 = some (.slice 3) := by kernel_rfl
theorem u38 : asc tb.und 38 = some (.int .u64) := by kernel_rfl
theorem i3 : asc tb.info 3 = some (.int .i64 0, 1, 8) := by kernel_rfl
theorem i4 : asc tb.info 4 = some (.bool false, 1, 1) := by kernel_rfl
theorem i5 : asc tb.info 5 = some (.int .u8 0, 1, 1) := by kernel_rfl
theorem i9 : asc tb.info 9 = some (.string ⟨#[]⟩, 1, 16) := by kernel_rfl
theorem i22 : asc tb.info 22 = some (.slice none 0 0, 1, 24) := by kernel_rfl
theorem i23 : asc tb.info 23 = some (.int .u64 0, 1, 8) := by kernel_rfl
theorem i37 : asc tb.info 37 = some (.slice none 0 0, 1, 24) := by kernel_rfl
theorem i38 : asc tb.info 38 = some (.int .u64 0, 1, 8) := by kernel_rfl
theorem tbOk : TbOk Try.prog tb where
  und := by
    intro p hp
    simp only [tb, List.mem_cons, List.not_mem_nil, or_false] at hp
    rcases hp with rfl | rfl | rfl | rfl | rfl | rfl | rfl | rfl
    · exact Try.underlying3
    · exact Try.underlying4
    · exact Try.underlying5
    · exact Try.underlying9
    · exact Try.underlying22
    · exact Try.underlying23
    · exact Try.underlying37
    · exact Try.underlying38
  info := by
    intro p hp
    simp only [tb, List.mem_cons, List.not_mem_nil, or_false] at hp
    rcases hp with rfl | rfl | rfl | rfl | rfl | rfl | rfl | rfl
    · kernel_rfl
    · kernel_rfl
    · kernel_rfl
    · kernel_rfl
    · kernel_rfl
    · kernel_rfl
    · kernel_rfl
    · kernel_rfl
theorem ent11 : Ent Try.prog 11 := ⟨_, Try.func11, by kernel_rfl, by kernel_rfl⟩
theorem ent12 : Ent Try.prog 12 := ⟨_, Try.func12, by kernel_rfl, by kernel_rfl⟩
theorem ent13 : Ent Try.prog 13 := ⟨_, Try.func13, by kernel_rfl, by kernel_rfl⟩
theorem ent14 : Ent Try.prog 14 := ⟨_, Try.func14, by kernel_rfl, by kernel_rfl⟩
theorem ent15 : Ent Try.prog 15 := ⟨_, Try.func15, by kernel_rfl, by kernel_rfl⟩
theorem ent16 : Ent Try.prog 16 := ⟨_, Try.func16, by kernel_rfl, by kernel_rfl⟩
theorem ent17 : Ent Try.prog 17 := ⟨_, Try.func17, by kernel_rfl, by kernel_rfl⟩
theorem ent18 : Ent Try.prog 18 := ⟨_, Try.func18, by kernel_rfl, by kernel_rfl⟩
theorem ent19 : Ent Try.prog 19 := ⟨_, Try.func19, by kernel_rfl, by kernel_rfl⟩
theorem ent20 : Ent Try.prog 20 := ⟨_, Try.func20, by kernel_rfl, by kernel_rfl⟩
theorem ent21 : Ent Try.prog 21 := ⟨_, Try.func21, by kernel_rfl, by kernel_rfl⟩
theorem ent22 : Ent Try.prog 22 := ⟨_, Try.func22, by kernel_rfl, by kernel_rfl⟩
theorem ent23 : Ent Try.prog 23 := ⟨_, Try.func23, by kernel_rfl, by kernel_rfl⟩
theorem ent24 : Ent Try.prog 24 := ⟨_, Try.func24, by kernel_rfl, by kernel_rfl⟩
theorem ent25 : Ent Try.prog 25 := ⟨_, Try.func25, by kernel_rfl, by kernel_rfl⟩
theorem ent26 : Ent Try.prog 26 := ⟨_, Try.func26, by kernel_rfl, by kernel_rfl⟩
theorem ent27 : Ent Try.prog 27 := ⟨_, Try.func27, by kernel_rfl, by kernel_rfl⟩
theorem ent28 : Ent Try.prog 28 := ⟨_, Try.func28, by kernel_rfl, by kernel_rfl⟩
theorem ent29 : Ent Try.prog 29 := ⟨_, Try.func29, by kernel_rfl, by kernel_rfl⟩
theorem ent30 : Ent Try.prog 30 := ⟨_, Try.func30, by kernel_rfl, by kernel_rfl⟩
theorem mixed : Try.prog.follows .mixedOrders = true := by kernel_rfl

theorem octets_width_ok {w : World} {n : Int}  {r : Bool} (hS : octets_width n = some r) :
    Calls Try.prog 30 #[.int .i64 n] w (Gives (fun u w' => u = .bool r ∧ Ext w w')) := by
  unfold octets_width at hS
  refine fn_ok (vs := [.int .i64 n]) Try.func30 rfl 17 Try.ntmps30 (Nat.le_of_ble_eq_true rfl) ?_
  intro a hf
  replace hf := Fr.cast (L' := [(0, .int .i64 n)]) hf (by kernel_rfl)
  have hE := Ext.rfl' w
  refine sq ?_
  refine reg ?_
  refine st tbOk 1 [0] (L' := [(0, .int .i64 n)]) hf (by kernel_rfl) ?_
  clear hf; clear a; intro a hf
  refine wpList_nil ?_
  refine sq ?_
  refine ctj (fun (s1 : Bool) (a : Act) (w' : World) => Ext w w' ∧ Fr 17 [(2, .bool s1)] a) hS ?_ ?_
  · clear hS hf; clear a; clear hE; intro s1 a w1 hM hS
    obtain ⟨hE, hf⟩ := hM
    have hr := Option.some.inj hS; subst hr
    refine wp_ret ?_
    exact ret_ok hf (vs := [.bool s1]) (by kernel_rfl) ⟨rfl, hE⟩
  · clear hS; intro KK1 k1 hK1 hS
    refine reg ?_
    refine st tbOk 3 [0, 5] (L' := [(0, .int .i64 n), (5, .bool (n == 1))]) hf (by kernel_rfl) ?_
    clear hf; clear a; intro a hf
    rcases Bool.eq_false_or_eq_true (n == 1) with hb1 | hb1
    · replace hS := of_t hb1 hS
      replace hf := Fr.cast (L' := [(0, .int .i64 n), (5, .bool true)]) hf (by rw [hb1])
      refine st tbOk 12 [2] (L' := [(2, .bool true)]) hf (by kernel_rfl) ?_
      clear hf; clear a; intro a hf
      refine wpList_nil ?_
      exact hK1 true _ _ ⟨hE, hf.keep (ks := [2]) (by kernel_rfl)⟩ hS
    · replace hS := of_f hb1 hS
      replace hf := Fr.cast (L' := [(0, .int .i64 n), (5, .bool false)]) hf (by rw [hb1])
      refine st tbOk 4 [0, 9] (L' := [(0, .int .i64 n), (9, .bool (n == 2))]) hf (by kernel_rfl) ?_
      clear hf; clear a; intro a hf
      rcases Bool.eq_false_or_eq_true (n == 2) with hb2 | hb2
      · replace hS := of_t hb2 hS
        replace hf := Fr.cast (L' := [(0, .int .i64 n), (9, .bool true)]) hf (by rw [hb2])
        refine st tbOk 8 [2] (L' := [(2, .bool true)]) hf (by kernel_rfl) ?_
        clear hf; clear a; intro a hf
        refine wpList_nil ?_
        exact hK1 true _ _ ⟨hE, hf.keep (ks := [2]) (by kernel_rfl)⟩ hS
      · replace hS := of_f hb2 hS
        replace hf := Fr.cast (L' := [(0, .int .i64 n), (9, .bool false)]) hf (by rw [hb2])
        refine st tbOk 4 [0, 13] (L' := [(0, .int .i64 n), (13, .bool (n == 4))]) hf (by kernel_rfl) ?_
        clear hf; clear a; intro a hf
        rcases Bool.eq_false_or_eq_true (n == 4) with hb3 | hb3
        · replace hS := of_t hb3 hS
          replace hf := Fr.cast (L' := [(0, .int .i64 n), (13, .bool true)]) hf (by rw [hb3])
          refine st tbOk 4 [2] (L' := [(2, .bool true)]) hf (by kernel_rfl) ?_
          clear hf; clear a; intro a hf
          refine wpList_nil ?_
          exact hK1 true _ _ ⟨hE, hf.keep (ks := [2]) (by kernel_rfl)⟩ hS
        · replace hS := of_f hb3 hS
          replace hf := Fr.cast (L' := [(0, .int .i64 n), (13, .bool false)]) hf (by rw [hb3])
          refine st tbOk 4 [2] (L' := [(2, .bool (n == 8))]) hf (by kernel_rfl) ?_
          clear hf; clear a; intro a hf
          refine wpList_nil ?_
          exact hK1 (n == 8) _ _ ⟨hE, hf.keep (ks := [2]) (by kernel_rfl)⟩ hS

theorem octets_has_ok {w : World} {p_many : Int} {p_at : Int} {size : Int}  {r : Bool} (hS : octets_has p_many p_at size = some r) :
    Calls Try.prog 28 #[.int .i64 p_many, .int .u64 p_at, .int .u64 size] w (Gives (fun u w' => u = .bool r ∧ Ext w w')) := by
  unfold octets_has at hS
  refine fn_ok (vs := [.int .i64 p_many, .int .u64 p_at, .int .u64 size]) Try.func28 rfl 20 Try.ntmps28 (Nat.le_of_ble_eq_true rfl) ?_
  intro a hf
  replace hf := Fr.cast (L' := [(0, .int .i64 p_many), (1, .int .u64 p_at), (2, .int .u64 size)]) hf (by kernel_rfl)
  have hE := Ext.rfl' w
  refine sq ?_
  refine reg ?_
  refine st tbOk 1 [0, 1, 2] (L' := [(0, .int .i64 p_many), (1, .int .u64 p_at), (2, .int .u64 size)]) hf (by kernel_rfl) ?_
  clear hf; clear a; intro a hf
  refine wpList_nil ?_
  refine sq ?_
  refine reg ?_
  have hT := of_let hS; clear hS; obtain ⟨all_1, hl1, hS⟩ := hT
  refine st tbOk 3 [1, 2, 7] (L' := [(1, .int .u64 p_at), (2, .int .u64 size), (7, .int .u64 all_1)]) hf (by subst hl1; kernel_rfl) ?_
  clear hf; clear a; intro a hf
  refine wpList_nil ?_
  refine sq ?_
  refine ctj (fun (s1 : Bool) (a : Act) (w' : World) => Ext w w' ∧ Fr 20 [(6, .bool s1)] a) hS ?_ ?_
  · clear hS hf; clear a; clear hE; intro s1 a w1 hM hS
    obtain ⟨hE, hf⟩ := hM
    have hr := Option.some.inj hS; subst hr
    refine wp_ret ?_
    exact ret_ok hf (vs := [.bool s1]) (by kernel_rfl) ⟨rfl, hE⟩
  · clear hS; intro KK1 k1 hK1 hS
    refine reg ?_
    refine st tbOk 4 [1, 2, 7, 13] (L' := [(1, .int .u64 p_at), (2, .int .u64 size), (7, .int .u64 all_1), (13, .bool (decide (p_at ≤ all_1)))]) hf (by kernel_rfl) ?_
    clear hf; clear a; intro a hf
    rcases Bool.eq_false_or_eq_true (decide (p_at ≤ all_1)) with hb1 | hb1
    · replace hS := of_t hb1 hS
      replace hf := Fr.cast (L' := [(1, .int .u64 p_at), (2, .int .u64 size), (7, .int .u64 all_1), (13, .bool true)]) hf (by rw [hb1])
      refine st tbOk 7 [6] (L' := [(6, .bool (decide (size ≤ (IntKind.u64.wrap (all_1 - p_at)))))]) hf (by kernel_rfl) ?_
      clear hf; clear a; intro a hf
      refine wpList_nil ?_
      exact hK1 (decide (size ≤ (IntKind.u64.wrap (all_1 - p_at)))) _ _ ⟨hE, hf.keep (ks := [6]) (by kernel_rfl)⟩ hS
    · replace hS := of_f hb1 hS
      replace hf := Fr.cast (L' := [(1, .int .u64 p_at), (2, .int .u64 size), (7, .int .u64 all_1), (13, .bool false)]) hf (by rw [hb1])
      refine st tbOk 7 [6] (L' := [(6, .bool false)]) hf (by kernel_rfl) ?_
      clear hf; clear a; intro a hf
      refine wpList_nil ?_
      exact hK1 false _ _ ⟨hE, hf.keep (ks := [6]) (by kernel_rfl)⟩ hS

theorem octets_fits_ok {w : World} {b : List Int} {p_at : Int} {n : Int} {v_b : Value} (h_b : RO (hp w) (tI .u8) v_b b) {r : Int} (hS : octets_fits b p_at n = some r) :
    Calls Try.prog 24 #[v_b, .int .u64 p_at, .int .i64 n] w (Gives (fun u w' => u = .int .i64 r ∧ Ext w w')) := by
  obtain ⟨ao_b, cp_b, e_b⟩ := h_b.shape; subst e_b
  unfold octets_fits at hS
  refine fn_ok (vs := [.slice ao_b b.length cp_b, .int .u64 p_at, .int .i64 n]) Try.func24 rfl 19 Try.ntmps24 (Nat.le_of_ble_eq_true rfl) ?_
  intro a hf
  replace hf := Fr.cast (L' := [(0, .slice ao_b b.length cp_b), (1, .int .u64 p_at), (2, .int .i64 n)]) hf (by kernel_rfl)
  have hE := Ext.rfl' w
  refine sq ?_
  refine reg ?_
  refine st tbOk 1 [0, 1, 2] (L' := [(0, .slice ao_b b.length cp_b), (1, .int .u64 p_at), (2, .int .i64 n)]) hf (by kernel_rfl) ?_
  clear hf; clear a; intro a hf
  refine wpList_nil ?_
  refine sq ?_
  refine blk ?_
  refine sq ?_
  refine reg ?_
  refine st tbOk 1 [0, 1, 2, 8] (L' := [(0, .slice ao_b b.length cp_b), (1, .int .u64 p_at), (2, .int .i64 n), (8, .int .i64 n)]) hf (by kernel_rfl) ?_
  clear hf; clear a; intro a hf
  have hT := of_bd hS; clear hS; obtain ⟨z1, hz1, hS⟩ := hT
  refine cl ent30 (vs := [.int .i64 n]) hf (by kernel_rfl) (by kernel_rfl) (by kernel_rfl) (octets_width_ok  hz1) ?_
  clear hf; clear a; intro v w1 a hT hf; obtain ⟨rfl, hx⟩ := hT
  replace hE := hE.tr hx
  replace hf := Fr.keep (ks := [0, 1, 2, 9]) (L' := [(0, .slice ao_b b.length cp_b), (1, .int .u64 p_at), (2, .int .i64 n), (9, .bool z1)]) hf (by kernel_rfl)
  refine st tbOk 2 [0, 1, 2, 7] (L' := [(0, .slice ao_b b.length cp_b), (1, .int .u64 p_at), (2, .int .i64 n), (7, .bool (!z1))]) hf (by kernel_rfl) ?_
  clear hf; clear a; intro a hf
  refine wpList_nil ?_
  refine cnd (b := !z1) hf (by kernel_rfl) (fun hb1 => ?_) (fun hb1 => ?_)
  · replace hS := of_t hb1 hS
    refine sq ?_
    refine reg ?_
    refine st tbOk 1 [6] (L' := [(6, .int .i64 1)]) hf (by kernel_rfl) ?_
    clear hf; clear a; intro a hf
    refine wpList_nil ?_
    have hr := Option.some.inj hS; subst hr
    refine wp_ret ?_
    exact ret_ok hf (vs := [.int .i64 1]) (by kernel_rfl) ⟨rfl, hE⟩
  · replace hS := of_f hb1 hS
    refine sq ?_
    refine reg ?_
    refine st tbOk 5 [13, 14, 16] (L' := [(13, .int .i64 ((b.length : Nat) : Int)), (14, .int .u64 p_at), (16, .int .u64 (IntKind.u64.wrap n))]) hf (by kernel_rfl) ?_
    clear hf; clear a; intro a hf
    have hT := of_bd hS; clear hS; obtain ⟨z2, hz2, hS⟩ := hT
    refine cl ent28 (vs := [.int .i64 ((b.length : Nat) : Int), .int .u64 p_at, .int .u64 (IntKind.u64.wrap n)]) hf (by kernel_rfl) (by kernel_rfl) (by kernel_rfl) (octets_has_ok  hz2) ?_
    clear hf; clear a; intro v w2 a hT hf; obtain ⟨rfl, hx⟩ := hT
    replace hE := hE.tr hx
    replace hf := Fr.keep (ks := [17]) (L' := [(17, .bool z2)]) hf (by kernel_rfl)
    refine st tbOk 2 [11] (L' := [(11, .bool (!z2))]) hf (by kernel_rfl) ?_
    clear hf; clear a; intro a hf
    refine wpList_nil ?_
    refine cnd (b := !z2) hf (by kernel_rfl) (fun hb2 => ?_) (fun hb2 => ?_)
    · replace hS := of_t hb2 hS
      refine sq ?_
      refine reg ?_
      refine st tbOk 1 [6] (L' := [(6, .int .i64 10)]) hf (by kernel_rfl) ?_
      clear hf; clear a; intro a hf
      refine wpList_nil ?_
      have hr := Option.some.inj hS; subst hr
      refine wp_ret ?_
      exact ret_ok hf (vs := [.int .i64 10]) (by kernel_rfl) ⟨rfl, hE⟩
    · replace hS := of_f hb2 hS
      refine wp_skip ?_
      refine sq ?_
      refine reg ?_
      refine st tbOk 1 [6] (L' := [(6, .int .i64 0)]) hf (by kernel_rfl) ?_
      clear hf; clear a; intro a hf
      refine wpList_nil ?_
      have hr := Option.some.inj hS; subst hr
      refine wp_ret ?_
      exact ret_ok hf (vs := [.int .i64 0]) (by kernel_rfl) ⟨rfl, hE⟩

theorem octets_Get_ok {w : World} {b : List Int} {p_at : Int} {n : Int} {v_b : Value} (h_b : RO (hp w) (tI .u8) v_b b) {r : Int × Int} (hS : octets_Get b p_at n = some r) :
    Calls Try.prog 12 #[v_b, .int .u64 p_at, .int .i64 n] w (Gives (fun u w' => u = .tuple #[.int .u64 r.1, .int .i64 r.2] ∧ Ext w w')) := by
  obtain ⟨ao_b, cp_b, e_b⟩ := h_b.shape; subst e_b
  unfold octets_Get at hS
  refine fn_ok (vs := [.slice ao_b b.length cp_b, .int .u64 p_at, .int .i64 n]) Try.func12 rfl 38 Try.ntmps12 (Nat.le_of_ble_eq_true rfl) ?_
  intro a hf
  replace hf := Fr.cast (L' := [(0, .slice ao_b b.length cp_b), (1, .int .u64 p_at), (2, .int .i64 n)]) hf (by kernel_rfl)
  have hE := Ext.rfl' w
  refine sq ?_
  refine reg ?_
  refine st tbOk 2 [0, 1, 2] (L' := [(0, .slice ao_b b.length cp_b), (1, .int .u64 p_at), (2, .int .i64 n)]) hf (by kernel_rfl) ?_
  clear hf; clear a; intro a hf
  refine wpList_nil ?_
  refine sq ?_
  refine sq ?_
  refine reg ?_
  refine st tbOk 3 [0, 1, 2, 11, 12, 13] (L' := [(0, .slice ao_b b.length cp_b), (1, .int .u64 p_at), (2, .int .i64 n), (11, .slice ao_b b.length cp_b), (12, .int .u64 p_at), (13, .int .i64 n)]) hf (by kernel_rfl) ?_
  clear hf; clear a; intro a hf
  have hT := of_bd hS; clear hS; obtain ⟨z1, hz1, hS⟩ := hT
  refine cl ent24 (vs := [.slice ao_b b.length cp_b, .int .u64 p_at, .int .i64 n]) hf (by kernel_rfl) (by kernel_rfl) (by kernel_rfl) (octets_fits_ok h_b hz1) ?_
  clear hf; clear a; intro v w1 a hT hf; obtain ⟨rfl, hx⟩ := hT
  replace hE := hE.tr hx
  replace hf := Fr.keep (ks := [0, 1, 2, 14]) (L' := [(0, .slice ao_b b.length cp_b), (1, .int .u64 p_at), (2, .int .i64 n), (14, .int .i64 z1)]) hf (by kernel_rfl)
  refine st tbOk 1 [0, 1, 2, 8] (L' := [(0, .slice ao_b b.length cp_b), (1, .int .u64 p_at), (2, .int .i64 n), (8, .int .i64 z1)]) hf (by kernel_rfl) ?_
  clear hf; clear a; intro a hf
  refine wpList_nil ?_
  refine sq ?_
  refine reg ?_
  refine st tbOk 2 [0, 1, 2, 8, 16] (L' := [(0, .slice ao_b b.length cp_b), (1, .int .u64 p_at), (2, .int .i64 n), (8, .int .i64 z1), (16, .bool (z1 != 0))]) hf (by kernel_rfl) ?_
  clear hf; clear a; intro a hf
  refine wpList_nil ?_
  refine cnd (b := z1 != 0) hf (by kernel_rfl) (fun hb1 => ?_) (fun hb1 => ?_)
  · replace hS := of_t hb1 hS
    refine sq ?_
    refine reg ?_
    refine st tbOk 3 [6, 7] (L' := [(6, .int .u64 0), (7, .int .i64 z1)]) hf (by kernel_rfl) ?_
    clear hf; clear a; intro a hf
    refine wpList_nil ?_
    have hr := Option.some.inj hS; subst hr
    refine wp_ret ?_
    exact ret_ok hf (vs := [.int .u64 0, .int .i64 z1]) (by kernel_rfl) ⟨rfl, hE⟩
  · replace hS := of_f hb1 hS
    refine wp_skip ?_
    refine sq ?_
    refine reg ?_
    refine st tbOk 1 [0, 1, 2, 9] (L' := [(0, .slice ao_b b.length cp_b), (1, .int .u64 p_at), (2, .int .i64 n), (9, .int .u64 0)]) hf (by kernel_rfl) ?_
    clear hf; clear a; intro a hf
    refine wpList_nil ?_
    refine sq ?_
    refine sq ?_
    refine reg ?_
    refine st tbOk 2 [0, 1, 9, 18, 19] (L' := [(0, .slice ao_b b.length cp_b), (1, .int .u64 p_at), (9, .int .u64 0), (18, .int .i64 n), (19, .int .i64 0)]) hf (by kernel_rfl) ?_
    clear hf; clear a; intro a hf
    refine wpList_nil ?_
    refine ctj (fun (s1 : Int) (a : Act) (w' : World) => Ext w w' ∧ Fr 38 [(9, .int .u64 s1)] a) hS ?_ ?_
    · clear hS hf; clear a; clear hE; intro s1 a w3 hM hS
      obtain ⟨hE, hf⟩ := hM
      refine sq ?_
      refine reg ?_
      refine st tbOk 3 [6, 7] (L' := [(6, .int .u64 s1), (7, .int .i64 0)]) hf (by kernel_rfl) ?_
      clear hf; clear a; intro a hf
      refine wpList_nil ?_
      have hr := Option.some.inj hS; subst hr
      refine wp_ret ?_
      exact ret_ok hf (vs := [.int .u64 s1, .int .i64 0]) (by kernel_rfl) ⟨rfl, hE⟩
    · clear hS; intro KK1 k1 hK1 hS
      refine blk ?_
      refine lp (st := (0, 0)) (fun (s2 : Int × Int) (a : Act) (w' : World) => Ext w w' ∧ Fr 38 [(0, .slice ao_b b.length cp_b), (1, .int .u64 p_at), (9, .int .u64 s2.1), (18, .int .i64 n), (19, .int .i64 s2.2)] a) ?_ ⟨hE, hf.keep (ks := [0, 1, 9, 18, 19]) (by kernel_rfl)⟩ hS
      clear hS hf; clear a; clear hE
      intro rec1 KK2 hK2 s2 a w2 hM hS
      obtain ⟨hE, hf⟩ := hM
      refine sq ?_
      refine reg ?_
      refine st tbOk 1 [0, 1, 9, 18, 19, 20] (L' := [(0, .slice ao_b b.length cp_b), (1, .int .u64 p_at), (9, .int .u64 s2.1), (18, .int .i64 n), (19, .int .i64 s2.2), (20, .bool (decide (s2.2 < n)))]) hf (by kernel_rfl) ?_
      clear hf; clear a; intro a hf
      refine wpList_nil ?_
      refine sq ?_
      refine cnd (b := decide (s2.2 < n)) hf (by kernel_rfl) (fun hb2 => ?_) (fun hb2 => ?_)
      · replace hS := of_t hb2 hS
        refine wp_skip ?_
        refine sq ?_
        refine blk ?_
        refine sq ?_
        refine reg ?_
        refine st tbOk 2 [0, 1, 9, 10, 18, 19] (L' := [(0, .slice ao_b b.length cp_b), (1, .int .u64 p_at), (9, .int .u64 s2.1), (10, .int .i64 s2.2), (18, .int .i64 n), (19, .int .i64 s2.2)]) hf (by kernel_rfl) ?_
        clear hf; clear a; intro a hf
        refine wpList_nil ?_
        refine reg ?_
        refine st tbOk 6 [0, 1, 10, 18, 19, 22, 23, 27] (L' := [(0, .slice ao_b b.length cp_b), (1, .int .u64 p_at), (10, .int .i64 s2.2), (18, .int .i64 n), (19, .int .i64 s2.2), (22, .int .u64 s2.1), (23, .slice ao_b b.length cp_b), (27, .int .i64 (IntKind.i64.wrap ((IntKind.i64.wrap p_at) + s2.2)))]) hf (by kernel_rfl) ?_
        clear hf; clear a; intro a hf
        have hT := of_gd hS; clear hS; obtain ⟨hc1, hS⟩ := hT
        refine ix tbOk u22 i5 rfl rfl h_b (k := .i64) (n := IntKind.i64.wrap ((IntKind.i64.wrap p_at) + s2.2)) hc1 hf (by kernel_rfl) (by kernel_rfl) (by kernel_rfl) (by kernel_rfl) ?_
        clear hf; clear a; intro p1 c1 a hp1 hr1 hf
        obtain rfl : c1 = [.int .u8 (gt b (IntKind.i64.wrap ((IntKind.i64.wrap p_at) + s2.2)))] := hr1
        replace hf := Fr.keep (ks := [0, 1, 10, 18, 19, 22, 28]) (L' := [(0, .slice ao_b b.length cp_b), (1, .int .u64 p_at), (10, .int .i64 s2.2), (18, .int .i64 n), (19, .int .i64 s2.2), (22, .int .u64 s2.1), (28, .pointer (some p1))]) hf (by kernel_rfl)
        refine ld tbOk u5 rfl hp1 hE.le hf (by kernel_rfl) (by kernel_rfl) (by kernel_rfl) ?_
        clear hf; clear a; intro a hf
        replace hf := Fr.keep (ks := [0, 1, 10, 18, 19, 22, 29]) (L' := [(0, .slice ao_b b.length cp_b), (1, .int .u64 p_at), (10, .int .i64 s2.2), (18, .int .i64 n), (19, .int .i64 s2.2), (22, .int .u64 s2.1), (29, .int .u8 (gt b (IntKind.i64.wrap ((IntKind.i64.wrap p_at) + s2.2))))]) hf (by kernel_rfl)
        refine st tbOk 4 [0, 1, 18, 19, 22, 30, 33] (L' := [(0, .slice ao_b b.length cp_b), (1, .int .u64 p_at), (18, .int .i64 n), (19, .int .i64 s2.2), (22, .int .u64 s2.1), (30, .int .u64 (IntKind.u64.wrap (gt b (IntKind.i64.wrap ((IntKind.i64.wrap p_at) + s2.2))))), (33, .int .u64 (IntKind.u64.wrap (IntKind.i64.wrap (8 * s2.2))))]) hf (by kernel_rfl) ?_
        clear hf; clear a; intro a hf
        have hT := of_gd hS; clear hS; obtain ⟨hc2, hS⟩ := hT
        refine bin (run_shl (k := .u64) (k' := .u64) (x := IntKind.u64.wrap (gt b (IntKind.i64.wrap ((IntKind.i64.wrap p_at) + s2.2)))) hc2 _) hf (by kernel_rfl) (by kernel_rfl) (by kernel_rfl) (by kernel_rfl) ?_
        clear hf; clear a; intro a hf
        replace hf := Fr.keep (ks := [0, 1, 18, 19, 22, 34]) (L' := [(0, .slice ao_b b.length cp_b), (1, .int .u64 p_at), (18, .int .i64 n), (19, .int .i64 s2.2), (22, .int .u64 s2.1), (34, .int .u64 (shl .u64 (IntKind.u64.wrap (gt b (IntKind.i64.wrap ((IntKind.i64.wrap p_at) + s2.2)))) (IntKind.u64.wrap (IntKind.i64.wrap (8 * s2.2)))))]) hf (by kernel_rfl)
        have hT := of_let hS; clear hS; obtain ⟨x_1, hl1, hS⟩ := hT
        refine st tbOk 2 [0, 1, 9, 18, 19] (L' := [(0, .slice ao_b b.length cp_b), (1, .int .u64 p_at), (9, .int .u64 x_1), (18, .int .i64 n), (19, .int .i64 s2.2)]) hf (by subst hl1; kernel_rfl) ?_
        clear hf; clear a; intro a hf
        refine wpList_nil ?_
        refine reg ?_
        refine st tbOk 2 [0, 1, 9, 18, 19] (L' := [(0, .slice ao_b b.length cp_b), (1, .int .u64 p_at), (9, .int .u64 x_1), (18, .int .i64 n), (19, .int .i64 (IntKind.i64.wrap (s2.2 + 1)))]) hf (by kernel_rfl) ?_
        clear hf; clear a; intro a hf
        refine wpList_nil ?_
        exact hK2 (x_1, IntKind.i64.wrap (s2.2 + 1)) _ _ ⟨hE, hf.keep (ks := [0, 1, 9, 18, 19]) (by kernel_rfl)⟩ hS
      · replace hS := of_f hb2 hS
        refine wp_exit ?_
        exact hK1 s2.1 _ _ ⟨hE, hf.keep (ks := [9]) (by kernel_rfl)⟩ hS

theorem slices_Clone_byte_byte_ok {w : World} {s : List Int} {v_s : Value} (h_s : RO (hp w) (tI .u8) v_s s) {r : List Int} (hS : slices_Clone_byte_byte s = some r) :
    Calls Try.prog 27 #[v_s] w (Gives (fun u w' => ∃ (ao1 : Option Addr) (cp1 : Nat), u = .slice ao1 r.length cp1 ∧ Ext w w' ∧ Own w' w.heap.size mt 5 (tI .u8) (.slice ao1 r.length cp1) r)) := by
  obtain ⟨ao_s, cp_s, e_s⟩ := h_s.shape; subst e_s
  unfold slices_Clone_byte_byte at hS
  obtain ⟨hc1, hS⟩ := of_gd hS
  have hr := Option.some.inj hS; subst hr
  refine fn_ok (vs := [.slice ao_s s.length cp_s]) Try.func27 rfl 8 Try.ntmps27 (Nat.le_of_ble_eq_true rfl) ?_
  intro a hf
  replace hf := Fr.cast (L' := [(0, .slice ao_s s.length cp_s)]) hf (by kernel_rfl)
  have hE := Ext.rfl' w
  refine sq ?_
  refine reg ?_
  refine st tbOk 1 [0] (L' := [(0, .slice ao_s s.length cp_s)]) hf (by kernel_rfl) ?_
  clear hf; clear a; intro a hf
  refine wpList_nil ?_
  refine sq ?_
  refine sq ?_
  refine reg ?_
  refine st tbOk 1 [0, 3] (L' := [(0, .slice ao_s s.length cp_s), (3, .slice ao_s s.length cp_s)]) hf (by kernel_rfl) ?_
  clear hf; clear a; intro a hf
  refine eqnil tbOk u22 (ao := ao_s) (n := s.length) (c := cp_s) hf (by kernel_rfl) (by kernel_rfl) (by kernel_rfl) ?_
  clear hf; clear a; intro a hf
  refine wpList_nil ?_
  refine cnd (b := ao_s.isNone) hf (by kernel_rfl) (fun hb => ?_) (fun hb => ?_)
  · have hao : ao_s = none := by simpa using hb
    subst hao
    have hnil := h_s.none_nil (Nat.le_of_ble_eq_true rfl)
    subst hnil
    refine sq ?_
    refine reg ?_
    refine st tbOk 1 [2] (L' := [(2, .slice none 0 0)]) hf (by kernel_rfl) ?_
    clear hf; clear a; intro a hf
    refine wpList_nil ?_
    refine wp_ret ?_
    exact ret_ok hf (vs := [.slice none 0 0]) (by kernel_rfl) ⟨none, 0, rfl, hE, Own.nil _ _ _ _ _⟩
  · refine wp_skip ?_
    refine sq ?_
    refine reg ?_
    refine bs tbOk u22 i5 rfl (t := (tI .u8)) (vs := []) (cells := #[]) ([] : List Int) hf (by kernel_rfl) (by kernel_rfl) (by kernel_rfl) rfl (by kernel_rfl) (reps_flat _) rfl ?_
    clear hf; clear a; intro w1 a ho1 hx hz hf
    replace ho1 := ho1.base hE.size
    replace hE := hE.tr hx
    refine st tbOk 1 [5, 6] (L' := [(5, .slice (some ⟨w.heap.size, 0, none⟩) ([] : List Int).length ([] : List Int).length), (6, .slice ao_s s.length cp_s)]) hf (by kernel_rfl) ?_
    clear hf; clear a; intro a hf
    refine ap tbOk u22 i5 rfl rfl rfl (flat_I .u8) rfl ho1 hE.size h_s hE.le (by simpa using hc1) hf (by kernel_rfl) (by kernel_rfl) (by kernel_rfl) (by kernel_rfl) ?_
    clear hf; clear a; intro ao2 cp2 w2 a ho2 hg hloc hf
    replace hE := hE.grow hg (fun k hk => (ho1.lt k hk).1)
    refine st tbOk 1 [2] (L' := [(2, .slice ao2 s.length cp2)]) hf (by kernel_rfl) ?_
    clear hf; clear a; intro a hf
    refine wpList_nil ?_
    refine wp_ret ?_
    exact ret_ok hf (vs := [.slice ao2 s.length cp2]) (by kernel_rfl) ⟨ao2, cp2, rfl, hE, ho2⟩

theorem octets_Set_ok {w : World} {b : List Int} {p_at : Int} {n : Int} {p_x : Int} {v_b : Value} (h_b : RO (hp w) (tI .u8) v_b b) {r : (List Int) × Int} (hS : octets_Set b p_at n p_x = some r) :
    Calls Try.prog 14 #[v_b, .int .u64 p_at, .int .i64 n, .int .u64 p_x] w (Gives (fun u w' => ∃ (ao1 : Option Addr) (cp1 : Nat), u = .tuple #[.slice ao1 r.1.length cp1, .int .i64 r.2] ∧ Ext w w' ∧ Own w' w.heap.size mt 5 (tI .u8) (.slice ao1 r.1.length cp1) r.1)) := by
  obtain ⟨ao_b, cp_b, e_b⟩ := h_b.shape; subst e_b
  unfold octets_Set at hS
  refine fn_ok (vs := [.slice ao_b b.length cp_b, .int .u64 p_at, .int .i64 n, .int .u64 p_x]) Try.func14 rfl 40 Try.ntmps14 (Nat.le_of_ble_eq_true rfl) ?_
  intro a hf
  replace hf := Fr.cast (L' := [(0, .slice ao_b b.length cp_b), (1, .int .u64 p_at), (2, .int .i64 n), (3, .int .u64 p_x)]) hf (by kernel_rfl)
  have hE := Ext.rfl' w
  refine sq ?_
  refine reg ?_
  refine st tbOk 2 [0, 1, 2, 3] (L' := [(0, .slice ao_b b.length cp_b), (1, .int .u64 p_at), (2, .int .i64 n), (3, .int .u64 p_x)]) hf (by kernel_rfl) ?_
  clear hf; clear a; intro a hf
  refine wpList_nil ?_
  refine sq ?_
  refine sq ?_
  refine reg ?_
  refine st tbOk 3 [0, 1, 2, 3, 13, 14, 15] (L' := [(0, .slice ao_b b.length cp_b), (1, .int .u64 p_at), (2, .int .i64 n), (3, .int .u64 p_x), (13, .slice ao_b b.length cp_b), (14, .int .u64 p_at), (15, .int .i64 n)]) hf (by kernel_rfl) ?_
  clear hf; clear a; intro a hf
  have hT := of_bd hS; clear hS; obtain ⟨z1, hz1, hS⟩ := hT
  refine cl ent24 (vs := [.slice ao_b b.length cp_b, .int .u64 p_at, .int .i64 n]) hf (by kernel_rfl) (by kernel_rfl) (by kernel_rfl) (octets_fits_ok h_b hz1) ?_
  clear hf; clear a; intro v w1 a hT hf; obtain ⟨rfl, hx⟩ := hT
  replace hE := hE.tr hx
  replace hf := Fr.keep (ks := [0, 1, 2, 3, 16]) (L' := [(0, .slice ao_b b.length cp_b), (1, .int .u64 p_at), (2, .int .i64 n), (3, .int .u64 p_x), (16, .int .i64 z1)]) hf (by kernel_rfl)
  refine st tbOk 1 [0, 1, 2, 3, 10] (L' := [(0, .slice ao_b b.length cp_b), (1, .int .u64 p_at), (2, .int .i64 n), (3, .int .u64 p_x), (10, .int .i64 z1)]) hf (by kernel_rfl) ?_
  clear hf; clear a; intro a hf
  refine wpList_nil ?_
  refine sq ?_
  refine reg ?_
  refine st tbOk 2 [0, 1, 2, 3, 10, 18] (L' := [(0, .slice ao_b b.length cp_b), (1, .int .u64 p_at), (2, .int .i64 n), (3, .int .u64 p_x), (10, .int .i64 z1), (18, .bool (z1 != 0))]) hf (by kernel_rfl) ?_
  clear hf; clear a; intro a hf
  refine wpList_nil ?_
  refine cnd (b := z1 != 0) hf (by kernel_rfl) (fun hb1 => ?_) (fun hb1 => ?_)
  · replace hS := of_t hb1 hS
    refine sq ?_
    refine reg ?_
    refine st tbOk 3 [8, 9] (L' := [(8, .slice none 0 0), (9, .int .i64 z1)]) hf (by kernel_rfl) ?_
    clear hf; clear a; intro a hf
    refine wpList_nil ?_
    have hr := Option.some.inj hS; subst hr
    refine wp_ret ?_
    exact ret_ok hf (vs := [.slice none 0 0, .int .i64 z1]) (by kernel_rfl) ⟨none, 0, rfl, hE, Own.nil _ _ _ _ _⟩
  · replace hS := of_f hb1 hS
    refine wp_skip ?_
    refine sq ?_
    refine reg ?_
    refine st tbOk 1 [1, 2, 3, 20] (L' := [(1, .int .u64 p_at), (2, .int .i64 n), (3, .int .u64 p_x), (20, .slice ao_b b.length cp_b)]) hf (by kernel_rfl) ?_
    clear hf; clear a; intro a hf
    have hT := of_bd hS; clear hS; obtain ⟨z2, hz2, hS⟩ := hT
    refine cl ent27 (vs := [.slice ao_b b.length cp_b]) hf (by kernel_rfl) (by kernel_rfl) (by kernel_rfl) (slices_Clone_byte_byte_ok (h_b.mono hE.le) hz2) ?_
    clear hf; clear a; intro v w2 a hT hf; obtain ⟨ao1, cp1, rfl, hx, ho1⟩ := hT
    replace ho1 := ho1.base hE.size
    replace hE := hE.tr hx
    replace hf := Fr.keep (ks := [1, 2, 3, 21]) (L' := [(1, .int .u64 p_at), (2, .int .i64 n), (3, .int .u64 p_x), (21, .slice ao1 z2.length cp1)]) hf (by kernel_rfl)
    refine st tbOk 1 [1, 2, 3, 11] (L' := [(1, .int .u64 p_at), (2, .int .i64 n), (3, .int .u64 p_x), (11, .slice ao1 z2.length cp1)]) hf (by kernel_rfl) ?_
    clear hf; clear a; intro a hf
    refine wpList_nil ?_
    refine sq ?_
    refine sq ?_
    refine reg ?_
    refine st tbOk 2 [1, 3, 11, 22, 23] (L' := [(1, .int .u64 p_at), (3, .int .u64 p_x), (11, .slice ao1 z2.length cp1), (22, .int .i64 n), (23, .int .i64 0)]) hf (by kernel_rfl) ?_
    clear hf; clear a; intro a hf
    refine wpList_nil ?_
    refine ctj (fun (s1 : (List Int)) (a : Act) (w' : World) => ∃ (ao2 : Option Addr) (cp2 : Nat), Ext w w' ∧ Own w' w.heap.size mt 5 (tI .u8) (.slice ao2 s1.length cp2) s1 ∧ Fr 40 [(11, .slice ao2 s1.length cp2)] a) hS ?_ ?_
    · clear hS hf; clear a; clear hE; intro s1 a w5 hM hS
      obtain ⟨ao2, cp2, hE, ho2, hf⟩ := hM
      refine sq ?_
      refine reg ?_
      refine st tbOk 3 [8, 9] (L' := [(8, .slice ao2 s1.length cp2), (9, .int .i64 0)]) hf (by kernel_rfl) ?_
      clear hf; clear a; intro a hf
      refine wpList_nil ?_
      have hr := Option.some.inj hS; subst hr
      refine wp_ret ?_
      exact ret_ok hf (vs := [.slice ao2 s1.length cp2, .int .i64 0]) (by kernel_rfl) ⟨ao2, cp2, rfl, hE, ho2⟩
    · clear hS; intro KK1 k1 hK1 hS
      refine blk ?_
      refine lp (st := (z2, 0)) (fun (s2 : (List Int) × Int) (a : Act) (w' : World) => ∃ (ao3 : Option Addr) (cp3 : Nat), Ext w w' ∧ Own w' w.heap.size mt 5 (tI .u8) (.slice ao3 s2.1.length cp3) s2.1 ∧ Fr 40 [(1, .int .u64 p_at), (3, .int .u64 p_x), (11, .slice ao3 s2.1.length cp3), (22, .int .i64 n), (23, .int .i64 s2.2)] a) ?_ ⟨ao1, cp1, hE, ho1, hf.keep (ks := [1, 3, 11, 22, 23]) (by kernel_rfl)⟩ hS
      clear hS hf; clear a; clear hE
      intro rec1 KK2 hK2 s2 a w3 hM hS
      obtain ⟨ao3, cp3, hE, ho3, hf⟩ := hM
      refine sq ?_
      refine reg ?_
      refine st tbOk 1 [1, 3, 11, 22, 23, 24] (L' := [(1, .int .u64 p_at), (3, .int .u64 p_x), (11, .slice ao3 s2.1.length cp3), (22, .int .i64 n), (23, .int .i64 s2.2), (24, .bool (decide (s2.2 < n)))]) hf (by kernel_rfl) ?_
      clear hf; clear a; intro a hf
      refine wpList_nil ?_
      refine sq ?_
      refine cnd (b := decide (s2.2 < n)) hf (by kernel_rfl) (fun hb2 => ?_) (fun hb2 => ?_)
      · replace hS := of_t hb2 hS
        refine wp_skip ?_
        refine sq ?_
        refine blk ?_
        refine sq ?_
        refine reg ?_
        refine st tbOk 2 [1, 3, 11, 12, 22, 23] (L' := [(1, .int .u64 p_at), (3, .int .u64 p_x), (11, .slice ao3 s2.1.length cp3), (12, .int .i64 s2.2), (22, .int .i64 n), (23, .int .i64 s2.2)]) hf (by kernel_rfl) ?_
        clear hf; clear a; intro a hf
        refine wpList_nil ?_
        refine reg ?_
        refine st tbOk 9 [1, 3, 11, 22, 23, 26, 30, 31, 34] (L' := [(1, .int .u64 p_at), (3, .int .u64 p_x), (11, .slice ao3 s2.1.length cp3), (22, .int .i64 n), (23, .int .i64 s2.2), (26, .slice ao3 s2.1.length cp3), (30, .int .i64 (IntKind.i64.wrap ((IntKind.i64.wrap p_at) + s2.2))), (31, .int .u64 p_x), (34, .int .u64 (IntKind.u64.wrap (IntKind.i64.wrap (8 * s2.2))))]) hf (by kernel_rfl) ?_
        clear hf; clear a; intro a hf
        have hT := of_gd hS; clear hS; obtain ⟨hc1, hS⟩ := hT
        refine bin (run_shr (k := .u64) (k' := .u64) (x := p_x) hc1 _) hf (by kernel_rfl) (by kernel_rfl) (by kernel_rfl) (by kernel_rfl) ?_
        clear hf; clear a; intro a hf
        replace hf := Fr.keep (ks := [1, 3, 11, 22, 23, 26, 30, 35]) (L' := [(1, .int .u64 p_at), (3, .int .u64 p_x), (11, .slice ao3 s2.1.length cp3), (22, .int .i64 n), (23, .int .i64 s2.2), (26, .slice ao3 s2.1.length cp3), (30, .int .i64 (IntKind.i64.wrap ((IntKind.i64.wrap p_at) + s2.2))), (35, .int .u64 (shr .u64 p_x (IntKind.u64.wrap (IntKind.i64.wrap (8 * s2.2)))))]) hf (by kernel_rfl)
        refine st tbOk 1 [1, 3, 11, 22, 23, 26, 30, 36] (L' := [(1, .int .u64 p_at), (3, .int .u64 p_x), (11, .slice ao3 s2.1.length cp3), (22, .int .i64 n), (23, .int .i64 s2.2), (26, .slice ao3 s2.1.length cp3), (30, .int .i64 (IntKind.i64.wrap ((IntKind.i64.wrap p_at) + s2.2))), (36, .int .u8 (IntKind.u8.wrap (shr .u64 p_x (IntKind.u64.wrap (IntKind.i64.wrap (8 * s2.2))))))]) hf (by kernel_rfl) ?_
        clear hf; clear a; intro a hf
        have hT := of_gd hS; clear hS; obtain ⟨hc2, hS⟩ := hT
        refine ixO tbOk u22 i5 ho3 (k := .i64) (n := IntKind.i64.wrap ((IntKind.i64.wrap p_at) + s2.2)) hc2 hf (by kernel_rfl) (by kernel_rfl) (by kernel_rfl) (by kernel_rfl) ?_
        clear hf; clear a; intro p1 a hp1 hf
        replace hf := Fr.keep (ks := [1, 3, 11, 22, 23, 36, 37]) (L' := [(1, .int .u64 p_at), (3, .int .u64 p_x), (11, .slice ao3 s2.1.length cp3), (22, .int .i64 n), (23, .int .i64 s2.2), (36, .int .u8 (IntKind.u8.wrap (shr .u64 p_x (IntKind.u64.wrap (IntKind.i64.wrap (8 * s2.2)))))), (37, .pointer (some p1))]) hf (by kernel_rfl)
        refine sto tbOk i5 rfl ho3 hc2 hp1 (u := .int .u8 (IntKind.u8.wrap (shr .u64 p_x (IntKind.u64.wrap (IntKind.i64.wrap (8 * s2.2)))))) (yv := IntKind.u8.wrap (shr .u64 p_x (IntKind.u64.wrap (IntKind.i64.wrap (8 * s2.2))))) rfl rfl hf (by kernel_rfl) (by kernel_rfl) (by kernel_rfl) ?_
        clear hf; clear a; intro w4 a hN hg hz hf
        replace hE := hE.grow hg (fun k hk => (ho3.lt k hk).1)
        replace ho3 : Own w4 w.heap.size mt 5 (tI .u8) (.slice ao3 (s2.1.set (IntKind.i64.wrap ((IntKind.i64.wrap p_at) + s2.2)).toNat (IntKind.u8.wrap (shr .u64 p_x (IntKind.u64.wrap (IntKind.i64.wrap (8 * s2.2)))))).length cp3) (s2.1.set (IntKind.i64.wrap ((IntKind.i64.wrap p_at) + s2.2)).toNat (IntKind.u8.wrap (shr .u64 p_x (IntKind.u64.wrap (IntKind.i64.wrap (8 * s2.2)))))) := by simpa only [List.length_set] using hN
        clear hN; replace hf := Fr.cast (L' := [(1, .int .u64 p_at), (3, .int .u64 p_x), (11, .slice ao3 (s2.1.set (IntKind.i64.wrap ((IntKind.i64.wrap p_at) + s2.2)).toNat (IntKind.u8.wrap (shr .u64 p_x (IntKind.u64.wrap (IntKind.i64.wrap (8 * s2.2)))))).length cp3), (22, .int .i64 n), (23, .int .i64 s2.2), (36, .int .u8 (IntKind.u8.wrap (shr .u64 p_x (IntKind.u64.wrap (IntKind.i64.wrap (8 * s2.2)))))), (37, .pointer (some p1))]) hf (by simp only [List.length_set])
        replace hf := Fr.keep (ks := [1, 3, 11, 22, 23]) (L' := [(1, .int .u64 p_at), (3, .int .u64 p_x), (11, .slice ao3 (s2.1.set (IntKind.i64.wrap ((IntKind.i64.wrap p_at) + s2.2)).toNat (IntKind.u8.wrap (shr .u64 p_x (IntKind.u64.wrap (IntKind.i64.wrap (8 * s2.2)))))).length cp3), (22, .int .i64 n), (23, .int .i64 s2.2)]) hf (by kernel_rfl)
        refine wpList_nil ?_
        refine reg ?_
        refine st tbOk 2 [1, 3, 11, 22, 23] (L' := [(1, .int .u64 p_at), (3, .int .u64 p_x), (11, .slice ao3 (s2.1.set (IntKind.i64.wrap ((IntKind.i64.wrap p_at) + s2.2)).toNat (IntKind.u8.wrap (shr .u64 p_x (IntKind.u64.wrap (IntKind.i64.wrap (8 * s2.2)))))).length cp3), (22, .int .i64 n), (23, .int .i64 (IntKind.i64.wrap (s2.2 + 1)))]) hf (by kernel_rfl) ?_
        clear hf; clear a; intro a hf
        refine wpList_nil ?_
        exact hK2 ((s2.1.set (IntKind.i64.wrap ((IntKind.i64.wrap p_at) + s2.2)).toNat (IntKind.u8.wrap (shr .u64 p_x (IntKind.u64.wrap (IntKind.i64.wrap (8 * s2.2)))))), IntKind.i64.wrap (s2.2 + 1)) _ _ ⟨ao3, cp3, hE, ho3, hf.keep (ks := [1, 3, 11, 22, 23]) (by kernel_rfl)⟩ hS
      · replace hS := of_f hb2 hS
        refine wp_exit ?_
        exact hK1 s2.1 _ _ ⟨ao3, cp3, hE, ho3, hf.keep (ks := [11]) (by kernel_rfl)⟩ hS

theorem octets_Cut_ok {w : World} {b : List Int} {p_at : Int} {size : Int} {v_b : Value} (h_b : RO (hp w) (tI .u8) v_b b) {r : (List Int) × Int} (hS : octets_Cut b p_at size = some r) :
    Calls Try.prog 16 #[v_b, .int .u64 p_at, .int .u64 size] w (Gives (fun u w' => ∃ (ao1 : Option Addr) (cp1 : Nat), u = .tuple #[.slice ao1 r.1.length cp1, .int .i64 r.2] ∧ Ext w w' ∧ Own w' w.heap.size mt 5 (tI .u8) (.slice ao1 r.1.length cp1) r.1)) := by
  obtain ⟨ao_b, cp_b, e_b⟩ := h_b.shape; subst e_b
  unfold octets_Cut at hS
  refine fn_ok (vs := [.slice ao_b b.length cp_b, .int .u64 p_at, .int .u64 size]) Try.func16 rfl 21 Try.ntmps16 (Nat.le_of_ble_eq_true rfl) ?_
  intro a hf
  replace hf := Fr.cast (L' := [(0, .slice ao_b b.length cp_b), (1, .int .u64 p_at), (2, .int .u64 size)]) hf (by kernel_rfl)
  have hE := Ext.rfl' w
  refine sq ?_
  refine reg ?_
  refine st tbOk 2 [0, 1, 2] (L' := [(0, .slice ao_b b.length cp_b), (1, .int .u64 p_at), (2, .int .u64 size)]) hf (by kernel_rfl) ?_
  clear hf; clear a; intro a hf
  refine wpList_nil ?_
  refine sq ?_
  refine sq ?_
  refine reg ?_
  refine st tbOk 4 [0, 1, 2, 9, 10, 11] (L' := [(0, .slice ao_b b.length cp_b), (1, .int .u64 p_at), (2, .int .u64 size), (9, .int .i64 ((b.length : Nat) : Int)), (10, .int .u64 p_at), (11, .int .u64 size)]) hf (by kernel_rfl) ?_
  clear hf; clear a; intro a hf
  have hT := of_bd hS; clear hS; obtain ⟨z1, hz1, hS⟩ := hT
  refine cl ent28 (vs := [.int .i64 ((b.length : Nat) : Int), .int .u64 p_at, .int .u64 size]) hf (by kernel_rfl) (by kernel_rfl) (by kernel_rfl) (octets_has_ok  hz1) ?_
  clear hf; clear a; intro v w1 a hT hf; obtain ⟨rfl, hx⟩ := hT
  replace hE := hE.tr hx
  replace hf := Fr.keep (ks := [0, 1, 2, 12]) (L' := [(0, .slice ao_b b.length cp_b), (1, .int .u64 p_at), (2, .int .u64 size), (12, .bool z1)]) hf (by kernel_rfl)
  refine st tbOk 1 [0, 1, 2, 13] (L' := [(0, .slice ao_b b.length cp_b), (1, .int .u64 p_at), (2, .int .u64 size), (13, .bool (!z1))]) hf (by kernel_rfl) ?_
  clear hf; clear a; intro a hf
  refine wpList_nil ?_
  refine cnd (b := !z1) hf (by kernel_rfl) (fun hb1 => ?_) (fun hb1 => ?_)
  · replace hS := of_t hb1 hS
    refine sq ?_
    refine reg ?_
    refine st tbOk 2 [6, 7] (L' := [(6, .slice none 0 0), (7, .int .i64 10)]) hf (by kernel_rfl) ?_
    clear hf; clear a; intro a hf
    refine wpList_nil ?_
    have hr := Option.some.inj hS; subst hr
    refine wp_ret ?_
    exact ret_ok hf (vs := [.slice none 0 0, .int .i64 10]) (by kernel_rfl) ⟨none, 0, rfl, hE, Own.nil _ _ _ _ _⟩
  · replace hS := of_f hb1 hS
    refine wp_skip ?_
    refine sq ?_
    refine reg ?_
    refine st tbOk 5 [14, 15, 18] (L' := [(14, .slice ao_b b.length cp_b), (15, .int .u64 p_at), (18, .int .u64 (IntKind.u64.wrap (p_at + size)))]) hf (by kernel_rfl) ?_
    clear hf; clear a; intro a hf
    have hT := of_gd hS; clear hS; obtain ⟨hc1, hS⟩ := hT
    refine sl tbOk u22 i5 rfl h_b (lo := p_at) (hi := IntKind.u64.wrap (p_at + size)) (m := 0) hc1 (.inr ⟨_, .u64, rfl, by kernel_rfl⟩) (.inr ⟨_, .u64, rfl, by kernel_rfl⟩) (.inl rfl) hf (by kernel_rfl) (by kernel_rfl) (by kernel_rfl) ?_
    clear hf; clear a; intro ao1 cp1 a hr1 hf
    replace hf := Fr.keep (ks := [19]) (L' := [(19, .slice ao1 (cutL b p_at (IntKind.u64.wrap (p_at + size))).length cp1)]) hf (by kernel_rfl)
    have hT := of_bd hS; clear hS; obtain ⟨z2, hz2, hS⟩ := hT
    refine cl ent27 (vs := [.slice ao1 (cutL b p_at (IntKind.u64.wrap (p_at + size))).length cp1]) hf (by kernel_rfl) (by kernel_rfl) (by kernel_rfl) (slices_Clone_byte_byte_ok (hr1.mono hE.le) hz2) ?_
    clear hf; clear a; intro v w2 a hT hf; obtain ⟨ao2, cp2, rfl, hx, ho1⟩ := hT
    replace ho1 := ho1.base hE.size
    replace hE := hE.tr hx
    replace hf := Fr.keep (ks := [20]) (L' := [(20, .slice ao2 z2.length cp2)]) hf (by kernel_rfl)
    refine st tbOk 2 [6, 7] (L' := [(6, .slice ao2 z2.length cp2), (7, .int .i64 0)]) hf (by kernel_rfl) ?_
    clear hf; clear a; intro a hf
    refine wpList_nil ?_
    have hr := Option.some.inj hS; subst hr
    refine wp_ret ?_
    exact ret_ok hf (vs := [.slice ao2 z2.length cp2, .int .i64 0]) (by kernel_rfl) ⟨ao2, cp2, rfl, hE, ho1⟩

theorem octets_Down_ok {w : World} {p_x : Int} {p_a : Int}  {r : Int × Int} (hS : octets_Down p_x p_a = some r) :
    Calls Try.prog 20 #[.int .u64 p_x, .int .u64 p_a] w (Gives (fun u w' => u = .tuple #[.int .u64 r.1, .int .i64 r.2] ∧ Ext w w')) := by
  unfold octets_Down at hS
  refine fn_ok (vs := [.int .u64 p_x, .int .u64 p_a]) Try.func20 rfl 19 Try.ntmps20 (Nat.le_of_ble_eq_true rfl) ?_
  intro a hf
  replace hf := Fr.cast (L' := [(0, .int .u64 p_x), (1, .int .u64 p_a)]) hf (by kernel_rfl)
  have hE := Ext.rfl' w
  refine sq ?_
  refine reg ?_
  refine st tbOk 2 [0, 1] (L' := [(0, .int .u64 p_x), (1, .int .u64 p_a)]) hf (by kernel_rfl) ?_
  clear hf; clear a; intro a hf
  refine wpList_nil ?_
  refine sq ?_
  refine sq ?_
  refine ctj (fun (s1 : Bool) (a : Act) (w' : World) => Ext w w' ∧ Fr 19 [(0, .int .u64 p_x), (1, .int .u64 p_a), (14, .bool s1)] a) hS ?_ ?_
  · clear hS hf; clear a; clear hE; intro s1 a w1 hM hS
    obtain ⟨hE, hf⟩ := hM
    refine cnd (b := s1) hf (by kernel_rfl) (fun hb2 => ?_) (fun hb2 => ?_)
    · replace hS := of_t hb2 hS
      refine sq ?_
      refine reg ?_
      refine st tbOk 2 [4, 5] (L' := [(4, .int .u64 0), (5, .int .i64 1)]) hf (by kernel_rfl) ?_
      clear hf; clear a; intro a hf
      refine wpList_nil ?_
      have hr := Option.some.inj hS; subst hr
      refine wp_ret ?_
      exact ret_ok hf (vs := [.int .u64 0, .int .i64 1]) (by kernel_rfl) ⟨rfl, hE⟩
    · replace hS := of_f hb2 hS
      refine wp_skip ?_
      refine sq ?_
      refine reg ?_
      refine st tbOk 6 [4, 5] (L' := [(4, .int .u64 (bandn .u64 p_x (IntKind.u64.wrap (p_a - 1)))), (5, .int .i64 0)]) hf (by kernel_rfl) ?_
      clear hf; clear a; intro a hf
      refine wpList_nil ?_
      have hr := Option.some.inj hS; subst hr
      refine wp_ret ?_
      exact ret_ok hf (vs := [.int .u64 (bandn .u64 p_x (IntKind.u64.wrap (p_a - 1))), .int .i64 0]) (by kernel_rfl) ⟨rfl, hE⟩
  · clear hS; intro KK1 k1 hK1 hS
    refine reg ?_
    refine st tbOk 3 [0, 1, 8] (L' := [(0, .int .u64 p_x), (1, .int .u64 p_a), (8, .bool (p_a == 0))]) hf (by kernel_rfl) ?_
    clear hf; clear a; intro a hf
    rcases Bool.eq_false_or_eq_true (p_a == 0) with hb1 | hb1
    · replace hS := of_t hb1 hS
      replace hf := Fr.cast (L' := [(0, .int .u64 p_x), (1, .int .u64 p_a), (8, .bool true)]) hf (by rw [hb1])
      refine st tbOk 6 [0, 1, 14] (L' := [(0, .int .u64 p_x), (1, .int .u64 p_a), (14, .bool true)]) hf (by kernel_rfl) ?_
      clear hf; clear a; intro a hf
      refine wpList_nil ?_
      exact hK1 true _ _ ⟨hE, hf.keep (ks := [0, 1, 14]) (by kernel_rfl)⟩ hS
    · replace hS := of_f hb1 hS
      replace hf := Fr.cast (L' := [(0, .int .u64 p_x), (1, .int .u64 p_a), (8, .bool false)]) hf (by rw [hb1])
      refine st tbOk 6 [0, 1, 14] (L' := [(0, .int .u64 p_x), (1, .int .u64 p_a), (14, .bool ((band .u64 p_a (IntKind.u64.wrap (p_a - 1))) != 0))]) hf (by kernel_rfl) ?_
      clear hf; clear a; intro a hf
      refine wpList_nil ?_
      exact hK1 ((band .u64 p_a (IntKind.u64.wrap (p_a - 1))) != 0) _ _ ⟨hE, hf.keep (ks := [0, 1, 14]) (by kernel_rfl)⟩ hS

theorem octets_Up_ok {w : World} {p_x : Int} {p_a : Int}  {r : Int × Int} (hS : octets_Up p_x p_a = some r) :
    Calls Try.prog 18 #[.int .u64 p_x, .int .u64 p_a] w (Gives (fun u w' => u = .tuple #[.int .u64 r.1, .int .i64 r.2] ∧ Ext w w')) := by
  unfold octets_Up at hS
  refine fn_ok (vs := [.int .u64 p_x, .int .u64 p_a]) Try.func18 rfl 32 Try.ntmps18 (Nat.le_of_ble_eq_true rfl) ?_
  intro a hf
  replace hf := Fr.cast (L' := [(0, .int .u64 p_x), (1, .int .u64 p_a)]) hf (by kernel_rfl)
  have hE := Ext.rfl' w
  refine sq ?_
  refine reg ?_
  refine st tbOk 2 [0, 1] (L' := [(0, .int .u64 p_x), (1, .int .u64 p_a)]) hf (by kernel_rfl) ?_
  clear hf; clear a; intro a hf
  refine wpList_nil ?_
  refine sq ?_
  refine reg ?_
  refine st tbOk 2 [0, 1, 9, 10] (L' := [(0, .int .u64 p_x), (1, .int .u64 p_a), (9, .int .u64 p_x), (10, .int .u64 p_a)]) hf (by kernel_rfl) ?_
  clear hf; clear a; intro a hf
  have hT := of_bd hS; clear hS; obtain ⟨z1, hz1, hS⟩ := hT
  refine cl ent20 (vs := [.int .u64 p_x, .int .u64 p_a]) hf (by kernel_rfl) (by kernel_rfl) (by kernel_rfl) (octets_Down_ok  hz1) ?_
  clear hf; clear a; intro v w1 a hT hf; obtain ⟨rfl, hx⟩ := hT
  replace hE := hE.tr hx
  replace hf := Fr.keep (ks := [0, 1, 11]) (L' := [(0, .int .u64 p_x), (1, .int .u64 p_a), (11, .tuple #[.int .u64 z1.1, .int .i64 z1.2])]) hf (by kernel_rfl)
  refine st tbOk 5 [0, 1, 6, 7] (L' := [(0, .int .u64 p_x), (1, .int .u64 p_a), (6, .int .u64 z1.1), (7, .int .i64 z1.2)]) hf (by kernel_rfl) ?_
  clear hf; clear a; intro a hf
  refine wpList_nil ?_
  refine sq ?_
  refine blk ?_
  refine sq ?_
  refine ctj (fun (s1 : Bool) (a : Act) (w' : World) => Ext w w' ∧ Fr 32 [(1, .int .u64 p_a), (6, .int .u64 z1.1), (7, .int .i64 z1.2), (14, .bool s1)] a) hS ?_ ?_
  · clear hS hf; clear a; clear hE; intro s1 a w2 hM hS
    obtain ⟨hE, hf⟩ := hM
    refine cnd (b := s1) hf (by kernel_rfl) (fun hb2 => ?_) (fun hb2 => ?_)
    · replace hS := of_t hb2 hS
      refine sq ?_
      refine reg ?_
      refine st tbOk 4 [4, 5] (L' := [(4, .int .u64 z1.1), (5, .int .i64 z1.2)]) hf (by kernel_rfl) ?_
      clear hf; clear a; intro a hf
      refine wpList_nil ?_
      have hr := Option.some.inj hS; subst hr
      refine wp_ret ?_
      exact ret_ok hf (vs := [.int .u64 z1.1, .int .i64 z1.2]) (by kernel_rfl) ⟨rfl, hE⟩
    · replace hS := of_f hb2 hS
      refine sq ?_
      refine reg ?_
      refine st tbOk 5 [1, 6, 24] (L' := [(1, .int .u64 p_a), (6, .int .u64 z1.1), (24, .bool ((IntKind.u64.wrap (z1.1 + p_a)) == 0))]) hf (by kernel_rfl) ?_
      clear hf; clear a; intro a hf
      refine wpList_nil ?_
      refine cnd (b := (IntKind.u64.wrap (z1.1 + p_a)) == 0) hf (by kernel_rfl) (fun hb3 => ?_) (fun hb3 => ?_)
      · replace hS := of_t hb3 hS
        refine sq ?_
        refine reg ?_
        refine st tbOk 2 [4, 5] (L' := [(4, .int .u64 0), (5, .int .i64 10)]) hf (by kernel_rfl) ?_
        clear hf; clear a; intro a hf
        refine wpList_nil ?_
        have hr := Option.some.inj hS; subst hr
        refine wp_ret ?_
        exact ret_ok hf (vs := [.int .u64 0, .int .i64 10]) (by kernel_rfl) ⟨rfl, hE⟩
      · replace hS := of_f hb3 hS
        refine wp_skip ?_
        refine sq ?_
        refine reg ?_
        refine st tbOk 5 [4, 5] (L' := [(4, .int .u64 (IntKind.u64.wrap (z1.1 + p_a))), (5, .int .i64 0)]) hf (by kernel_rfl) ?_
        clear hf; clear a; intro a hf
        refine wpList_nil ?_
        have hr := Option.some.inj hS; subst hr
        refine wp_ret ?_
        exact ret_ok hf (vs := [.int .u64 (IntKind.u64.wrap (z1.1 + p_a)), .int .i64 0]) (by kernel_rfl) ⟨rfl, hE⟩
  · clear hS; intro KK1 k1 hK1 hS
    refine reg ?_
    refine st tbOk 3 [0, 1, 6, 7, 17] (L' := [(0, .int .u64 p_x), (1, .int .u64 p_a), (6, .int .u64 z1.1), (7, .int .i64 z1.2), (17, .bool (z1.2 != 0))]) hf (by kernel_rfl) ?_
    clear hf; clear a; intro a hf
    rcases Bool.eq_false_or_eq_true (z1.2 != 0) with hb1 | hb1
    · replace hS := of_t hb1 hS
      replace hf := Fr.cast (L' := [(0, .int .u64 p_x), (1, .int .u64 p_a), (6, .int .u64 z1.1), (7, .int .i64 z1.2), (17, .bool true)]) hf (by rw [hb1])
      refine st tbOk 5 [1, 6, 7, 14] (L' := [(1, .int .u64 p_a), (6, .int .u64 z1.1), (7, .int .i64 z1.2), (14, .bool true)]) hf (by kernel_rfl) ?_
      clear hf; clear a; intro a hf
      refine wpList_nil ?_
      exact hK1 true _ _ ⟨hE, hf.keep (ks := [1, 6, 7, 14]) (by kernel_rfl)⟩ hS
    · replace hS := of_f hb1 hS
      replace hf := Fr.cast (L' := [(0, .int .u64 p_x), (1, .int .u64 p_a), (6, .int .u64 z1.1), (7, .int .i64 z1.2), (17, .bool false)]) hf (by rw [hb1])
      refine st tbOk 5 [1, 6, 7, 14] (L' := [(1, .int .u64 p_a), (6, .int .u64 z1.1), (7, .int .i64 z1.2), (14, .bool (z1.1 == p_x))]) hf (by kernel_rfl) ?_
      clear hf; clear a; intro a hf
      refine wpList_nil ?_
      exact hK1 (z1.1 == p_x) _ _ ⟨hE, hf.keep (ks := [1, 6, 7, 14]) (by kernel_rfl)⟩ hS

theorem octets_Meet_ok {w : World} {p_a : Int} {m : Int} {b : Int} {n : Int}  {r : Bool} (hS : octets_Meet p_a m b n = some r) :
    Calls Try.prog 23 #[.int .u64 p_a, .int .u64 m, .int .u64 b, .int .u64 n] w (Gives (fun u w' => u = .bool r ∧ Ext w w')) := by
  unfold octets_Meet at hS
  refine fn_ok (vs := [.int .u64 p_a, .int .u64 m, .int .u64 b, .int .u64 n]) Try.func23 rfl 25 Try.ntmps23 (Nat.le_of_ble_eq_true rfl) ?_
  intro a hf
  replace hf := Fr.cast (L' := [(0, .int .u64 p_a), (1, .int .u64 m), (2, .int .u64 b), (3, .int .u64 n)]) hf (by kernel_rfl)
  have hE := Ext.rfl' w
  refine sq ?_
  refine reg ?_
  refine st tbOk 1 [0, 1, 2, 3] (L' := [(0, .int .u64 p_a), (1, .int .u64 m), (2, .int .u64 b), (3, .int .u64 n)]) hf (by kernel_rfl) ?_
  clear hf; clear a; intro a hf
  refine wpList_nil ?_
  refine sq ?_
  refine sq ?_
  refine reg ?_
  refine st tbOk 3 [0, 1, 2, 3, 11] (L' := [(0, .int .u64 p_a), (1, .int .u64 m), (2, .int .u64 b), (3, .int .u64 n), (11, .bool (decide (p_a > b)))]) hf (by kernel_rfl) ?_
  clear hf; clear a; intro a hf
  refine wpList_nil ?_
  refine ctj (fun (s1 : Int × Int × Int × Int) (a : Act) (w' : World) => Ext w w' ∧ Fr 25 [(0, .int .u64 s1.1), (1, .int .u64 s1.2.1), (2, .int .u64 s1.2.2.1), (3, .int .u64 s1.2.2.2)] a) hS ?_ ?_
  · clear hS hf; clear a; clear hE; intro s1 a w1 hM hS
    obtain ⟨hE, hf⟩ := hM
    refine sq ?_
    refine ctj (fun (s2 : Bool) (a : Act) (w' : World) => Ext w w' ∧ Fr 25 [(8, .bool s2)] a) hS ?_ ?_
    · clear hS hf; clear a; clear hE; intro s2 a w2 hM hS
      obtain ⟨hE, hf⟩ := hM
      have hr := Option.some.inj hS; subst hr
      refine wp_ret ?_
      exact ret_ok hf (vs := [.bool s2]) (by kernel_rfl) ⟨rfl, hE⟩
    · clear hS; intro KK2 k2 hK2 hS
      refine reg ?_
      refine st tbOk 3 [0, 1, 2, 18] (L' := [(0, .int .u64 s1.1), (1, .int .u64 s1.2.1), (2, .int .u64 s1.2.2.1), (18, .bool (decide (s1.2.2.2 > 0)))]) hf (by kernel_rfl) ?_
      clear hf; clear a; intro a hf
      rcases Bool.eq_false_or_eq_true (decide (s1.2.2.2 > 0)) with hb2 | hb2
      · replace hS := of_t hb2 hS
        replace hf := Fr.cast (L' := [(0, .int .u64 s1.1), (1, .int .u64 s1.2.1), (2, .int .u64 s1.2.2.1), (18, .bool true)]) hf (by rw [hb2])
        refine st tbOk 7 [8] (L' := [(8, .bool (decide ((IntKind.u64.wrap (s1.2.2.1 - s1.1)) < s1.2.1)))]) hf (by kernel_rfl) ?_
        clear hf; clear a; intro a hf
        refine wpList_nil ?_
        exact hK2 (decide ((IntKind.u64.wrap (s1.2.2.1 - s1.1)) < s1.2.1)) _ _ ⟨hE, hf.keep (ks := [8]) (by kernel_rfl)⟩ hS
      · replace hS := of_f hb2 hS
        replace hf := Fr.cast (L' := [(0, .int .u64 s1.1), (1, .int .u64 s1.2.1), (2, .int .u64 s1.2.2.1), (18, .bool false)]) hf (by rw [hb2])
        refine st tbOk 7 [8] (L' := [(8, .bool false)]) hf (by kernel_rfl) ?_
        clear hf; clear a; intro a hf
        refine wpList_nil ?_
        exact hK2 false _ _ ⟨hE, hf.keep (ks := [8]) (by kernel_rfl)⟩ hS
  · clear hS; intro KK1 k1 hK1 hS
    refine cnd (b := decide (p_a > b)) hf (by kernel_rfl) (fun hb1 => ?_) (fun hb1 => ?_)
    · replace hS := of_t hb1 hS
      refine reg ?_
      refine st tbOk 8 [0, 1, 2, 3] (L' := [(0, .int .u64 b), (1, .int .u64 n), (2, .int .u64 p_a), (3, .int .u64 m)]) hf (by kernel_rfl) ?_
      clear hf; clear a; intro a hf
      refine wpList_nil ?_
      exact hK1 (b, n, p_a, m) _ _ ⟨hE, hf.keep (ks := [0, 1, 2, 3]) (by kernel_rfl)⟩ hS
    · replace hS := of_f hb1 hS
      refine wp_skip ?_
      exact hK1 (p_a, m, b, n) _ _ ⟨hE, hf.keep (ks := [0, 1, 2, 3]) (by kernel_rfl)⟩ hS

theorem law01_awake_ok {w : World}   {r : Bool} (hS : law01_awake = some r) :
    Calls Try.prog 11 #[] w (Gives (fun u w' => u = .bool r ∧ Ext w w')) := by
  unfold law01_awake at hS
  refine fn_ok (vs := []) Try.func11 rfl 81 Try.ntmps11 (Nat.le_of_ble_eq_true rfl) ?_
  intro a hf
  replace hf := Fr.cast (L' := []) hf (by kernel_rfl)
  have hE := Ext.rfl' w
  refine sq ?_
  refine reg ?_
  refine st tbOk 1 [] (L' := []) hf (by kernel_rfl) ?_
  clear hf; clear a; intro a hf
  refine wpList_nil ?_
  refine sq ?_
  refine reg ?_
  refine bs tbOk u22 i5 rfl (t := (tI .u8)) (vs := [(0, .int .u8 1), (1, .int .u8 2), (2, .int .u8 3), (3, .int .u8 4)]) (cells := #[.int .u8 1, .int .u8 2, .int .u8 3, .int .u8 4]) ([1, 2, 3, 4] : List Int) hf (by kernel_rfl) (by kernel_rfl) (by kernel_rfl) rfl (by kernel_rfl) (reps_flat _) rfl ?_
  clear hf; clear a; intro w1 a ho1 hx hz hf
  replace ho1 := ho1.base hE.size
  replace hE := hE.tr hx
  replace hf := Fr.keep (ks := [12]) (L' := [(12, .slice (some ⟨w.heap.size, 0, none⟩) ([1, 2, 3, 4] : List Int).length ([1, 2, 3, 4] : List Int).length)]) hf (by kernel_rfl)
  have hT := of_bd hS; clear hS; obtain ⟨z1, hz1, hS⟩ := hT
  refine cl ent12 (vs := [.slice (some ⟨w.heap.size, 0, none⟩) ([1, 2, 3, 4] : List Int).length ([1, 2, 3, 4] : List Int).length, .int .u64 1, .int .i64 2]) hf (by kernel_rfl) (by kernel_rfl) (by kernel_rfl) (octets_Get_ok (ho1.ro (mt_le _)) hz1) ?_
  clear hf; clear a; intro v w2 a hT hf; obtain ⟨rfl, hx⟩ := hT
  replace hE := hE.tr hx
  replace ho1 := ho1.ext hx
  replace hf := Fr.keep (ks := [13]) (L' := [(13, .tuple #[.int .u64 z1.1, .int .i64 z1.2])]) hf (by kernel_rfl)
  refine st tbOk 5 [1, 2] (L' := [(1, .int .u64 z1.1), (2, .int .i64 z1.2)]) hf (by kernel_rfl) ?_
  clear hf; clear a; intro a hf
  refine wpList_nil ?_
  refine sq ?_
  refine reg ?_
  refine bs tbOk u22 i5 rfl (t := (tI .u8)) (vs := [(0, .int .u8 1), (1, .int .u8 2), (2, .int .u8 3)]) (cells := #[.int .u8 1, .int .u8 2, .int .u8 3]) ([1, 2, 3] : List Int) hf (by kernel_rfl) (by kernel_rfl) (by kernel_rfl) rfl (by kernel_rfl) (reps_flat _) rfl ?_
  clear hf; clear a; intro w3 a ho2 hx hz hf
  have dj1 := Dj.new ho1 ho2
  replace ho2 := ho2.base hE.size
  replace hE := hE.tr hx
  replace ho1 := ho1.ext hx
  replace hf := Fr.keep (ks := [1, 2, 17]) (L' := [(1, .int .u64 z1.1), (2, .int .i64 z1.2), (17, .slice (some ⟨w2.heap.size, 0, none⟩) ([1, 2, 3] : List Int).length ([1, 2, 3] : List Int).length)]) hf (by kernel_rfl)
  have hT := of_bd hS; clear hS; obtain ⟨z2, hz2, hS⟩ := hT
  refine cl ent14 (vs := [.slice (some ⟨w2.heap.size, 0, none⟩) ([1, 2, 3] : List Int).length ([1, 2, 3] : List Int).length, .int .u64 1, .int .i64 2, .int .u64 513]) hf (by kernel_rfl) (by kernel_rfl) (by kernel_rfl) (octets_Set_ok (ho2.ro (mt_le _)) hz2) ?_
  clear hf; clear a; intro v w4 a hT hf; obtain ⟨ao1, cp1, rfl, hx, ho3⟩ := hT
  have dj2 := Dj.new ho1 ho3
  have dj3 := Dj.new ho2 ho3
  replace ho3 := ho3.base hE.size
  replace hE := hE.tr hx
  replace ho1 := ho1.ext hx
  replace ho2 := ho2.ext hx
  replace hf := Fr.keep (ks := [1, 2, 18]) (L' := [(1, .int .u64 z1.1), (2, .int .i64 z1.2), (18, .tuple #[.slice ao1 z2.1.length cp1, .int .i64 z2.2])]) hf (by kernel_rfl)
  refine st tbOk 5 [1, 2, 3, 4] (L' := [(1, .int .u64 z1.1), (2, .int .i64 z1.2), (3, .slice ao1 z2.1.length cp1), (4, .int .i64 z2.2)]) hf (by kernel_rfl) ?_
  clear hf; clear a; intro a hf
  refine wpList_nil ?_
  refine sq ?_
  refine reg ?_
  refine bs tbOk u22 i5 rfl (t := (tI .u8)) (vs := [(0, .int .u8 1), (1, .int .u8 2), (2, .int .u8 3)]) (cells := #[.int .u8 1, .int .u8 2, .int .u8 3]) ([1, 2, 3] : List Int) hf (by kernel_rfl) (by kernel_rfl) (by kernel_rfl) rfl (by kernel_rfl) (reps_flat _) rfl ?_
  clear hf; clear a; intro w5 a ho4 hx hz hf
  have dj4 := Dj.new ho1 ho4
  have dj5 := Dj.new ho2 ho4
  have dj6 := Dj.new ho3 ho4
  replace ho4 := ho4.base hE.size
  replace hE := hE.tr hx
  replace ho1 := ho1.ext hx
  replace ho2 := ho2.ext hx
  replace ho3 := ho3.ext hx
  replace hf := Fr.keep (ks := [1, 2, 3, 4, 22]) (L' := [(1, .int .u64 z1.1), (2, .int .i64 z1.2), (3, .slice ao1 z2.1.length cp1), (4, .int .i64 z2.2), (22, .slice (some ⟨w4.heap.size, 0, none⟩) ([1, 2, 3] : List Int).length ([1, 2, 3] : List Int).length)]) hf (by kernel_rfl)
  have hT := of_bd hS; clear hS; obtain ⟨z3, hz3, hS⟩ := hT
  refine cl ent16 (vs := [.slice (some ⟨w4.heap.size, 0, none⟩) ([1, 2, 3] : List Int).length ([1, 2, 3] : List Int).length, .int .u64 1, .int .u64 2]) hf (by kernel_rfl) (by kernel_rfl) (by kernel_rfl) (octets_Cut_ok (ho4.ro (mt_le _)) hz3) ?_
  clear hf; clear a; intro v w6 a hT hf; obtain ⟨ao2, cp2, rfl, hx, ho5⟩ := hT
  have dj7 := Dj.new ho1 ho5
  have dj8 := Dj.new ho2 ho5
  have dj9 := Dj.new ho3 ho5
  have dj10 := Dj.new ho4 ho5
  replace ho5 := ho5.base hE.size
  replace hE := hE.tr hx
  replace ho1 := ho1.ext hx
  replace ho2 := ho2.ext hx
  replace ho3 := ho3.ext hx
  replace ho4 := ho4.ext hx
  replace hf := Fr.keep (ks := [1, 2, 3, 4, 23]) (L' := [(1, .int .u64 z1.1), (2, .int .i64 z1.2), (3, .slice ao1 z2.1.length cp1), (4, .int .i64 z2.2), (23, .tuple #[.slice ao2 z3.1.length cp2, .int .i64 z3.2])]) hf (by kernel_rfl)
  refine st tbOk 5 [1, 2, 3, 4, 5, 6] (L' := [(1, .int .u64 z1.1), (2, .int .i64 z1.2), (3, .slice ao1 z2.1.length cp1), (4, .int .i64 z2.2), (5, .slice ao2 z3.1.length cp2), (6, .int .i64 z3.2)]) hf (by kernel_rfl) ?_
  clear hf; clear a; intro a hf
  refine wpList_nil ?_
  refine sq ?_
  refine reg ?_
  have hT := of_bd hS; clear hS; obtain ⟨z4, hz4, hS⟩ := hT
  refine cl ent18 (vs := [.int .u64 257, .int .u64 256]) hf (by kernel_rfl) (by kernel_rfl) (by kernel_rfl) (octets_Up_ok  hz4) ?_
  clear hf; clear a; intro v w7 a hT hf; obtain ⟨rfl, hx⟩ := hT
  replace hE := hE.tr hx
  replace ho1 := ho1.ext hx
  replace ho2 := ho2.ext hx
  replace ho3 := ho3.ext hx
  replace ho4 := ho4.ext hx
  replace ho5 := ho5.ext hx
  replace hf := Fr.keep (ks := [1, 2, 3, 4, 5, 6, 27]) (L' := [(1, .int .u64 z1.1), (2, .int .i64 z1.2), (3, .slice ao1 z2.1.length cp1), (4, .int .i64 z2.2), (5, .slice ao2 z3.1.length cp2), (6, .int .i64 z3.2), (27, .tuple #[.int .u64 z4.1, .int .i64 z4.2])]) hf (by kernel_rfl)
  refine st tbOk 5 [1, 2, 3, 4, 5, 6, 7, 8] (L' := [(1, .int .u64 z1.1), (2, .int .i64 z1.2), (3, .slice ao1 z2.1.length cp1), (4, .int .i64 z2.2), (5, .slice ao2 z3.1.length cp2), (6, .int .i64 z3.2), (7, .int .u64 z4.1), (8, .int .i64 z4.2)]) hf (by kernel_rfl) ?_
  clear hf; clear a; intro a hf
  refine wpList_nil ?_
  refine sq ?_
  refine reg ?_
  have hT := of_bd hS; clear hS; obtain ⟨z5, hz5, hS⟩ := hT
  refine cl ent20 (vs := [.int .u64 257, .int .u64 256]) hf (by kernel_rfl) (by kernel_rfl) (by kernel_rfl) (octets_Down_ok  hz5) ?_
  clear hf; clear a; intro v w8 a hT hf; obtain ⟨rfl, hx⟩ := hT
  replace hE := hE.tr hx
  replace ho1 := ho1.ext hx
  replace ho2 := ho2.ext hx
  replace ho3 := ho3.ext hx
  replace ho4 := ho4.ext hx
  replace ho5 := ho5.ext hx
  replace hf := Fr.keep (ks := [1, 2, 3, 4, 5, 6, 7, 8, 31]) (L' := [(1, .int .u64 z1.1), (2, .int .i64 z1.2), (3, .slice ao1 z2.1.length cp1), (4, .int .i64 z2.2), (5, .slice ao2 z3.1.length cp2), (6, .int .i64 z3.2), (7, .int .u64 z4.1), (8, .int .i64 z4.2), (31, .tuple #[.int .u64 z5.1, .int .i64 z5.2])]) hf (by kernel_rfl)
  refine st tbOk 5 [1, 2, 3, 4, 5, 6, 7, 8, 9, 10] (L' := [(1, .int .u64 z1.1), (2, .int .i64 z1.2), (3, .slice ao1 z2.1.length cp1), (4, .int .i64 z2.2), (5, .slice ao2 z3.1.length cp2), (6, .int .i64 z3.2), (7, .int .u64 z4.1), (8, .int .i64 z4.2), (9, .int .u64 z5.1), (10, .int .i64 z5.2)]) hf (by kernel_rfl) ?_
  clear hf; clear a; intro a hf
  refine wpList_nil ?_
  refine sq ?_
  refine ctj (fun (s1 : Bool) (a : Act) (w' : World) => Ext w w' ∧ Fr 81 [(0, .bool s1)] a) hS ?_ ?_
  · clear hS hf; clear a; clear hE; intro s1 a w11 hM hS
    obtain ⟨hE, hf⟩ := hM
    have hr := Option.some.inj hS; subst hr
    refine wp_ret ?_
    exact ret_ok hf (vs := [.bool s1]) (by kernel_rfl) ⟨rfl, hE⟩
  · clear hS; intro KK1 k1 hK1 hS
    refine reg ?_
    refine st tbOk 3 [2, 3, 4, 5, 6, 7, 8, 9, 10, 36] (L' := [(2, .int .i64 z1.2), (3, .slice ao1 z2.1.length cp1), (4, .int .i64 z2.2), (5, .slice ao2 z3.1.length cp2), (6, .int .i64 z3.2), (7, .int .u64 z4.1), (8, .int .i64 z4.2), (9, .int .u64 z5.1), (10, .int .i64 z5.2), (36, .bool (z1.1 == 770))]) hf (by kernel_rfl) ?_
    clear hf; clear a; intro a hf
    rcases Bool.eq_false_or_eq_true (z1.1 == 770) with hb1 | hb1
    · replace hS := of_t hb1 hS
      replace hf := Fr.cast (L' := [(2, .int .i64 z1.2), (3, .slice ao1 z2.1.length cp1), (4, .int .i64 z2.2), (5, .slice ao2 z3.1.length cp2), (6, .int .i64 z3.2), (7, .int .u64 z4.1), (8, .int .i64 z4.2), (9, .int .u64 z5.1), (10, .int .i64 z5.2), (36, .bool true)]) hf (by rw [hb1])
      refine st tbOk 4 [3, 4, 5, 6, 7, 8, 9, 10, 40] (L' := [(3, .slice ao1 z2.1.length cp1), (4, .int .i64 z2.2), (5, .slice ao2 z3.1.length cp2), (6, .int .i64 z3.2), (7, .int .u64 z4.1), (8, .int .i64 z4.2), (9, .int .u64 z5.1), (10, .int .i64 z5.2), (40, .bool (z1.2 == 0))]) hf (by kernel_rfl) ?_
      clear hf; clear a; intro a hf
      rcases Bool.eq_false_or_eq_true (z1.2 == 0) with hb2 | hb2
      · replace hS := of_t hb2 hS
        replace hf := Fr.cast (L' := [(3, .slice ao1 z2.1.length cp1), (4, .int .i64 z2.2), (5, .slice ao2 z3.1.length cp2), (6, .int .i64 z3.2), (7, .int .u64 z4.1), (8, .int .i64 z4.2), (9, .int .u64 z5.1), (10, .int .i64 z5.2), (40, .bool true)]) hf (by rw [hb2])
        refine st tbOk 1 [4, 5, 6, 7, 8, 9, 10, 40, 41] (L' := [(4, .int .i64 z2.2), (5, .slice ao2 z3.1.length cp2), (6, .int .i64 z3.2), (7, .int .u64 z4.1), (8, .int .i64 z4.2), (9, .int .u64 z5.1), (10, .int .i64 z5.2), (40, .bool true), (41, .slice ao1 z2.1.length cp1)]) hf (by kernel_rfl) ?_
        clear hf; clear a; intro a hf
        refine b2s tbOk u22 u5 u9 (ho3.ro (mt_le _)) (LeH.refl _) hf (by kernel_rfl) (by kernel_rfl) (by kernel_rfl) ?_
        clear hf; clear a; intro a hf
        replace hf := Fr.keep (ks := [4, 5, 6, 7, 8, 9, 10, 40, 42]) (L' := [(4, .int .i64 z2.2), (5, .slice ao2 z3.1.length cp2), (6, .int .i64 z3.2), (7, .int .u64 z4.1), (8, .int .i64 z4.2), (9, .int .u64 z5.1), (10, .int .i64 z5.2), (40, .bool true), (42, strV (toStr z2.1))]) hf (by kernel_rfl)
        refine st tbOk 3 [4, 5, 6, 7, 8, 9, 10, 45] (L' := [(4, .int .i64 z2.2), (5, .slice ao2 z3.1.length cp2), (6, .int .i64 z3.2), (7, .int .u64 z4.1), (8, .int .i64 z4.2), (9, .int .u64 z5.1), (10, .int .i64 z5.2), (45, .bool ((toStr z2.1) == [1, 1, 2]))]) hf (by kernel_rfl) ?_
        clear hf; clear a; intro a hf
        rcases Bool.eq_false_or_eq_true ((toStr z2.1) == [1, 1, 2]) with hb3 | hb3
        · replace hS := of_t hb3 hS
          replace hf := Fr.cast (L' := [(4, .int .i64 z2.2), (5, .slice ao2 z3.1.length cp2), (6, .int .i64 z3.2), (7, .int .u64 z4.1), (8, .int .i64 z4.2), (9, .int .u64 z5.1), (10, .int .i64 z5.2), (45, .bool true)]) hf (by rw [hb3])
          refine st tbOk 4 [5, 6, 7, 8, 9, 10, 49] (L' := [(5, .slice ao2 z3.1.length cp2), (6, .int .i64 z3.2), (7, .int .u64 z4.1), (8, .int .i64 z4.2), (9, .int .u64 z5.1), (10, .int .i64 z5.2), (49, .bool (z2.2 == 0))]) hf (by kernel_rfl) ?_
          clear hf; clear a; intro a hf
          rcases Bool.eq_false_or_eq_true (z2.2 == 0) with hb4 | hb4
          · replace hS := of_t hb4 hS
            replace hf := Fr.cast (L' := [(5, .slice ao2 z3.1.length cp2), (6, .int .i64 z3.2), (7, .int .u64 z4.1), (8, .int .i64 z4.2), (9, .int .u64 z5.1), (10, .int .i64 z5.2), (49, .bool true)]) hf (by rw [hb4])
            refine st tbOk 1 [6, 7, 8, 9, 10, 49, 50] (L' := [(6, .int .i64 z3.2), (7, .int .u64 z4.1), (8, .int .i64 z4.2), (9, .int .u64 z5.1), (10, .int .i64 z5.2), (49, .bool true), (50, .slice ao2 z3.1.length cp2)]) hf (by kernel_rfl) ?_
            clear hf; clear a; intro a hf
            refine b2s tbOk u22 u5 u9 (ho5.ro (mt_le _)) (LeH.refl _) hf (by kernel_rfl) (by kernel_rfl) (by kernel_rfl) ?_
            clear hf; clear a; intro a hf
            replace hf := Fr.keep (ks := [6, 7, 8, 9, 10, 49, 51]) (L' := [(6, .int .i64 z3.2), (7, .int .u64 z4.1), (8, .int .i64 z4.2), (9, .int .u64 z5.1), (10, .int .i64 z5.2), (49, .bool true), (51, strV (toStr z3.1))]) hf (by kernel_rfl)
            refine st tbOk 3 [6, 7, 8, 9, 10, 54] (L' := [(6, .int .i64 z3.2), (7, .int .u64 z4.1), (8, .int .i64 z4.2), (9, .int .u64 z5.1), (10, .int .i64 z5.2), (54, .bool ((toStr z3.1) == [2, 3]))]) hf (by kernel_rfl) ?_
            clear hf; clear a; intro a hf
            rcases Bool.eq_false_or_eq_true ((toStr z3.1) == [2, 3]) with hb5 | hb5
            · replace hS := of_t hb5 hS
              replace hf := Fr.cast (L' := [(6, .int .i64 z3.2), (7, .int .u64 z4.1), (8, .int .i64 z4.2), (9, .int .u64 z5.1), (10, .int .i64 z5.2), (54, .bool true)]) hf (by rw [hb5])
              refine st tbOk 4 [7, 8, 9, 10, 58] (L' := [(7, .int .u64 z4.1), (8, .int .i64 z4.2), (9, .int .u64 z5.1), (10, .int .i64 z5.2), (58, .bool (z3.2 == 0))]) hf (by kernel_rfl) ?_
              clear hf; clear a; intro a hf
              rcases Bool.eq_false_or_eq_true (z3.2 == 0) with hb6 | hb6
              · replace hS := of_t hb6 hS
                replace hf := Fr.cast (L' := [(7, .int .u64 z4.1), (8, .int .i64 z4.2), (9, .int .u64 z5.1), (10, .int .i64 z5.2), (58, .bool true)]) hf (by rw [hb6])
                refine st tbOk 4 [8, 9, 10, 62] (L' := [(8, .int .i64 z4.2), (9, .int .u64 z5.1), (10, .int .i64 z5.2), (62, .bool (z4.1 == 512))]) hf (by kernel_rfl) ?_
                clear hf; clear a; intro a hf
                rcases Bool.eq_false_or_eq_true (z4.1 == 512) with hb7 | hb7
                · replace hS := of_t hb7 hS
                  replace hf := Fr.cast (L' := [(8, .int .i64 z4.2), (9, .int .u64 z5.1), (10, .int .i64 z5.2), (62, .bool true)]) hf (by rw [hb7])
                  refine st tbOk 4 [9, 10, 66] (L' := [(9, .int .u64 z5.1), (10, .int .i64 z5.2), (66, .bool (z4.2 == 0))]) hf (by kernel_rfl) ?_
                  clear hf; clear a; intro a hf
                  rcases Bool.eq_false_or_eq_true (z4.2 == 0) with hb8 | hb8
                  · replace hS := of_t hb8 hS
                    replace hf := Fr.cast (L' := [(9, .int .u64 z5.1), (10, .int .i64 z5.2), (66, .bool true)]) hf (by rw [hb8])
                    refine st tbOk 4 [10, 70] (L' := [(10, .int .i64 z5.2), (70, .bool (z5.1 == 256))]) hf (by kernel_rfl) ?_
                    clear hf; clear a; intro a hf
                    rcases Bool.eq_false_or_eq_true (z5.1 == 256) with hb9 | hb9
                    · replace hS := of_t hb9 hS
                      replace hf := Fr.cast (L' := [(10, .int .i64 z5.2), (70, .bool true)]) hf (by rw [hb9])
                      refine st tbOk 4 [74] (L' := [(74, .bool (z5.2 == 0))]) hf (by kernel_rfl) ?_
                      clear hf; clear a; intro a hf
                      rcases Bool.eq_false_or_eq_true (z5.2 == 0) with hb10 | hb10
                      · replace hS := of_t hb10 hS
                        replace hf := Fr.cast (L' := [(74, .bool true)]) hf (by rw [hb10])
                        have hT := of_bd hS; clear hS; obtain ⟨z6, hz6, hS⟩ := hT
                        refine cl ent23 (vs := [.int .u64 0, .int .u64 6, .int .u64 5, .int .u64 2]) hf (by kernel_rfl) (by kernel_rfl) (by kernel_rfl) (octets_Meet_ok  hz6) ?_
                        clear hf; clear a; intro v w9 a hT hf; obtain ⟨rfl, hx⟩ := hT
                        replace hE := hE.tr hx
                        replace ho1 := ho1.ext hx
                        replace ho2 := ho2.ext hx
                        replace ho3 := ho3.ext hx
                        replace ho4 := ho4.ext hx
                        replace ho5 := ho5.ext hx
                        replace hf := Fr.keep (ks := [74, 75]) (L' := [(74, .bool true), (75, .bool z6)]) hf (by kernel_rfl)
                        refine st tbOk 2 [77] (L' := [(77, .bool z6)]) hf (by kernel_rfl) ?_
                        clear hf; clear a; intro a hf
                        rcases Bool.eq_false_or_eq_true (z6) with hb11 | hb11
                        · replace hS := of_t hb11 hS
                          replace hf := Fr.cast (L' := [(77, .bool true)]) hf (by rw [hb11])
                          have hT := of_bd hS; clear hS; obtain ⟨z7, hz7, hS⟩ := hT
                          refine cl ent23 (vs := [.int .u64 0, .int .u64 5, .int .u64 5, .int .u64 2]) hf (by kernel_rfl) (by kernel_rfl) (by kernel_rfl) (octets_Meet_ok  hz7) ?_
                          clear hf; clear a; intro v w10 a hT hf; obtain ⟨rfl, hx⟩ := hT
                          replace hE := hE.tr hx
                          replace ho1 := ho1.ext hx
                          replace ho2 := ho2.ext hx
                          replace ho3 := ho3.ext hx
                          replace ho4 := ho4.ext hx
                          replace ho5 := ho5.ext hx
                          replace hf := Fr.keep (ks := [77, 78]) (L' := [(77, .bool true), (78, .bool z7)]) hf (by kernel_rfl)
                          refine st tbOk 3 [0] (L' := [(0, .bool (!z7))]) hf (by kernel_rfl) ?_
                          clear hf; clear a; intro a hf
                          refine wpList_nil ?_
                          exact hK1 (!z7) _ _ ⟨hE, hf.keep (ks := [0]) (by kernel_rfl)⟩ hS
                        · replace hS := of_f hb11 hS
                          replace hf := Fr.cast (L' := [(77, .bool false)]) hf (by rw [hb11])
                          refine st tbOk 4 [0] (L' := [(0, .bool false)]) hf (by kernel_rfl) ?_
                          clear hf; clear a; intro a hf
                          refine wpList_nil ?_
                          exact hK1 false _ _ ⟨hE, hf.keep (ks := [0]) (by kernel_rfl)⟩ hS
                      · replace hS := of_f hb10 hS
                        replace hf := Fr.cast (L' := [(74, .bool false)]) hf (by rw [hb10])
                        refine st tbOk 7 [0] (L' := [(0, .bool false)]) hf (by kernel_rfl) ?_
                        clear hf; clear a; intro a hf
                        refine wpList_nil ?_
                        exact hK1 false _ _ ⟨hE, hf.keep (ks := [0]) (by kernel_rfl)⟩ hS
                    · replace hS := of_f hb9 hS
                      replace hf := Fr.cast (L' := [(10, .int .i64 z5.2), (70, .bool false)]) hf (by rw [hb9])
                      refine st tbOk 11 [0] (L' := [(0, .bool false)]) hf (by kernel_rfl) ?_
                      clear hf; clear a; intro a hf
                      refine wpList_nil ?_
                      exact hK1 false _ _ ⟨hE, hf.keep (ks := [0]) (by kernel_rfl)⟩ hS
                  · replace hS := of_f hb8 hS
                    replace hf := Fr.cast (L' := [(9, .int .u64 z5.1), (10, .int .i64 z5.2), (66, .bool false)]) hf (by rw [hb8])
                    refine st tbOk 15 [0] (L' := [(0, .bool false)]) hf (by kernel_rfl) ?_
                    clear hf; clear a; intro a hf
                    refine wpList_nil ?_
                    exact hK1 false _ _ ⟨hE, hf.keep (ks := [0]) (by kernel_rfl)⟩ hS
                · replace hS := of_f hb7 hS
                  replace hf := Fr.cast (L' := [(8, .int .i64 z4.2), (9, .int .u64 z5.1), (10, .int .i64 z5.2), (62, .bool false)]) hf (by rw [hb7])
                  refine st tbOk 19 [0] (L' := [(0, .bool false)]) hf (by kernel_rfl) ?_
                  clear hf; clear a; intro a hf
                  refine wpList_nil ?_
                  exact hK1 false _ _ ⟨hE, hf.keep (ks := [0]) (by kernel_rfl)⟩ hS
              · replace hS := of_f hb6 hS
                replace hf := Fr.cast (L' := [(7, .int .u64 z4.1), (8, .int .i64 z4.2), (9, .int .u64 z5.1), (10, .int .i64 z5.2), (58, .bool false)]) hf (by rw [hb6])
                refine st tbOk 23 [0] (L' := [(0, .bool false)]) hf (by kernel_rfl) ?_
                clear hf; clear a; intro a hf
                refine wpList_nil ?_
                exact hK1 false _ _ ⟨hE, hf.keep (ks := [0]) (by kernel_rfl)⟩ hS
            · replace hS := of_f hb5 hS
              replace hf := Fr.cast (L' := [(6, .int .i64 z3.2), (7, .int .u64 z4.1), (8, .int .i64 z4.2), (9, .int .u64 z5.1), (10, .int .i64 z5.2), (54, .bool false)]) hf (by rw [hb5])
              refine st tbOk 27 [0] (L' := [(0, .bool false)]) hf (by kernel_rfl) ?_
              clear hf; clear a; intro a hf
              refine wpList_nil ?_
              exact hK1 false _ _ ⟨hE, hf.keep (ks := [0]) (by kernel_rfl)⟩ hS
          · replace hS := of_f hb4 hS
            replace hf := Fr.cast (L' := [(5, .slice ao2 z3.1.length cp2), (6, .int .i64 z3.2), (7, .int .u64 z4.1), (8, .int .i64 z4.2), (9, .int .u64 z5.1), (10, .int .i64 z5.2), (49, .bool false)]) hf (by rw [hb4])
            refine st tbOk 32 [0] (L' := [(0, .bool false)]) hf (by kernel_rfl) ?_
            clear hf; clear a; intro a hf
            refine wpList_nil ?_
            exact hK1 false _ _ ⟨hE, hf.keep (ks := [0]) (by kernel_rfl)⟩ hS
        · replace hS := of_f hb3 hS
          replace hf := Fr.cast (L' := [(4, .int .i64 z2.2), (5, .slice ao2 z3.1.length cp2), (6, .int .i64 z3.2), (7, .int .u64 z4.1), (8, .int .i64 z4.2), (9, .int .u64 z5.1), (10, .int .i64 z5.2), (45, .bool false)]) hf (by rw [hb3])
          refine st tbOk 36 [0] (L' := [(0, .bool false)]) hf (by kernel_rfl) ?_
          clear hf; clear a; intro a hf
          refine wpList_nil ?_
          exact hK1 false _ _ ⟨hE, hf.keep (ks := [0]) (by kernel_rfl)⟩ hS
      · replace hS := of_f hb2 hS
        replace hf := Fr.cast (L' := [(3, .slice ao1 z2.1.length cp1), (4, .int .i64 z2.2), (5, .slice ao2 z3.1.length cp2), (6, .int .i64 z3.2), (7, .int .u64 z4.1), (8, .int .i64 z4.2), (9, .int .u64 z5.1), (10, .int .i64 z5.2), (40, .bool false)]) hf (by rw [hb2])
        refine st tbOk 41 [0] (L' := [(0, .bool false)]) hf (by kernel_rfl) ?_
        clear hf; clear a; intro a hf
        refine wpList_nil ?_
        exact hK1 false _ _ ⟨hE, hf.keep (ks := [0]) (by kernel_rfl)⟩ hS
    · replace hS := of_f hb1 hS
      replace hf := Fr.cast (L' := [(2, .int .i64 z1.2), (3, .slice ao1 z2.1.length cp1), (4, .int .i64 z2.2), (5, .slice ao2 z3.1.length cp2), (6, .int .i64 z3.2), (7, .int .u64 z4.1), (8, .int .i64 z4.2), (9, .int .u64 z5.1), (10, .int .i64 z5.2), (36, .bool false)]) hf (by rw [hb1])
      refine st tbOk 45 [0] (L' := [(0, .bool false)]) hf (by kernel_rfl) ?_
      clear hf; clear a; intro a hf
      refine wpList_nil ?_
      exact hK1 false _ _ ⟨hE, hf.keep (ks := [0]) (by kernel_rfl)⟩ hS

theorem ref01_width_ok {w : World} {n : Int}  {r : Bool} (hS : ref01_width n = some r) :
    Calls Try.prog 25 #[.int .i64 n] w (Gives (fun u w' => u = .bool r ∧ Ext w w')) := by
  unfold ref01_width at hS
  refine fn_ok (vs := [.int .i64 n]) Try.func25 rfl 17 Try.ntmps25 (Nat.le_of_ble_eq_true rfl) ?_
  intro a hf
  replace hf := Fr.cast (L' := [(0, .int .i64 n)]) hf (by kernel_rfl)
  have hE := Ext.rfl' w
  refine sq ?_
  refine reg ?_
  refine st tbOk 1 [0] (L' := [(0, .int .i64 n)]) hf (by kernel_rfl) ?_
  clear hf; clear a; intro a hf
  refine wpList_nil ?_
  refine sq ?_
  refine ctj (fun (s1 : Bool) (a : Act) (w' : World) => Ext w w' ∧ Fr 17 [(2, .bool s1)] a) hS ?_ ?_
  · clear hS hf; clear a; clear hE; intro s1 a w1 hM hS
    obtain ⟨hE, hf⟩ := hM
    have hr := Option.some.inj hS; subst hr
    refine wp_ret ?_
    exact ret_ok hf (vs := [.bool s1]) (by kernel_rfl) ⟨rfl, hE⟩
  · clear hS; intro KK1 k1 hK1 hS
    refine reg ?_
    refine st tbOk 3 [0, 5] (L' := [(0, .int .i64 n), (5, .bool (n == 1))]) hf (by kernel_rfl) ?_
    clear hf; clear a; intro a hf
    rcases Bool.eq_false_or_eq_true (n == 1) with hb1 | hb1
    · replace hS := of_t hb1 hS
      replace hf := Fr.cast (L' := [(0, .int .i64 n), (5, .bool true)]) hf (by rw [hb1])
      refine st tbOk 12 [2] (L' := [(2, .bool true)]) hf (by kernel_rfl) ?_
      clear hf; clear a; intro a hf
      refine wpList_nil ?_
      exact hK1 true _ _ ⟨hE, hf.keep (ks := [2]) (by kernel_rfl)⟩ hS
    · replace hS := of_f hb1 hS
      replace hf := Fr.cast (L' := [(0, .int .i64 n), (5, .bool false)]) hf (by rw [hb1])
      refine st tbOk 4 [0, 9] (L' := [(0, .int .i64 n), (9, .bool (n == 2))]) hf (by kernel_rfl) ?_
      clear hf; clear a; intro a hf
      rcases Bool.eq_false_or_eq_true (n == 2) with hb2 | hb2
      · replace hS := of_t hb2 hS
        replace hf := Fr.cast (L' := [(0, .int .i64 n), (9, .bool true)]) hf (by rw [hb2])
        refine st tbOk 8 [2] (L' := [(2, .bool true)]) hf (by kernel_rfl) ?_
        clear hf; clear a; intro a hf
        refine wpList_nil ?_
        exact hK1 true _ _ ⟨hE, hf.keep (ks := [2]) (by kernel_rfl)⟩ hS
      · replace hS := of_f hb2 hS
        replace hf := Fr.cast (L' := [(0, .int .i64 n), (9, .bool false)]) hf (by rw [hb2])
        refine st tbOk 4 [0, 13] (L' := [(0, .int .i64 n), (13, .bool (n == 4))]) hf (by kernel_rfl) ?_
        clear hf; clear a; intro a hf
        rcases Bool.eq_false_or_eq_true (n == 4) with hb3 | hb3
        · replace hS := of_t hb3 hS
          replace hf := Fr.cast (L' := [(0, .int .i64 n), (13, .bool true)]) hf (by rw [hb3])
          refine st tbOk 4 [2] (L' := [(2, .bool true)]) hf (by kernel_rfl) ?_
          clear hf; clear a; intro a hf
          refine wpList_nil ?_
          exact hK1 true _ _ ⟨hE, hf.keep (ks := [2]) (by kernel_rfl)⟩ hS
        · replace hS := of_f hb3 hS
          replace hf := Fr.cast (L' := [(0, .int .i64 n), (13, .bool false)]) hf (by rw [hb3])
          refine st tbOk 4 [2] (L' := [(2, .bool (n == 8))]) hf (by kernel_rfl) ?_
          clear hf; clear a; intro a hf
          refine wpList_nil ?_
          exact hK1 (n == 8) _ _ ⟨hE, hf.keep (ks := [2]) (by kernel_rfl)⟩ hS

theorem ref01_Inside_ok {w : World} {p_many : Int} {p_at : Int} {size : Int}  {r : Bool} (hS : ref01_Inside p_many p_at size = some r) :
    Calls Try.prog 26 #[.int .i64 p_many, .int .u64 p_at, .int .u64 size] w (Gives (fun u w' => u = .bool r ∧ Ext w w')) := by
  unfold ref01_Inside at hS
  refine fn_ok (vs := [.int .i64 p_many, .int .u64 p_at, .int .u64 size]) Try.func26 rfl 17 Try.ntmps26 (Nat.le_of_ble_eq_true rfl) ?_
  intro a hf
  replace hf := Fr.cast (L' := [(0, .int .i64 p_many), (1, .int .u64 p_at), (2, .int .u64 size)]) hf (by kernel_rfl)
  have hE := Ext.rfl' w
  refine sq ?_
  refine reg ?_
  refine st tbOk 1 [0, 1, 2] (L' := [(0, .int .i64 p_many), (1, .int .u64 p_at), (2, .int .u64 size)]) hf (by kernel_rfl) ?_
  clear hf; clear a; intro a hf
  refine wpList_nil ?_
  refine sq ?_
  refine sq ?_
  refine reg ?_
  refine st tbOk 4 [0, 1, 2, 10] (L' := [(0, .int .i64 p_many), (1, .int .u64 p_at), (2, .int .u64 size), (10, .bool (decide (p_at > (IntKind.u64.wrap p_many))))]) hf (by kernel_rfl) ?_
  clear hf; clear a; intro a hf
  refine wpList_nil ?_
  refine cnd (b := decide (p_at > (IntKind.u64.wrap p_many))) hf (by kernel_rfl) (fun hb1 => ?_) (fun hb1 => ?_)
  · replace hS := of_t hb1 hS
    refine sq ?_
    refine reg ?_
    refine st tbOk 1 [6] (L' := [(6, .bool false)]) hf (by kernel_rfl) ?_
    clear hf; clear a; intro a hf
    refine wpList_nil ?_
    have hr := Option.some.inj hS; subst hr
    refine wp_ret ?_
    exact ret_ok hf (vs := [.bool false]) (by kernel_rfl) ⟨rfl, hE⟩
  · replace hS := of_f hb1 hS
    refine wp_skip ?_
    refine sq ?_
    refine reg ?_
    refine st tbOk 7 [6] (L' := [(6, .bool (decide (size ≤ (IntKind.u64.wrap ((IntKind.u64.wrap p_many) - p_at)))))]) hf (by kernel_rfl) ?_
    clear hf; clear a; intro a hf
    refine wpList_nil ?_
    have hr := Option.some.inj hS; subst hr
    refine wp_ret ?_
    exact ret_ok hf (vs := [.bool (decide (size ≤ (IntKind.u64.wrap ((IntKind.u64.wrap p_many) - p_at))))]) (by kernel_rfl) ⟨rfl, hE⟩

theorem ref01_Get_ok {w : World} {b : List Int} {p_at : Int} {n : Int} {v_b : Value} (h_b : RO (hp w) (tI .u8) v_b b) {r : Int × Int} (hS : ref01_Get b p_at n = some r) :
    Calls Try.prog 13 #[v_b, .int .u64 p_at, .int .i64 n] w (Gives (fun u w' => u = .tuple #[.int .u64 r.1, .int .i64 r.2] ∧ Ext w w')) := by
  obtain ⟨ao_b, cp_b, e_b⟩ := h_b.shape; subst e_b
  unfold ref01_Get at hS
  refine fn_ok (vs := [.slice ao_b b.length cp_b, .int .u64 p_at, .int .i64 n]) Try.func13 rfl 41 Try.ntmps13 (Nat.le_of_ble_eq_true rfl) ?_
  intro a hf
  replace hf := Fr.cast (L' := [(0, .slice ao_b b.length cp_b), (1, .int .u64 p_at), (2, .int .i64 n)]) hf (by kernel_rfl)
  have hE := Ext.rfl' w
  refine sq ?_
  refine reg ?_
  refine st tbOk 2 [0, 1, 2] (L' := [(0, .slice ao_b b.length cp_b), (1, .int .u64 p_at), (2, .int .i64 n)]) hf (by kernel_rfl) ?_
  clear hf; clear a; intro a hf
  refine wpList_nil ?_
  refine sq ?_
  refine reg ?_
  refine st tbOk 1 [0, 1, 2, 11] (L' := [(0, .slice ao_b b.length cp_b), (1, .int .u64 p_at), (2, .int .i64 n), (11, .int .i64 n)]) hf (by kernel_rfl) ?_
  clear hf; clear a; intro a hf
  have hT := of_bd hS; clear hS; obtain ⟨z1, hz1, hS⟩ := hT
  refine cl ent25 (vs := [.int .i64 n]) hf (by kernel_rfl) (by kernel_rfl) (by kernel_rfl) (ref01_width_ok  hz1) ?_
  clear hf; clear a; intro v w1 a hT hf; obtain ⟨rfl, hx⟩ := hT
  replace hE := hE.tr hx
  replace hf := Fr.keep (ks := [0, 1, 2, 12]) (L' := [(0, .slice ao_b b.length cp_b), (1, .int .u64 p_at), (2, .int .i64 n), (12, .bool z1)]) hf (by kernel_rfl)
  refine st tbOk 1 [0, 1, 2, 8] (L' := [(0, .slice ao_b b.length cp_b), (1, .int .u64 p_at), (2, .int .i64 n), (8, .bool z1)]) hf (by kernel_rfl) ?_
  clear hf; clear a; intro a hf
  refine wpList_nil ?_
  refine sq ?_
  refine sq ?_
  refine reg ?_
  refine st tbOk 2 [0, 1, 2, 14] (L' := [(0, .slice ao_b b.length cp_b), (1, .int .u64 p_at), (2, .int .i64 n), (14, .bool (!z1))]) hf (by kernel_rfl) ?_
  clear hf; clear a; intro a hf
  refine wpList_nil ?_
  refine cnd (b := !z1) hf (by kernel_rfl) (fun hb1 => ?_) (fun hb1 => ?_)
  · replace hS := of_t hb1 hS
    refine sq ?_
    refine reg ?_
    refine st tbOk 2 [6, 7] (L' := [(6, .int .u64 0), (7, .int .i64 1)]) hf (by kernel_rfl) ?_
    clear hf; clear a; intro a hf
    refine wpList_nil ?_
    have hr := Option.some.inj hS; subst hr
    refine wp_ret ?_
    exact ret_ok hf (vs := [.int .u64 0, .int .i64 1]) (by kernel_rfl) ⟨rfl, hE⟩
  · replace hS := of_f hb1 hS
    refine wp_skip ?_
    refine sq ?_
    refine reg ?_
    refine st tbOk 5 [0, 1, 2, 16, 17, 19] (L' := [(0, .slice ao_b b.length cp_b), (1, .int .u64 p_at), (2, .int .i64 n), (16, .int .i64 ((b.length : Nat) : Int)), (17, .int .u64 p_at), (19, .int .u64 (IntKind.u64.wrap n))]) hf (by kernel_rfl) ?_
    clear hf; clear a; intro a hf
    have hT := of_bd hS; clear hS; obtain ⟨z2, hz2, hS⟩ := hT
    refine cl ent26 (vs := [.int .i64 ((b.length : Nat) : Int), .int .u64 p_at, .int .u64 (IntKind.u64.wrap n)]) hf (by kernel_rfl) (by kernel_rfl) (by kernel_rfl) (ref01_Inside_ok  hz2) ?_
    clear hf; clear a; intro v w2 a hT hf; obtain ⟨rfl, hx⟩ := hT
    replace hE := hE.tr hx
    replace hf := Fr.keep (ks := [0, 1, 2, 20]) (L' := [(0, .slice ao_b b.length cp_b), (1, .int .u64 p_at), (2, .int .i64 n), (20, .bool z2)]) hf (by kernel_rfl)
    refine st tbOk 1 [0, 1, 2, 8] (L' := [(0, .slice ao_b b.length cp_b), (1, .int .u64 p_at), (2, .int .i64 n), (8, .bool z2)]) hf (by kernel_rfl) ?_
    clear hf; clear a; intro a hf
    refine wpList_nil ?_
    refine sq ?_
    refine sq ?_
    refine reg ?_
    refine st tbOk 2 [0, 1, 2, 22] (L' := [(0, .slice ao_b b.length cp_b), (1, .int .u64 p_at), (2, .int .i64 n), (22, .bool (!z2))]) hf (by kernel_rfl) ?_
    clear hf; clear a; intro a hf
    refine wpList_nil ?_
    refine cnd (b := !z2) hf (by kernel_rfl) (fun hb2 => ?_) (fun hb2 => ?_)
    · replace hS := of_t hb2 hS
      refine sq ?_
      refine reg ?_
      refine st tbOk 2 [6, 7] (L' := [(6, .int .u64 0), (7, .int .i64 10)]) hf (by kernel_rfl) ?_
      clear hf; clear a; intro a hf
      refine wpList_nil ?_
      have hr := Option.some.inj hS; subst hr
      refine wp_ret ?_
      exact ret_ok hf (vs := [.int .u64 0, .int .i64 10]) (by kernel_rfl) ⟨rfl, hE⟩
    · replace hS := of_f hb2 hS
      refine wp_skip ?_
      refine sq ?_
      refine reg ?_
      refine st tbOk 1 [0, 1, 2, 9] (L' := [(0, .slice ao_b b.length cp_b), (1, .int .u64 p_at), (2, .int .i64 n), (9, .int .u64 0)]) hf (by kernel_rfl) ?_
      clear hf; clear a; intro a hf
      refine wpList_nil ?_
      refine sq ?_
      refine sq ?_
      refine reg ?_
      have hT := of_let hS; clear hS; obtain ⟨i_1, hl1, hS⟩ := hT
      refine st tbOk 3 [0, 1, 9, 10] (L' := [(0, .slice ao_b b.length cp_b), (1, .int .u64 p_at), (9, .int .u64 0), (10, .int .i64 i_1)]) hf (by subst hl1; kernel_rfl) ?_
      clear hf; clear a; intro a hf
      refine wpList_nil ?_
      refine ctj (fun (s1 : Int) (a : Act) (w' : World) => Ext w w' ∧ Fr 41 [(9, .int .u64 s1)] a) hS ?_ ?_
      · clear hS hf; clear a; clear hE; intro s1 a w4 hM hS
        obtain ⟨hE, hf⟩ := hM
        refine sq ?_
        refine reg ?_
        refine st tbOk 3 [6, 7] (L' := [(6, .int .u64 s1), (7, .int .i64 0)]) hf (by kernel_rfl) ?_
        clear hf; clear a; intro a hf
        refine wpList_nil ?_
        have hr := Option.some.inj hS; subst hr
        refine wp_ret ?_
        exact ret_ok hf (vs := [.int .u64 s1, .int .i64 0]) (by kernel_rfl) ⟨rfl, hE⟩
      · clear hS; intro KK1 k1 hK1 hS
        refine blk ?_
        refine lp (st := (0, i_1)) (fun (s2 : Int × Int) (a : Act) (w' : World) => Ext w w' ∧ Fr 41 [(0, .slice ao_b b.length cp_b), (1, .int .u64 p_at), (9, .int .u64 s2.1), (10, .int .i64 s2.2)] a) ?_ ⟨hE, hf.keep (ks := [0, 1, 9, 10]) (by kernel_rfl)⟩ hS
        clear hS hf; clear a; clear hE
        intro rec1 KK2 hK2 s2 a w3 hM hS
        obtain ⟨hE, hf⟩ := hM
        refine sq ?_
        refine sq ?_
        refine reg ?_
        refine st tbOk 2 [0, 1, 9, 10, 26] (L' := [(0, .slice ao_b b.length cp_b), (1, .int .u64 p_at), (9, .int .u64 s2.1), (10, .int .i64 s2.2), (26, .bool (decide (s2.2 ≥ 0)))]) hf (by kernel_rfl) ?_
        clear hf; clear a; intro a hf
        refine wpList_nil ?_
        refine cnd (b := decide (s2.2 ≥ 0)) hf (by kernel_rfl) (fun hb3 => ?_) (fun hb3 => ?_)
        · replace hS := of_t hb3 hS
          refine wp_skip ?_
          refine sq ?_
          refine blk ?_
          refine reg ?_
          refine st tbOk 7 [0, 1, 10, 30, 31, 35] (L' := [(0, .slice ao_b b.length cp_b), (1, .int .u64 p_at), (10, .int .i64 s2.2), (30, .int .u64 (IntKind.u64.wrap (s2.1 * 256))), (31, .slice ao_b b.length cp_b), (35, .int .i64 (IntKind.i64.wrap ((IntKind.i64.wrap p_at) + s2.2)))]) hf (by kernel_rfl) ?_
          clear hf; clear a; intro a hf
          have hT := of_gd hS; clear hS; obtain ⟨hc1, hS⟩ := hT
          refine ix tbOk u22 i5 rfl rfl h_b (k := .i64) (n := IntKind.i64.wrap ((IntKind.i64.wrap p_at) + s2.2)) hc1 hf (by kernel_rfl) (by kernel_rfl) (by kernel_rfl) (by kernel_rfl) ?_
          clear hf; clear a; intro p1 c1 a hp1 hr1 hf
          obtain rfl : c1 = [.int .u8 (gt b (IntKind.i64.wrap ((IntKind.i64.wrap p_at) + s2.2)))] := hr1
          replace hf := Fr.keep (ks := [0, 1, 10, 30, 36]) (L' := [(0, .slice ao_b b.length cp_b), (1, .int .u64 p_at), (10, .int .i64 s2.2), (30, .int .u64 (IntKind.u64.wrap (s2.1 * 256))), (36, .pointer (some p1))]) hf (by kernel_rfl)
          refine ld tbOk u5 rfl hp1 hE.le hf (by kernel_rfl) (by kernel_rfl) (by kernel_rfl) ?_
          clear hf; clear a; intro a hf
          replace hf := Fr.keep (ks := [0, 1, 10, 30, 37]) (L' := [(0, .slice ao_b b.length cp_b), (1, .int .u64 p_at), (10, .int .i64 s2.2), (30, .int .u64 (IntKind.u64.wrap (s2.1 * 256))), (37, .int .u8 (gt b (IntKind.i64.wrap ((IntKind.i64.wrap p_at) + s2.2))))]) hf (by kernel_rfl)
          have hT := of_let hS; clear hS; obtain ⟨x_1, hl2, hS⟩ := hT
          refine st tbOk 3 [0, 1, 9, 10] (L' := [(0, .slice ao_b b.length cp_b), (1, .int .u64 p_at), (9, .int .u64 x_1), (10, .int .i64 s2.2)]) hf (by subst hl2; kernel_rfl) ?_
          clear hf; clear a; intro a hf
          refine wpList_nil ?_
          refine reg ?_
          have hT := of_let hS; clear hS; obtain ⟨i_2, hl3, hS⟩ := hT
          refine st tbOk 3 [0, 1, 9, 10] (L' := [(0, .slice ao_b b.length cp_b), (1, .int .u64 p_at), (9, .int .u64 x_1), (10, .int .i64 i_2)]) hf (by subst hl3; kernel_rfl) ?_
          clear hf; clear a; intro a hf
          refine wpList_nil ?_
          exact hK2 (x_1, i_2) _ _ ⟨hE, hf.keep (ks := [0, 1, 9, 10]) (by kernel_rfl)⟩ hS
        · replace hS := of_f hb3 hS
          refine wp_exit ?_
          exact hK1 s2.1 _ _ ⟨hE, hf.keep (ks := [9]) (by kernel_rfl)⟩ hS

theorem ref01_Set_ok {w : World} {b : List Int} {p_at : Int} {n : Int} {p_x : Int} {v_b : Value} (h_b : RO (hp w) (tI .u8) v_b b) {r : (List Int) × Int} (hS : ref01_Set b p_at n p_x = some r) :
    Calls Try.prog 15 #[v_b, .int .u64 p_at, .int .i64 n, .int .u64 p_x] w (Gives (fun u w' => ∃ (ao1 : Option Addr) (cp1 : Nat), u = .tuple #[.slice ao1 r.1.length cp1, .int .i64 r.2] ∧ Ext w w' ∧ Own w' w.heap.size mt 5 (tI .u8) (.slice ao1 r.1.length cp1) r.1)) := by
  obtain ⟨ao_b, cp_b, e_b⟩ := h_b.shape; subst e_b
  unfold ref01_Set at hS
  refine fn_ok (vs := [.slice ao_b b.length cp_b, .int .u64 p_at, .int .i64 n, .int .u64 p_x]) Try.func15 rfl 44 Try.ntmps15 (Nat.le_of_ble_eq_true rfl) ?_
  intro a hf
  replace hf := Fr.cast (L' := [(0, .slice ao_b b.length cp_b), (1, .int .u64 p_at), (2, .int .i64 n), (3, .int .u64 p_x)]) hf (by kernel_rfl)
  have hE := Ext.rfl' w
  refine sq ?_
  refine reg ?_
  refine st tbOk 2 [0, 1, 2, 3] (L' := [(0, .slice ao_b b.length cp_b), (1, .int .u64 p_at), (2, .int .i64 n), (3, .int .u64 p_x)]) hf (by kernel_rfl) ?_
  clear hf; clear a; intro a hf
  refine wpList_nil ?_
  refine sq ?_
  refine reg ?_
  refine st tbOk 3 [0, 1, 2, 3, 15, 16, 17] (L' := [(0, .slice ao_b b.length cp_b), (1, .int .u64 p_at), (2, .int .i64 n), (3, .int .u64 p_x), (15, .slice ao_b b.length cp_b), (16, .int .u64 p_at), (17, .int .i64 n)]) hf (by kernel_rfl) ?_
  clear hf; clear a; intro a hf
  have hT := of_bd hS; clear hS; obtain ⟨z1, hz1, hS⟩ := hT
  refine cl ent13 (vs := [.slice ao_b b.length cp_b, .int .u64 p_at, .int .i64 n]) hf (by kernel_rfl) (by kernel_rfl) (by kernel_rfl) (ref01_Get_ok h_b hz1) ?_
  clear hf; clear a; intro v w1 a hT hf; obtain ⟨rfl, hx⟩ := hT
  replace hE := hE.tr hx
  replace hf := Fr.keep (ks := [0, 1, 2, 3, 18]) (L' := [(0, .slice ao_b b.length cp_b), (1, .int .u64 p_at), (2, .int .i64 n), (3, .int .u64 p_x), (18, .tuple #[.int .u64 z1.1, .int .i64 z1.2])]) hf (by kernel_rfl)
  refine st tbOk 5 [0, 1, 2, 3, 11] (L' := [(0, .slice ao_b b.length cp_b), (1, .int .u64 p_at), (2, .int .i64 n), (3, .int .u64 p_x), (11, .int .i64 z1.2)]) hf (by kernel_rfl) ?_
  clear hf; clear a; intro a hf
  refine wpList_nil ?_
  refine sq ?_
  refine sq ?_
  refine reg ?_
  refine st tbOk 2 [0, 1, 2, 3, 11, 22] (L' := [(0, .slice ao_b b.length cp_b), (1, .int .u64 p_at), (2, .int .i64 n), (3, .int .u64 p_x), (11, .int .i64 z1.2), (22, .bool (z1.2 != 0))]) hf (by kernel_rfl) ?_
  clear hf; clear a; intro a hf
  refine wpList_nil ?_
  refine cnd (b := z1.2 != 0) hf (by kernel_rfl) (fun hb1 => ?_) (fun hb1 => ?_)
  · replace hS := of_t hb1 hS
    refine sq ?_
    refine reg ?_
    refine st tbOk 3 [8, 9] (L' := [(8, .slice none 0 0), (9, .int .i64 z1.2)]) hf (by kernel_rfl) ?_
    clear hf; clear a; intro a hf
    refine wpList_nil ?_
    have hr := Option.some.inj hS; subst hr
    refine wp_ret ?_
    exact ret_ok hf (vs := [.slice none 0 0, .int .i64 z1.2]) (by kernel_rfl) ⟨none, 0, rfl, hE, Own.nil _ _ _ _ _⟩
  · replace hS := of_f hb1 hS
    refine wp_skip ?_
    refine sq ?_
    refine reg ?_
    refine st tbOk 1 [0, 1, 2, 3, 12] (L' := [(0, .slice ao_b b.length cp_b), (1, .int .u64 p_at), (2, .int .i64 n), (3, .int .u64 p_x), (12, .slice none 0 0)]) hf (by kernel_rfl) ?_
    clear hf; clear a; intro a hf
    refine wpList_nil ?_
    refine sq ?_
    refine reg ?_
    refine st tbOk 2 [1, 2, 3, 24, 25] (L' := [(1, .int .u64 p_at), (2, .int .i64 n), (3, .int .u64 p_x), (24, .slice none 0 0), (25, .slice ao_b b.length cp_b)]) hf (by kernel_rfl) ?_
    clear hf; clear a; intro a hf
    have hT := of_gd hS; clear hS; obtain ⟨hc1, hS⟩ := hT
    have ho1 := Own.nil w1 w.heap.size mt 5 (tI .u8)
    refine ap tbOk u22 i5 rfl rfl rfl (flat_I .u8) rfl ho1 hE.size h_b hE.le hc1 hf (by kernel_rfl) (by kernel_rfl) (by kernel_rfl) (by kernel_rfl) ?_
    clear hf; clear a; intro ao1 cp1 w2 a ho2 hg hloc hf
    replace hE := hE.grow hg (fun k hk => (ho1.lt k hk).1)
    replace hf := Fr.keep (ks := [1, 2, 3, 26]) (L' := [(1, .int .u64 p_at), (2, .int .i64 n), (3, .int .u64 p_x), (26, .slice ao1 (([] : List Int) ++ b).length cp1)]) hf (by kernel_rfl)
    have hT := of_let hS; clear hS; obtain ⟨out_1, hl1, hS⟩ := hT
    rw [← hl1] at ho2
    refine st tbOk 1 [1, 2, 3, 12] (L' := [(1, .int .u64 p_at), (2, .int .i64 n), (3, .int .u64 p_x), (12, .slice ao1 out_1.length cp1)]) hf (by subst hl1; kernel_rfl) ?_
    clear hf; clear a; intro a hf
    refine wpList_nil ?_
    refine sq ?_
    refine sq ?_
    refine reg ?_
    refine st tbOk 1 [1, 2, 3, 12, 13] (L' := [(1, .int .u64 p_at), (2, .int .i64 n), (3, .int .u64 p_x), (12, .slice ao1 out_1.length cp1), (13, .int .i64 0)]) hf (by kernel_rfl) ?_
    clear hf; clear a; intro a hf
    refine wpList_nil ?_
    refine ctj (fun (s1 : (List Int)) (a : Act) (w' : World) => ∃ (ao2 : Option Addr) (cp2 : Nat), Ext w w' ∧ Own w' w.heap.size mt 5 (tI .u8) (.slice ao2 s1.length cp2) s1 ∧ Fr 44 [(12, .slice ao2 s1.length cp2)] a) hS ?_ ?_
    · clear hS hf; clear a; clear hE; intro s1 a w5 hM hS
      obtain ⟨ao2, cp2, hE, ho3, hf⟩ := hM
      refine sq ?_
      refine reg ?_
      refine st tbOk 3 [8, 9] (L' := [(8, .slice ao2 s1.length cp2), (9, .int .i64 0)]) hf (by kernel_rfl) ?_
      clear hf; clear a; intro a hf
      refine wpList_nil ?_
      have hr := Option.some.inj hS; subst hr
      refine wp_ret ?_
      exact ret_ok hf (vs := [.slice ao2 s1.length cp2, .int .i64 0]) (by kernel_rfl) ⟨ao2, cp2, rfl, hE, ho3⟩
    · clear hS; intro KK1 k1 hK1 hS
      refine blk ?_
      refine lp (st := (p_x, out_1, 0)) (fun (s2 : Int × (List Int) × Int) (a : Act) (w' : World) => ∃ (ao3 : Option Addr) (cp3 : Nat), Ext w w' ∧ Own w' w.heap.size mt 5 (tI .u8) (.slice ao3 s2.2.1.length cp3) s2.2.1 ∧ Fr 44 [(1, .int .u64 p_at), (2, .int .i64 n), (3, .int .u64 s2.1), (12, .slice ao3 s2.2.1.length cp3), (13, .int .i64 s2.2.2)] a) ?_ ⟨ao1, cp1, hE, ho2, hf.keep (ks := [1, 2, 3, 12, 13]) (by kernel_rfl)⟩ hS
      clear hS hf; clear a; clear hE
      intro rec1 KK2 hK2 s2 a w3 hM hS
      obtain ⟨ao3, cp3, hE, ho4, hf⟩ := hM
      refine sq ?_
      refine sq ?_
      refine reg ?_
      refine st tbOk 3 [1, 2, 3, 12, 13, 29] (L' := [(1, .int .u64 p_at), (2, .int .i64 n), (3, .int .u64 s2.1), (12, .slice ao3 s2.2.1.length cp3), (13, .int .i64 s2.2.2), (29, .bool (decide (s2.2.2 < n)))]) hf (by kernel_rfl) ?_
      clear hf; clear a; intro a hf
      refine wpList_nil ?_
      refine cnd (b := decide (s2.2.2 < n)) hf (by kernel_rfl) (fun hb2 => ?_) (fun hb2 => ?_)
      · replace hS := of_t hb2 hS
        refine wp_skip ?_
        refine sq ?_
        refine blk ?_
        refine sq ?_
        refine reg ?_
        refine st tbOk 8 [1, 2, 3, 12, 13, 32, 36, 39] (L' := [(1, .int .u64 p_at), (2, .int .i64 n), (3, .int .u64 s2.1), (12, .slice ao3 s2.2.1.length cp3), (13, .int .i64 s2.2.2), (32, .slice ao3 s2.2.1.length cp3), (36, .int .i64 (IntKind.i64.wrap ((IntKind.i64.wrap p_at) + s2.2.2))), (39, .int .u8 (IntKind.u8.wrap (Int.tmod s2.1 256)))]) hf (by kernel_rfl) ?_
        clear hf; clear a; intro a hf
        have hT := of_gd hS; clear hS; obtain ⟨hc2, hS⟩ := hT
        refine ixO tbOk u22 i5 ho4 (k := .i64) (n := IntKind.i64.wrap ((IntKind.i64.wrap p_at) + s2.2.2)) hc2 hf (by kernel_rfl) (by kernel_rfl) (by kernel_rfl) (by kernel_rfl) ?_
        clear hf; clear a; intro p1 a hp1 hf
        replace hf := Fr.keep (ks := [1, 2, 3, 12, 13, 39, 40]) (L' := [(1, .int .u64 p_at), (2, .int .i64 n), (3, .int .u64 s2.1), (12, .slice ao3 s2.2.1.length cp3), (13, .int .i64 s2.2.2), (39, .int .u8 (IntKind.u8.wrap (Int.tmod s2.1 256))), (40, .pointer (some p1))]) hf (by kernel_rfl)
        refine sto tbOk i5 rfl ho4 hc2 hp1 (u := .int .u8 (IntKind.u8.wrap (Int.tmod s2.1 256))) (yv := IntKind.u8.wrap (Int.tmod s2.1 256)) rfl rfl hf (by kernel_rfl) (by kernel_rfl) (by kernel_rfl) ?_
        clear hf; clear a; intro w4 a hN hg hz hf
        replace hE := hE.grow hg (fun k hk => (ho4.lt k hk).1)
        replace ho4 : Own w4 w.heap.size mt 5 (tI .u8) (.slice ao3 (s2.2.1.set (IntKind.i64.wrap ((IntKind.i64.wrap p_at) + s2.2.2)).toNat (IntKind.u8.wrap (Int.tmod s2.1 256))).length cp3) (s2.2.1.set (IntKind.i64.wrap ((IntKind.i64.wrap p_at) + s2.2.2)).toNat (IntKind.u8.wrap (Int.tmod s2.1 256))) := by simpa only [List.length_set] using hN
        clear hN; replace hf := Fr.cast (L' := [(1, .int .u64 p_at), (2, .int .i64 n), (3, .int .u64 s2.1), (12, .slice ao3 (s2.2.1.set (IntKind.i64.wrap ((IntKind.i64.wrap p_at) + s2.2.2)).toNat (IntKind.u8.wrap (Int.tmod s2.1 256))).length cp3), (13, .int .i64 s2.2.2), (39, .int .u8 (IntKind.u8.wrap (Int.tmod s2.1 256))), (40, .pointer (some p1))]) hf (by simp only [List.length_set])
        replace hf := Fr.keep (ks := [1, 2, 3, 12, 13]) (L' := [(1, .int .u64 p_at), (2, .int .i64 n), (3, .int .u64 s2.1), (12, .slice ao3 (s2.2.1.set (IntKind.i64.wrap ((IntKind.i64.wrap p_at) + s2.2.2)).toNat (IntKind.u8.wrap (Int.tmod s2.1 256))).length cp3), (13, .int .i64 s2.2.2)]) hf (by kernel_rfl)
        refine wpList_nil ?_
        refine reg ?_
        have hT := of_let hS; clear hS; obtain ⟨x_1, hl2, hS⟩ := hT
        refine st tbOk 3 [1, 2, 3, 12, 13] (L' := [(1, .int .u64 p_at), (2, .int .i64 n), (3, .int .u64 x_1), (12, .slice ao3 (s2.2.1.set (IntKind.i64.wrap ((IntKind.i64.wrap p_at) + s2.2.2)).toNat (IntKind.u8.wrap (Int.tmod s2.1 256))).length cp3), (13, .int .i64 s2.2.2)]) hf (by subst hl2; kernel_rfl) ?_
        clear hf; clear a; intro a hf
        refine wpList_nil ?_
        refine reg ?_
        have hT := of_let hS; clear hS; obtain ⟨i_1, hl3, hS⟩ := hT
        refine st tbOk 3 [1, 2, 3, 12, 13] (L' := [(1, .int .u64 p_at), (2, .int .i64 n), (3, .int .u64 x_1), (12, .slice ao3 (s2.2.1.set (IntKind.i64.wrap ((IntKind.i64.wrap p_at) + s2.2.2)).toNat (IntKind.u8.wrap (Int.tmod s2.1 256))).length cp3), (13, .int .i64 i_1)]) hf (by subst hl3; kernel_rfl) ?_
        clear hf; clear a; intro a hf
        refine wpList_nil ?_
        exact hK2 (x_1, (s2.2.1.set (IntKind.i64.wrap ((IntKind.i64.wrap p_at) + s2.2.2)).toNat (IntKind.u8.wrap (Int.tmod s2.1 256))), i_1) _ _ ⟨ao3, cp3, hE, ho4, hf.keep (ks := [1, 2, 3, 12, 13]) (by kernel_rfl)⟩ hS
      · replace hS := of_f hb2 hS
        refine wp_exit ?_
        exact hK1 s2.2.1 _ _ ⟨ao3, cp3, hE, ho4, hf.keep (ks := [12]) (by kernel_rfl)⟩ hS

theorem ref01_Cut_ok {w : World} {b : List Int} {p_at : Int} {size : Int} {v_b : Value} (h_b : RO (hp w) (tI .u8) v_b b) {r : (List Int) × Int} (hS : ref01_Cut b p_at size = some r) :
    Calls Try.prog 17 #[v_b, .int .u64 p_at, .int .u64 size] w (Gives (fun u w' => ∃ (ao1 : Option Addr) (cp1 : Nat), u = .tuple #[.slice ao1 r.1.length cp1, .int .i64 r.2] ∧ Ext w w' ∧ Own w' w.heap.size mt 5 (tI .u8) (.slice ao1 r.1.length cp1) r.1)) := by
  obtain ⟨ao_b, cp_b, e_b⟩ := h_b.shape; subst e_b
  unfold ref01_Cut at hS
  refine fn_ok (vs := [.slice ao_b b.length cp_b, .int .u64 p_at, .int .u64 size]) Try.func17 rfl 33 Try.ntmps17 (Nat.le_of_ble_eq_true rfl) ?_
  intro a hf
  replace hf := Fr.cast (L' := [(0, .slice ao_b b.length cp_b), (1, .int .u64 p_at), (2, .int .u64 size)]) hf (by kernel_rfl)
  have hE := Ext.rfl' w
  refine sq ?_
  refine reg ?_
  refine st tbOk 2 [0, 1, 2] (L' := [(0, .slice ao_b b.length cp_b), (1, .int .u64 p_at), (2, .int .u64 size)]) hf (by kernel_rfl) ?_
  clear hf; clear a; intro a hf
  refine wpList_nil ?_
  refine sq ?_
  refine reg ?_
  refine st tbOk 4 [0, 1, 2, 12, 13, 14] (L' := [(0, .slice ao_b b.length cp_b), (1, .int .u64 p_at), (2, .int .u64 size), (12, .int .i64 ((b.length : Nat) : Int)), (13, .int .u64 p_at), (14, .int .u64 size)]) hf (by kernel_rfl) ?_
  clear hf; clear a; intro a hf
  have hT := of_bd hS; clear hS; obtain ⟨z1, hz1, hS⟩ := hT
  refine cl ent26 (vs := [.int .i64 ((b.length : Nat) : Int), .int .u64 p_at, .int .u64 size]) hf (by kernel_rfl) (by kernel_rfl) (by kernel_rfl) (ref01_Inside_ok  hz1) ?_
  clear hf; clear a; intro v w1 a hT hf; obtain ⟨rfl, hx⟩ := hT
  replace hE := hE.tr hx
  replace hf := Fr.keep (ks := [0, 1, 2, 15]) (L' := [(0, .slice ao_b b.length cp_b), (1, .int .u64 p_at), (2, .int .u64 size), (15, .bool z1)]) hf (by kernel_rfl)
  refine st tbOk 1 [0, 1, 2, 8] (L' := [(0, .slice ao_b b.length cp_b), (1, .int .u64 p_at), (2, .int .u64 size), (8, .bool z1)]) hf (by kernel_rfl) ?_
  clear hf; clear a; intro a hf
  refine wpList_nil ?_
  refine sq ?_
  refine sq ?_
  refine reg ?_
  refine st tbOk 2 [0, 1, 2, 17] (L' := [(0, .slice ao_b b.length cp_b), (1, .int .u64 p_at), (2, .int .u64 size), (17, .bool (!z1))]) hf (by kernel_rfl) ?_
  clear hf; clear a; intro a hf
  refine wpList_nil ?_
  refine cnd (b := !z1) hf (by kernel_rfl) (fun hb1 => ?_) (fun hb1 => ?_)
  · replace hS := of_t hb1 hS
    refine sq ?_
    refine reg ?_
    refine st tbOk 2 [6, 7] (L' := [(6, .slice none 0 0), (7, .int .i64 10)]) hf (by kernel_rfl) ?_
    clear hf; clear a; intro a hf
    refine wpList_nil ?_
    have hr := Option.some.inj hS; subst hr
    refine wp_ret ?_
    exact ret_ok hf (vs := [.slice none 0 0, .int .i64 10]) (by kernel_rfl) ⟨none, 0, rfl, hE, Own.nil _ _ _ _ _⟩
  · replace hS := of_f hb1 hS
    refine wp_skip ?_
    refine sq ?_
    refine reg ?_
    refine st tbOk 1 [0, 1, 2, 9] (L' := [(0, .slice ao_b b.length cp_b), (1, .int .u64 p_at), (2, .int .u64 size), (9, .slice none 0 0)]) hf (by kernel_rfl) ?_
    clear hf; clear a; intro a hf
    refine wpList_nil ?_
    refine sq ?_
    refine sq ?_
    refine reg ?_
    refine st tbOk 1 [0, 1, 2, 9, 10] (L' := [(0, .slice ao_b b.length cp_b), (1, .int .u64 p_at), (2, .int .u64 size), (9, .slice none 0 0), (10, .int .u64 0)]) hf (by kernel_rfl) ?_
    clear hf; clear a; intro a hf
    refine wpList_nil ?_
    refine ctj (fun (s1 : (List Int)) (a : Act) (w' : World) => ∃ (ao1 : Option Addr) (cp1 : Nat), Ext w w' ∧ Own w' w.heap.size mt 5 (tI .u8) (.slice ao1 s1.length cp1) s1 ∧ Fr 33 [(9, .slice ao1 s1.length cp1)] a) hS ?_ ?_
    · clear hS hf; clear a; clear hE; intro s1 a w5 hM hS
      obtain ⟨ao1, cp1, hE, ho1, hf⟩ := hM
      refine sq ?_
      refine reg ?_
      refine st tbOk 3 [6, 7] (L' := [(6, .slice ao1 s1.length cp1), (7, .int .i64 0)]) hf (by kernel_rfl) ?_
      clear hf; clear a; intro a hf
      refine wpList_nil ?_
      have hr := Option.some.inj hS; subst hr
      refine wp_ret ?_
      exact ret_ok hf (vs := [.slice ao1 s1.length cp1, .int .i64 0]) (by kernel_rfl) ⟨ao1, cp1, rfl, hE, ho1⟩
    · clear hS; intro KK1 k1 hK1 hS
      refine blk ?_
      refine lp (st := ([], 0)) (fun (s2 : (List Int) × Int) (a : Act) (w' : World) => ∃ (ao2 : Option Addr) (cp2 : Nat), Ext w w' ∧ Own w' w.heap.size mt 5 (tI .u8) (.slice ao2 s2.1.length cp2) s2.1 ∧ Fr 33 [(0, .slice ao_b b.length cp_b), (1, .int .u64 p_at), (2, .int .u64 size), (9, .slice ao2 s2.1.length cp2), (10, .int .u64 s2.2)] a) ?_ ⟨none, 0, hE, Own.nil _ _ _ _ _, hf.keep (ks := [0, 1, 2, 9, 10]) (by kernel_rfl)⟩ hS
      clear hS hf; clear a; clear hE
      intro rec1 KK2 hK2 s2 a w2 hM hS
      obtain ⟨ao2, cp2, hE, ho2, hf⟩ := hM
      refine sq ?_
      refine sq ?_
      refine reg ?_
      refine st tbOk 3 [0, 1, 2, 9, 10, 20] (L' := [(0, .slice ao_b b.length cp_b), (1, .int .u64 p_at), (2, .int .u64 size), (9, .slice ao2 s2.1.length cp2), (10, .int .u64 s2.2), (20, .bool (decide (s2.2 < size)))]) hf (by kernel_rfl) ?_
      clear hf; clear a; intro a hf
      refine wpList_nil ?_
      refine cnd (b := decide (s2.2 < size)) hf (by kernel_rfl) (fun hb2 => ?_) (fun hb2 => ?_)
      · replace hS := of_t hb2 hS
        refine wp_skip ?_
        refine sq ?_
        refine blk ?_
        refine reg ?_
        refine st tbOk 5 [0, 1, 2, 10, 23, 24, 27] (L' := [(0, .slice ao_b b.length cp_b), (1, .int .u64 p_at), (2, .int .u64 size), (10, .int .u64 s2.2), (23, .slice ao2 s2.1.length cp2), (24, .slice ao_b b.length cp_b), (27, .int .u64 (IntKind.u64.wrap (p_at + s2.2)))]) hf (by kernel_rfl) ?_
        clear hf; clear a; intro a hf
        have hT := of_gd hS; clear hS; obtain ⟨hc1, hS⟩ := hT
        refine ix tbOk u22 i5 rfl rfl h_b (k := .u64) (n := IntKind.u64.wrap (p_at + s2.2)) hc1 hf (by kernel_rfl) (by kernel_rfl) (by kernel_rfl) (by kernel_rfl) ?_
        clear hf; clear a; intro p1 c1 a hp1 hr1 hf
        obtain rfl : c1 = [.int .u8 (gt b (IntKind.u64.wrap (p_at + s2.2)))] := hr1
        replace hf := Fr.keep (ks := [0, 1, 2, 10, 23, 28]) (L' := [(0, .slice ao_b b.length cp_b), (1, .int .u64 p_at), (2, .int .u64 size), (10, .int .u64 s2.2), (23, .slice ao2 s2.1.length cp2), (28, .pointer (some p1))]) hf (by kernel_rfl)
        refine ld tbOk u5 rfl hp1 hE.le hf (by kernel_rfl) (by kernel_rfl) (by kernel_rfl) ?_
        clear hf; clear a; intro a hf
        replace hf := Fr.keep (ks := [0, 1, 2, 10, 23, 29]) (L' := [(0, .slice ao_b b.length cp_b), (1, .int .u64 p_at), (2, .int .u64 size), (10, .int .u64 s2.2), (23, .slice ao2 s2.1.length cp2), (29, .int .u8 (gt b (IntKind.u64.wrap (p_at + s2.2))))]) hf (by kernel_rfl)
        refine bs tbOk u22 i5 rfl (t := (tI .u8)) (vs := [(0, .int .u8 (gt b (IntKind.u64.wrap (p_at + s2.2))))]) (cells := #[.int .u8 (gt b (IntKind.u64.wrap (p_at + s2.2)))]) ([gt b (IntKind.u64.wrap (p_at + s2.2))] : List Int) hf (by kernel_rfl) (by kernel_rfl) (by kernel_rfl) rfl (by kernel_rfl) (reps_flat _) rfl ?_
        clear hf; clear a; intro w3 a ho3 hx hz hf
        have dj1 := Dj.new ho2 ho3
        replace ho3 := ho3.base hE.size
        replace hE := hE.tr hx
        replace ho2 := ho2.ext hx
        replace hf := Fr.keep (ks := [0, 1, 2, 10, 23, 30]) (L' := [(0, .slice ao_b b.length cp_b), (1, .int .u64 p_at), (2, .int .u64 size), (10, .int .u64 s2.2), (23, .slice ao2 s2.1.length cp2), (30, .slice (some ⟨w2.heap.size, 0, none⟩) ([gt b (IntKind.u64.wrap (p_at + s2.2))] : List Int).length ([gt b (IntKind.u64.wrap (p_at + s2.2))] : List Int).length)]) hf (by kernel_rfl)
        have hT := of_gd hS; clear hS; obtain ⟨hc2, hS⟩ := hT
        refine ap tbOk u22 i5 rfl rfl rfl (flat_I .u8) rfl ho2 hE.size (ho3.ro (mt_le _)) (LeH.refl _) hc2 hf (by kernel_rfl) (by kernel_rfl) (by kernel_rfl) (by kernel_rfl) ?_
        clear hf; clear a; intro ao3 cp3 w4 a ho4 hg hloc hf
        have dj2 := Dj.app dj1.symm ho3 hloc
        replace hE := hE.grow hg (fun k hk => (ho2.lt k hk).1)
        replace ho3 := ho3.keep hg (Dj.ne dj1.symm)
        replace hf := Fr.keep (ks := [0, 1, 2, 10, 31]) (L' := [(0, .slice ao_b b.length cp_b), (1, .int .u64 p_at), (2, .int .u64 size), (10, .int .u64 s2.2), (31, .slice ao3 (s2.1 ++ ([gt b (IntKind.u64.wrap (p_at + s2.2))] : List Int)).length cp3)]) hf (by kernel_rfl)
        have hT := of_let hS; clear hS; obtain ⟨out_1, hl1, hS⟩ := hT
        rw [← hl1] at ho4
        try rw [← hl1] at dj2
        refine st tbOk 1 [0, 1, 2, 9, 10] (L' := [(0, .slice ao_b b.length cp_b), (1, .int .u64 p_at), (2, .int .u64 size), (9, .slice ao3 out_1.length cp3), (10, .int .u64 s2.2)]) hf (by subst hl1; kernel_rfl) ?_
        clear hf; clear a; intro a hf
        refine wpList_nil ?_
        refine reg ?_
        have hT := of_let hS; clear hS; obtain ⟨i_1, hl2, hS⟩ := hT
        refine st tbOk 3 [0, 1, 2, 9, 10] (L' := [(0, .slice ao_b b.length cp_b), (1, .int .u64 p_at), (2, .int .u64 size), (9, .slice ao3 out_1.length cp3), (10, .int .u64 i_1)]) hf (by subst hl2; kernel_rfl) ?_
        clear hf; clear a; intro a hf
        refine wpList_nil ?_
        exact hK2 (out_1, i_1) _ _ ⟨ao3, cp3, hE, ho4, hf.keep (ks := [0, 1, 2, 9, 10]) (by kernel_rfl)⟩ hS
      · replace hS := of_f hb2 hS
        refine wp_exit ?_
        exact hK1 s2.1 _ _ ⟨ao2, cp2, hE, ho2, hf.keep (ks := [9]) (by kernel_rfl)⟩ hS

theorem ref01_power_ok {w : World} {p_a : Int}  {r : Bool} (hS : ref01_power p_a = some r) :
    Calls Try.prog 29 #[.int .u64 p_a] w (Gives (fun u w' => u = .bool r ∧ Ext w w')) := by
  unfold ref01_power at hS
  refine fn_ok (vs := [.int .u64 p_a]) Try.func29 rfl 14 Try.ntmps29 (Nat.le_of_ble_eq_true rfl) ?_
  intro a hf
  replace hf := Fr.cast (L' := [(0, .int .u64 p_a)]) hf (by kernel_rfl)
  have hE := Ext.rfl' w
  refine sq ?_
  refine reg ?_
  refine st tbOk 1 [0] (L' := [(0, .int .u64 p_a)]) hf (by kernel_rfl) ?_
  clear hf; clear a; intro a hf
  refine wpList_nil ?_
  refine sq ?_
  refine ctj (fun (s1 : Int) (a : Act) (w' : World) => Ext w w' ∧ Fr 14 [(0, .int .u64 s1)] a) hS ?_ ?_
  · clear hS hf; clear a; clear hE; intro s1 a w3 hM hS
    obtain ⟨hE, hf⟩ := hM
    refine sq ?_
    refine reg ?_
    refine st tbOk 3 [2] (L' := [(2, .bool (s1 == 1))]) hf (by kernel_rfl) ?_
    clear hf; clear a; intro a hf
    refine wpList_nil ?_
    have hr := Option.some.inj hS; subst hr
    refine wp_ret ?_
    exact ret_ok hf (vs := [.bool (s1 == 1)]) (by kernel_rfl) ⟨rfl, hE⟩
  · clear hS; intro KK1 k1 hK1 hS
    refine blk ?_
    refine lp (st := p_a) (fun (s2 : Int) (a : Act) (w' : World) => Ext w w' ∧ Fr 14 [(0, .int .u64 s2)] a) ?_ ⟨hE, hf.keep (ks := [0]) (by kernel_rfl)⟩ hS
    clear hS hf; clear a; clear hE
    intro rec1 KK2 hK2 s2 a w1 hM hS
    obtain ⟨hE, hf⟩ := hM
    refine sq ?_
    refine sq ?_
    refine ctj (fun (s3 : Bool) (a : Act) (w' : World) => Ext w w' ∧ Fr 14 [(0, .int .u64 s2), (9, .bool s3)] a) hS ?_ ?_
    · clear hS hf; clear a; clear hE; intro s3 a w2 hM hS
      obtain ⟨hE, hf⟩ := hM
      refine cnd (b := s3) hf (by kernel_rfl) (fun hb2 => ?_) (fun hb2 => ?_)
      · replace hS := of_t hb2 hS
        refine wp_skip ?_
        refine blk ?_
        refine reg ?_
        have hT := of_let hS; clear hS; obtain ⟨a_1, hl1, hS⟩ := hT
        refine st tbOk 3 [0] (L' := [(0, .int .u64 a_1)]) hf (by subst hl1; kernel_rfl) ?_
        clear hf; clear a; intro a hf
        refine wpList_nil ?_
        exact hK2 a_1 _ _ ⟨hE, hf.keep (ks := [0]) (by kernel_rfl)⟩ hS
      · replace hS := of_f hb2 hS
        refine wp_exit ?_
        exact hK1 s2 _ _ ⟨hE, hf.keep (ks := [0]) (by kernel_rfl)⟩ hS
    · clear hS; intro KK3 k2 hK3 hS
      refine reg ?_
      refine st tbOk 3 [0, 5] (L' := [(0, .int .u64 s2), (5, .bool (decide (s2 > 1)))]) hf (by kernel_rfl) ?_
      clear hf; clear a; intro a hf
      rcases Bool.eq_false_or_eq_true (decide (s2 > 1)) with hb1 | hb1
      · replace hS := of_t hb1 hS
        replace hf := Fr.cast (L' := [(0, .int .u64 s2), (5, .bool true)]) hf (by rw [hb1])
        refine st tbOk 4 [0, 9] (L' := [(0, .int .u64 s2), (9, .bool ((Int.tmod s2 2) == 0))]) hf (by kernel_rfl) ?_
        clear hf; clear a; intro a hf
        refine wpList_nil ?_
        exact hK3 ((Int.tmod s2 2) == 0) _ _ ⟨hE, hf.keep (ks := [0, 9]) (by kernel_rfl)⟩ hS
      · replace hS := of_f hb1 hS
        replace hf := Fr.cast (L' := [(0, .int .u64 s2), (5, .bool false)]) hf (by rw [hb1])
        refine st tbOk 4 [0, 9] (L' := [(0, .int .u64 s2), (9, .bool false)]) hf (by kernel_rfl) ?_
        clear hf; clear a; intro a hf
        refine wpList_nil ?_
        exact hK3 false _ _ ⟨hE, hf.keep (ks := [0, 9]) (by kernel_rfl)⟩ hS

theorem ref01_Up_ok {w : World} {p_x : Int} {p_a : Int}  {r : Int × Int} (hS : ref01_Up p_x p_a = some r) :
    Calls Try.prog 19 #[.int .u64 p_x, .int .u64 p_a] w (Gives (fun u w' => u = .tuple #[.int .u64 r.1, .int .i64 r.2] ∧ Ext w w')) := by
  unfold ref01_Up at hS
  refine fn_ok (vs := [.int .u64 p_x, .int .u64 p_a]) Try.func19 rfl 28 Try.ntmps19 (Nat.le_of_ble_eq_true rfl) ?_
  intro a hf
  replace hf := Fr.cast (L' := [(0, .int .u64 p_x), (1, .int .u64 p_a)]) hf (by kernel_rfl)
  have hE := Ext.rfl' w
  refine sq ?_
  refine reg ?_
  refine st tbOk 2 [0, 1] (L' := [(0, .int .u64 p_x), (1, .int .u64 p_a)]) hf (by kernel_rfl) ?_
  clear hf; clear a; intro a hf
  refine wpList_nil ?_
  refine sq ?_
  refine reg ?_
  refine st tbOk 1 [0, 1, 7] (L' := [(0, .int .u64 p_x), (1, .int .u64 p_a), (7, .int .u64 p_a)]) hf (by kernel_rfl) ?_
  clear hf; clear a; intro a hf
  have hT := of_bd hS; clear hS; obtain ⟨z1, hz1, hS⟩ := hT
  refine cl ent29 (vs := [.int .u64 p_a]) hf (by kernel_rfl) (by kernel_rfl) (by kernel_rfl) (ref01_power_ok  hz1) ?_
  clear hf; clear a; intro v w1 a hT hf; obtain ⟨rfl, hx⟩ := hT
  replace hE := hE.tr hx
  replace hf := Fr.keep (ks := [0, 1, 8]) (L' := [(0, .int .u64 p_x), (1, .int .u64 p_a), (8, .bool z1)]) hf (by kernel_rfl)
  refine st tbOk 1 [0, 1, 6] (L' := [(0, .int .u64 p_x), (1, .int .u64 p_a), (6, .bool z1)]) hf (by kernel_rfl) ?_
  clear hf; clear a; intro a hf
  refine wpList_nil ?_
  refine sq ?_
  refine sq ?_
  refine reg ?_
  refine st tbOk 2 [0, 1, 10] (L' := [(0, .int .u64 p_x), (1, .int .u64 p_a), (10, .bool (!z1))]) hf (by kernel_rfl) ?_
  clear hf; clear a; intro a hf
  refine wpList_nil ?_
  refine cnd (b := !z1) hf (by kernel_rfl) (fun hb1 => ?_) (fun hb1 => ?_)
  · replace hS := of_t hb1 hS
    refine sq ?_
    refine reg ?_
    refine st tbOk 2 [4, 5] (L' := [(4, .int .u64 0), (5, .int .i64 1)]) hf (by kernel_rfl) ?_
    clear hf; clear a; intro a hf
    refine wpList_nil ?_
    have hr := Option.some.inj hS; subst hr
    refine wp_ret ?_
    exact ret_ok hf (vs := [.int .u64 0, .int .i64 1]) (by kernel_rfl) ⟨rfl, hE⟩
  · replace hS := of_f hb1 hS
    refine wp_skip ?_
    refine sq ?_
    refine sq ?_
    refine reg ?_
    refine st tbOk 2 [0, 1, 11, 12] (L' := [(0, .int .u64 p_x), (1, .int .u64 p_a), (11, .int .u64 p_x), (12, .int .u64 p_a)]) hf (by kernel_rfl) ?_
    clear hf; clear a; intro a hf
    have hT := of_gd hS; clear hS; obtain ⟨hc1, hS⟩ := hT
    refine bin (run_rem (k := .u64) (x := p_x) hc1 _) hf (by kernel_rfl) (by kernel_rfl) (by kernel_rfl) (by kernel_rfl) ?_
    clear hf; clear a; intro a hf
    replace hf := Fr.keep (ks := [0, 1, 13]) (L' := [(0, .int .u64 p_x), (1, .int .u64 p_a), (13, .int .u64 (Int.tmod p_x p_a))]) hf (by kernel_rfl)
    refine st tbOk 1 [0, 1, 14] (L' := [(0, .int .u64 p_x), (1, .int .u64 p_a), (14, .bool ((Int.tmod p_x p_a) == 0))]) hf (by kernel_rfl) ?_
    clear hf; clear a; intro a hf
    refine wpList_nil ?_
    refine cnd (b := (Int.tmod p_x p_a) == 0) hf (by kernel_rfl) (fun hb2 => ?_) (fun hb2 => ?_)
    · replace hS := of_t hb2 hS
      refine sq ?_
      refine reg ?_
      refine st tbOk 3 [4, 5] (L' := [(4, .int .u64 p_x), (5, .int .i64 0)]) hf (by kernel_rfl) ?_
      clear hf; clear a; intro a hf
      refine wpList_nil ?_
      have hr := Option.some.inj hS; subst hr
      refine wp_ret ?_
      exact ret_ok hf (vs := [.int .u64 p_x, .int .i64 0]) (by kernel_rfl) ⟨rfl, hE⟩
    · replace hS := of_f hb2 hS
      refine wp_skip ?_
      refine sq ?_
      refine sq ?_
      refine regQ mixed (by kernel_rfl) ?_
      refine stQ tbOk 2 [0, 1, 16, 17] (L' := [(0, .int .u64 p_x), (1, .int .u64 p_a), (16, .int .u64 p_x), (17, .int .u64 p_a)]) hf (by kernel_rfl) ?_
      clear hf; clear a; intro a hf
      have hT := of_gd hS; clear hS; obtain ⟨hc2, hS⟩ := hT
      refine binQ (run_quo (k := .u64) (x := p_x) hc2 _) hf (by kernel_rfl) (by kernel_rfl) (by kernel_rfl) (by kernel_rfl) ?_
      clear hf; clear a; intro a hf
      replace hf := Fr.keep (ks := [0, 1, 18]) (L' := [(0, .int .u64 p_x), (1, .int .u64 p_a), (18, .int .u64 (IntKind.u64.wrap (Int.tdiv p_x p_a)))]) hf (by kernel_rfl)
      refine stQ tbOk 1 [0, 1, 18, 19] (L' := [(0, .int .u64 p_x), (1, .int .u64 p_a), (18, .int .u64 (IntKind.u64.wrap (Int.tdiv p_x p_a))), (19, .int .u64 p_a)]) hf (by kernel_rfl) ?_
      clear hf; clear a; intro a hf
      have hT := of_gd hS; clear hS; obtain ⟨hc3, hS⟩ := hT
      refine binQ (run_quo (k := .u64) (x := 18446744073709551615) hc3 _) hf (by kernel_rfl) (by kernel_rfl) (by kernel_rfl) (by kernel_rfl) ?_
      clear hf; clear a; intro a hf
      replace hf := Fr.keep (ks := [0, 1, 18, 20]) (L' := [(0, .int .u64 p_x), (1, .int .u64 p_a), (18, .int .u64 (IntKind.u64.wrap (Int.tdiv p_x p_a))), (20, .int .u64 (IntKind.u64.wrap (Int.tdiv 18446744073709551615 p_a)))]) hf (by kernel_rfl)
      refine stQ tbOk 1 [0, 1, 21] (L' := [(0, .int .u64 p_x), (1, .int .u64 p_a), (21, .bool ((IntKind.u64.wrap (Int.tdiv p_x p_a)) == (IntKind.u64.wrap (Int.tdiv 18446744073709551615 p_a))))]) hf (by kernel_rfl) ?_
      clear hf; clear a; intro a hf
      refine wpQuiet_nil ?_
      intro w2 hx
      replace hE := hE.tr hx
      refine cnd (b := (IntKind.u64.wrap (Int.tdiv p_x p_a)) == (IntKind.u64.wrap (Int.tdiv 18446744073709551615 p_a))) hf (by kernel_rfl) (fun hb3 => ?_) (fun hb3 => ?_)
      · replace hS := of_t hb3 hS
        refine sq ?_
        refine reg ?_
        refine st tbOk 2 [4, 5] (L' := [(4, .int .u64 0), (5, .int .i64 10)]) hf (by kernel_rfl) ?_
        clear hf; clear a; intro a hf
        refine wpList_nil ?_
        have hr := Option.some.inj hS; subst hr
        refine wp_ret ?_
        exact ret_ok hf (vs := [.int .u64 0, .int .i64 10]) (by kernel_rfl) ⟨rfl, hE⟩
      · replace hS := of_f hb3 hS
        refine wp_skip ?_
        refine sq ?_
        refine reg ?_
        refine st tbOk 2 [1, 22, 23] (L' := [(1, .int .u64 p_a), (22, .int .u64 p_x), (23, .int .u64 p_a)]) hf (by kernel_rfl) ?_
        clear hf; clear a; intro a hf
        have hT := of_gd hS; clear hS; obtain ⟨hc4, hS⟩ := hT
        refine bin (run_quo (k := .u64) (x := p_x) hc4 _) hf (by kernel_rfl) (by kernel_rfl) (by kernel_rfl) (by kernel_rfl) ?_
        clear hf; clear a; intro a hf
        replace hf := Fr.keep (ks := [1, 24]) (L' := [(1, .int .u64 p_a), (24, .int .u64 (IntKind.u64.wrap (Int.tdiv p_x p_a)))]) hf (by kernel_rfl)
        refine st tbOk 5 [4, 5] (L' := [(4, .int .u64 (IntKind.u64.wrap ((IntKind.u64.wrap ((IntKind.u64.wrap (Int.tdiv p_x p_a)) + 1)) * p_a))), (5, .int .i64 0)]) hf (by kernel_rfl) ?_
        clear hf; clear a; intro a hf
        refine wpList_nil ?_
        have hr := Option.some.inj hS; subst hr
        refine wp_ret ?_
        exact ret_ok hf (vs := [.int .u64 (IntKind.u64.wrap ((IntKind.u64.wrap ((IntKind.u64.wrap (Int.tdiv p_x p_a)) + 1)) * p_a)), .int .i64 0]) (by kernel_rfl) ⟨rfl, hE⟩

theorem ref01_Down_ok {w : World} {p_x : Int} {p_a : Int}  {r : Int × Int} (hS : ref01_Down p_x p_a = some r) :
    Calls Try.prog 21 #[.int .u64 p_x, .int .u64 p_a] w (Gives (fun u w' => u = .tuple #[.int .u64 r.1, .int .i64 r.2] ∧ Ext w w')) := by
  unfold ref01_Down at hS
  refine fn_ok (vs := [.int .u64 p_x, .int .u64 p_a]) Try.func21 rfl 16 Try.ntmps21 (Nat.le_of_ble_eq_true rfl) ?_
  intro a hf
  replace hf := Fr.cast (L' := [(0, .int .u64 p_x), (1, .int .u64 p_a)]) hf (by kernel_rfl)
  have hE := Ext.rfl' w
  refine sq ?_
  refine reg ?_
  refine st tbOk 2 [0, 1] (L' := [(0, .int .u64 p_x), (1, .int .u64 p_a)]) hf (by kernel_rfl) ?_
  clear hf; clear a; intro a hf
  refine wpList_nil ?_
  refine sq ?_
  refine reg ?_
  refine st tbOk 1 [0, 1, 7] (L' := [(0, .int .u64 p_x), (1, .int .u64 p_a), (7, .int .u64 p_a)]) hf (by kernel_rfl) ?_
  clear hf; clear a; intro a hf
  have hT := of_bd hS; clear hS; obtain ⟨z1, hz1, hS⟩ := hT
  refine cl ent29 (vs := [.int .u64 p_a]) hf (by kernel_rfl) (by kernel_rfl) (by kernel_rfl) (ref01_power_ok  hz1) ?_
  clear hf; clear a; intro v w1 a hT hf; obtain ⟨rfl, hx⟩ := hT
  replace hE := hE.tr hx
  replace hf := Fr.keep (ks := [0, 1, 8]) (L' := [(0, .int .u64 p_x), (1, .int .u64 p_a), (8, .bool z1)]) hf (by kernel_rfl)
  refine st tbOk 1 [0, 1, 6] (L' := [(0, .int .u64 p_x), (1, .int .u64 p_a), (6, .bool z1)]) hf (by kernel_rfl) ?_
  clear hf; clear a; intro a hf
  refine wpList_nil ?_
  refine sq ?_
  refine sq ?_
  refine reg ?_
  refine st tbOk 2 [0, 1, 10] (L' := [(0, .int .u64 p_x), (1, .int .u64 p_a), (10, .bool (!z1))]) hf (by kernel_rfl) ?_
  clear hf; clear a; intro a hf
  refine wpList_nil ?_
  refine cnd (b := !z1) hf (by kernel_rfl) (fun hb1 => ?_) (fun hb1 => ?_)
  · replace hS := of_t hb1 hS
    refine sq ?_
    refine reg ?_
    refine st tbOk 2 [4, 5] (L' := [(4, .int .u64 0), (5, .int .i64 1)]) hf (by kernel_rfl) ?_
    clear hf; clear a; intro a hf
    refine wpList_nil ?_
    have hr := Option.some.inj hS; subst hr
    refine wp_ret ?_
    exact ret_ok hf (vs := [.int .u64 0, .int .i64 1]) (by kernel_rfl) ⟨rfl, hE⟩
  · replace hS := of_f hb1 hS
    refine wp_skip ?_
    refine sq ?_
    refine reg ?_
    refine st tbOk 2 [1, 11, 12] (L' := [(1, .int .u64 p_a), (11, .int .u64 p_x), (12, .int .u64 p_a)]) hf (by kernel_rfl) ?_
    clear hf; clear a; intro a hf
    have hT := of_gd hS; clear hS; obtain ⟨hc1, hS⟩ := hT
    refine bin (run_quo (k := .u64) (x := p_x) hc1 _) hf (by kernel_rfl) (by kernel_rfl) (by kernel_rfl) (by kernel_rfl) ?_
    clear hf; clear a; intro a hf
    replace hf := Fr.keep (ks := [1, 13]) (L' := [(1, .int .u64 p_a), (13, .int .u64 (IntKind.u64.wrap (Int.tdiv p_x p_a)))]) hf (by kernel_rfl)
    refine st tbOk 4 [4, 5] (L' := [(4, .int .u64 (IntKind.u64.wrap ((IntKind.u64.wrap (Int.tdiv p_x p_a)) * p_a))), (5, .int .i64 0)]) hf (by kernel_rfl) ?_
    clear hf; clear a; intro a hf
    refine wpList_nil ?_
    have hr := Option.some.inj hS; subst hr
    refine wp_ret ?_
    exact ret_ok hf (vs := [.int .u64 (IntKind.u64.wrap ((IntKind.u64.wrap (Int.tdiv p_x p_a)) * p_a)), .int .i64 0]) (by kernel_rfl) ⟨rfl, hE⟩

theorem ref01_Meet_ok {w : World} {p_a : Int} {m : Int} {b : Int} {n : Int}  {r : Bool} (hS : ref01_Meet p_a m b n = some r) :
    Calls Try.prog 22 #[.int .u64 p_a, .int .u64 m, .int .u64 b, .int .u64 n] w (Gives (fun u w' => u = .bool r ∧ Ext w w')) := by
  unfold ref01_Meet at hS
  refine fn_ok (vs := [.int .u64 p_a, .int .u64 m, .int .u64 b, .int .u64 n]) Try.func22 rfl 28 Try.ntmps22 (Nat.le_of_ble_eq_true rfl) ?_
  intro a hf
  replace hf := Fr.cast (L' := [(0, .int .u64 p_a), (1, .int .u64 m), (2, .int .u64 b), (3, .int .u64 n)]) hf (by kernel_rfl)
  have hE := Ext.rfl' w
  refine sq ?_
  refine reg ?_
  refine st tbOk 1 [0, 1, 2, 3] (L' := [(0, .int .u64 p_a), (1, .int .u64 m), (2, .int .u64 b), (3, .int .u64 n)]) hf (by kernel_rfl) ?_
  clear hf; clear a; intro a hf
  refine wpList_nil ?_
  refine sq ?_
  refine sq ?_
  refine ctj (fun (s1 : Bool) (a : Act) (w' : World) => Ext w w' ∧ Fr 28 [(0, .int .u64 p_a), (1, .int .u64 m), (2, .int .u64 b), (3, .int .u64 n), (14, .bool s1)] a) hS ?_ ?_
  · clear hS hf; clear a; clear hE; intro s1 a w1 hM hS
    obtain ⟨hE, hf⟩ := hM
    refine cnd (b := s1) hf (by kernel_rfl) (fun hb2 => ?_) (fun hb2 => ?_)
    · replace hS := of_t hb2 hS
      refine sq ?_
      refine reg ?_
      refine st tbOk 1 [8] (L' := [(8, .bool false)]) hf (by kernel_rfl) ?_
      clear hf; clear a; intro a hf
      refine wpList_nil ?_
      have hr := Option.some.inj hS; subst hr
      refine wp_ret ?_
      exact ret_ok hf (vs := [.bool false]) (by kernel_rfl) ⟨rfl, hE⟩
    · replace hS := of_f hb2 hS
      refine wp_skip ?_
      refine sq ?_
      refine sq ?_
      refine reg ?_
      refine st tbOk 3 [0, 1, 2, 3, 17] (L' := [(0, .int .u64 p_a), (1, .int .u64 m), (2, .int .u64 b), (3, .int .u64 n), (17, .bool (decide (p_a ≤ b)))]) hf (by kernel_rfl) ?_
      clear hf; clear a; intro a hf
      refine wpList_nil ?_
      refine cnd (b := decide (p_a ≤ b)) hf (by kernel_rfl) (fun hb3 => ?_) (fun hb3 => ?_)
      · replace hS := of_t hb3 hS
        refine sq ?_
        refine reg ?_
        refine st tbOk 6 [8] (L' := [(8, .bool (decide ((IntKind.u64.wrap (b - p_a)) < m)))]) hf (by kernel_rfl) ?_
        clear hf; clear a; intro a hf
        refine wpList_nil ?_
        have hr := Option.some.inj hS; subst hr
        refine wp_ret ?_
        exact ret_ok hf (vs := [.bool (decide ((IntKind.u64.wrap (b - p_a)) < m))]) (by kernel_rfl) ⟨rfl, hE⟩
      · replace hS := of_f hb3 hS
        refine wp_skip ?_
        refine sq ?_
        refine reg ?_
        refine st tbOk 6 [8] (L' := [(8, .bool (decide ((IntKind.u64.wrap (p_a - b)) < n)))]) hf (by kernel_rfl) ?_
        clear hf; clear a; intro a hf
        refine wpList_nil ?_
        have hr := Option.some.inj hS; subst hr
        refine wp_ret ?_
        exact ret_ok hf (vs := [.bool (decide ((IntKind.u64.wrap (p_a - b)) < n))]) (by kernel_rfl) ⟨rfl, hE⟩
  · clear hS; intro KK1 k1 hK1 hS
    refine reg ?_
    refine st tbOk 3 [0, 1, 2, 3, 11] (L' := [(0, .int .u64 p_a), (1, .int .u64 m), (2, .int .u64 b), (3, .int .u64 n), (11, .bool (m == 0))]) hf (by kernel_rfl) ?_
    clear hf; clear a; intro a hf
    rcases Bool.eq_false_or_eq_true (m == 0) with hb1 | hb1
    · replace hS := of_t hb1 hS
      replace hf := Fr.cast (L' := [(0, .int .u64 p_a), (1, .int .u64 m), (2, .int .u64 b), (3, .int .u64 n), (11, .bool true)]) hf (by rw [hb1])
      refine st tbOk 3 [0, 1, 2, 3, 14] (L' := [(0, .int .u64 p_a), (1, .int .u64 m), (2, .int .u64 b), (3, .int .u64 n), (14, .bool true)]) hf (by kernel_rfl) ?_
      clear hf; clear a; intro a hf
      refine wpList_nil ?_
      exact hK1 true _ _ ⟨hE, hf.keep (ks := [0, 1, 2, 3, 14]) (by kernel_rfl)⟩ hS
    · replace hS := of_f hb1 hS
      replace hf := Fr.cast (L' := [(0, .int .u64 p_a), (1, .int .u64 m), (2, .int .u64 b), (3, .int .u64 n), (11, .bool false)]) hf (by rw [hb1])
      refine st tbOk 3 [0, 1, 2, 3, 14] (L' := [(0, .int .u64 p_a), (1, .int .u64 m), (2, .int .u64 b), (3, .int .u64 n), (14, .bool (n == 0))]) hf (by kernel_rfl) ?_
      clear hf; clear a; intro a hf
      refine wpList_nil ?_
      exact hK1 (n == 0) _ _ ⟨hE, hf.keep (ks := [0, 1, 2, 3, 14]) (by kernel_rfl)⟩ hS

end Dm
