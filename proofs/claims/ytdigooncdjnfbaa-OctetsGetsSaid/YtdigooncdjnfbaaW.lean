/-
  The walks: a call of each Go function gives what its shallow form gives, where that form gives something; printed by a program of this repo. No condition.
-/
import Derived.Test.YtdigooncdjnfbaaProg
import Derived.Test.YtdigooncdjnfbaaLib
import Derived.Test.YtdigooncdjnfbaaS
namespace Dm
open Go Go.RowKit Go.Proofs

def tb : Tb := ⟨[(3, .int .i64), (4, .bool), (5, .int .u8), (9, .string), (22, .slice 5), (23, .int .u64), (37, .slice 3), (38, .int .u64)],
  [(3, .int .i64 0, 1, 8), (4, .bool false, 1, 1), (5, .int .u8 0, 1, 1), (9, .string ⟨#[]⟩, 1, 16), (22, .slice none 0 0, 1, 24), (23, .int .u64 0, 1, 8), (37, .slice none 0 0, 1, 24), (38, .int .u64 0, 1, 8)]⟩
theorem u3 : asc tb.und 3 = some (.int .i64) := by kernel_rfl
theorem u4 : asc tb.und 4 = some (.bool) := by kernel_rfl
theorem u5 : asc tb.und 5 = some (.int .u8) := by kernel_rfl
theorem u9 : asc tb.und 9 = some (.string) := by kernel_rfl
theorem u22 : asc tb.und 22 = some (.slice 5) := by kernel_rfl
theorem u23 : asc tb.und 23 = some (.int .u64) := by kernel_rfl
theorem u37 : asc tb.und 37 = some (.slice 3) := by kernel_rfl
theorem u38 : asc tb.und 38 = some (.int .u64) := by kernel_rfl
theorem i3 : asc tb.info 3 = some (.int .i64 0, 1, 8) := by kernel_rfl
theorem i4 : asc tb.info 4 = some (.bool false, 1, 1) := by kernel_rfl
theorem i5 : asc tb.info 5 = some (.int .u8 0, 1, 1) := by kernel_rfl
theorem i9 : asc tb.info 9 = some (.string ⟨#[]⟩, 1, 16) := by kernel_rfl
theorem i22 : asc tb.info 22 = some (.slice none 0 0, 1, 24) := by kernel_rfl
theorem i23 : asc tb.info 23 = some (.int .u64 0, 1, 8) := by kernel_rfl
theorem i37 : asc tb.info 37 = some (.slice none 0 0, 1, 24) := by kernel_rfl
theorem i38 : asc tb.info 38 = some (.int .u64 0, 1, 8) := by kernel_rfl
theorem tbOk : TbOk Try.prog tb where
  und := by
    intro p hp
    simp only [tb, List.mem_cons, List.not_mem_nil, or_false] at hp
    rcases hp with rfl | rfl | rfl | rfl | rfl | rfl | rfl | rfl
    · exact Try.underlying3
    · exact Try.underlying4
    · exact Try.underlying5
    · exact Try.underlying9
    · exact Try.underlying22
    · exact Try.underlying23
    · exact Try.underlying37
    · exact Try.underlying38
  info := by
    intro p hp
    simp only [tb, List.mem_cons, List.not_mem_nil, or_false] at hp
    rcases hp with rfl | rfl | rfl | rfl | rfl | rfl | rfl | rfl
    · kernel_rfl
    · kernel_rfl
    · kernel_rfl
    · kernel_rfl
    · kernel_rfl
    · kernel_rfl
    · kernel_rfl
    · kernel_rfl
theorem ent11 : Ent Try.prog 11 := ⟨_, Try.func11, by kernel_rfl, by kernel_rfl⟩
theorem ent12 : Ent Try.prog 12 := ⟨_, Try.func12, by kernel_rfl, by kernel_rfl⟩
theorem ent13 : Ent Try.prog 13 := ⟨_, Try.func13, by kernel_rfl, by kernel_rfl⟩
theorem ent14 : Ent Try.prog 14 := ⟨_, Try.func14, by kernel_rfl, by kernel_rfl⟩
theorem ent15 : Ent Try.prog 15 := ⟨_, Try.func15, by kernel_rfl, by kernel_rfl⟩
theorem ent16 : Ent Try.prog 16 := ⟨_, Try.func16, by kernel_rfl, by kernel_rfl⟩
theorem ent17 : Ent Try.prog 17 := ⟨_, Try.func17, by kernel_rfl, by kernel_rfl⟩
theorem ent18 : Ent Try.prog 18 := ⟨_, Try.func18, by kernel_rfl, by kernel_rfl⟩
theorem ent19 : Ent Try.prog 19 := ⟨_, Try.func19, by kernel_rfl, by kernel_rfl⟩
theorem ent20 : Ent Try.prog 20 := ⟨_, Try.func20, by kernel_rfl, by kernel_rfl⟩
theorem ent21 : Ent Try.prog 21 := ⟨_, Try.func21, by kernel_rfl, by kernel_rfl⟩
theorem ent22 : Ent Try.prog 22 := ⟨_, Try.func22, by kernel_rfl, by kernel_rfl⟩
theorem ent23 : Ent Try.prog 23 := ⟨_, Try.func23, by kernel_rfl, by kernel_rfl⟩
theorem ent24 : Ent Try.prog 24 := ⟨_, Try.func24, by kernel_rfl, by kernel_rfl⟩
theorem ent25 : Ent Try.prog 25 := ⟨_, Try.func25, by kernel_rfl, by kernel_rfl⟩
theorem ent26 : Ent Try.prog 26 := ⟨_, Try.func26, by kernel_rfl, by kernel_rfl⟩
theorem ent27 : Ent Try.prog 27 := ⟨_, Try.func27, by kernel_rfl, by kernel_rfl⟩
theorem ent28 : Ent Try.prog 28 := ⟨_, Try.func28, by kernel_rfl, by kernel_rfl⟩
theorem ent29 : Ent Try.prog 29 := ⟨_, Try.func29, by kernel_rfl, by kernel_rfl⟩
theorem ent30 : Ent Try.prog 30 := ⟨_, Try.func30, by kernel_rfl, by kernel_rfl⟩
theorem mixed : Try.prog.follows .mixedOrders = true := by kernel_rfl

theorem octets_width_ok {w : World} {n : Int}  {r : Bool} (hS : octets_width n = some r) :
    Calls Try.prog 30 #[.int .i64 n] w (Gives (fun u w' => u = .bool r ∧ Ext w w')) := by
  unfold octets_width at hS
  refine fn_ok (vs := [.int .i64 n]) Try.func30 rfl 17 Try.ntmps30 (Nat.le_of_ble_eq_true rfl) ?_
  intro a hf
  replace hf := Fr.cast (L' := [(0, .int .i64 n)]) hf (by kernel_rfl)
  have hE := Ext.rfl' w
  refine sq ?_
  refine reg ?_
  refine st tbOk 1 [0] (L' := [(0, .int .i64 n)]) hf (by kernel_rfl) ?_
  clear hf; clear a; intro a hf
  refine wpList_nil ?_
  refine sq ?_
  refine ctj (fun (s1 : Bool) (a : Act) (w' : World) => Ext w w' ∧ Fr 17 [(2, .bool s1)] a) hS ?_ ?_
  · clear hS hf; clear a; clear hE; intro s1 a w1 hM hS
    obtain ⟨hE, hf⟩ := hM
    have hr := Option.some.inj hS; subst hr
    refine wp_ret ?_
    exact ret_ok hf (vs := [.bool s1]) (by kernel_rfl) ⟨rfl, hE⟩
  · clear hS; intro KK1 k1 hK1 hS
    refine reg ?_
    refine st tbOk 3 [0, 5] (L' := [(0, .int .i64 n), (5, .bool (n == 1))]) hf (by kernel_rfl) ?_
    clear hf; clear a; intro a hf
    rcases Bool.eq_false_or_eq_true (n == 1) with hb1 | hb1
    · replace hS := of_t hb1 hS
      replace hf := Fr.cast (L' := [(0, .int .i64 n), (5, .bool true)]) hf (by rw [hb1])
      refine st tbOk 12 [2] (L' := [(2, .bool true)]) hf (by kernel_rfl) ?_
      clear hf; clear a; intro a hf
      refine wpList_nil ?_
      exact hK1 true _ _ ⟨hE, hf.keep (ks := [2]) (by kernel_rfl)⟩ hS
    · replace hS := of_f hb1 hS
      replace hf := Fr.cast (L' := [(0, .int .i64 n), (5, .bool false)]) hf (by rw [hb1])
      refine st tbOk 4 [0, 9] (L' := [(0, .int .i64 n), (9, .bool (n == 2))]) hf (by kernel_rfl) ?_
      clear hf; clear a; intro a hf
      rcases Bool.eq_false_or_eq_true (n == 2) with hb2 | hb2
      · replace hS := of_t hb2 hS
        replace hf := Fr.cast (L' := [(0, .int .i64 n), (9, .bool true)]) hf (by rw [hb2])
        refine st tbOk 8 [2] (L' := [(2, .bool true)]) hf (by kernel_rfl) ?_
        clear hf; clear a; intro a hf
        refine wpList_nil ?_
        exact hK1 true _ _ ⟨hE, hf.keep (ks := [2]) (by kernel_rfl)⟩ hS
      · replace hS := of_f hb2 hS
        replace hf := Fr.cast (L' := [(0, .int .i64 n), (9, .bool false)]) hf (by rw [hb2])
        refine st tbOk 4 [0, 13] (L' := [(0, .int .i64 n), (13, .bool (n == 4))]) hf (by kernel_rfl) ?_
        clear hf; clear a; intro a hf
        rcases Bool.eq_false_or_eq_true (n == 4) with hb3 | hb3
        · replace hS := of_t hb3 hS
          replace hf := Fr.cast (L' := [(0, .int .i64 n), (13, .bool true)]) hf (by rw [hb3])
          refine st tbOk 4 [2] (L' := [(2, .bool true)]) hf (by kernel_rfl) ?_
          clear hf; clear a; intro a hf
          refine wpList_nil ?_
          exact hK1 true _ _ ⟨hE, hf.keep (ks := [2]) (by kernel_rfl)⟩ hS
        · replace hS := of_f hb3 hS
          replace hf := Fr.cast (L' := [(0, .int .i64 n), (13, .bool false)]) hf (by rw [hb3])
          refine st tbOk 4 [2] (L' := [(2, .bool (n == 8))]) hf (by kernel_rfl) ?_
          clear hf; clear a; intro a hf
          refine wpList_nil ?_
          exact hK1 (n == 8) _ _ ⟨hE, hf.keep (ks := [2]) (by kernel_rfl)⟩ hS

theorem octets_has_ok {w : World} {p_many : Int} {p_at : Int} {size : Int}  {r : Bool} (hS : octets_has p_many p_at size = some r) :
    Calls Try.prog 28 #[.int .i64 p_many, .int .u64 p_at, .int .u64 size] w (Gives (fun u w' => u = .bool r ∧ Ext w w')) := by
  unfold octets_has at hS
  refine fn_ok (vs := [.int .i64 p_many, .int .u64 p_at, .int .u64 size]) Try.func28 rfl 20 Try.ntmps28 (Nat.le_of_ble_eq_true rfl) ?_
  intro a hf
  replace hf := Fr.cast (L' := [(0, .int .i64 p_many), (1, .int .u64 p_at), (2, .int .u64 size)]) hf (by kernel_rfl)
  have hE := Ext.rfl' w
  refine sq ?_
  refine reg ?_
  refine st tbOk 1 [0, 1, 2] (L' := [(0, .int .i64 p_many), (1, .int .u64 p_at), (2, .int .u64 size)]) hf (by kernel_rfl) ?_
  clear hf; clear a; intro a hf
  refine wpList_nil ?_
  refine sq ?_
  refine reg ?_
  have hT := of_let hS; clear hS; obtain ⟨all_1, hl1, hS⟩ := hT
  refine st tbOk 3 [1, 2, 7] (L' := [(1, .int .u64 p_at), (2, .int .u64 size), (7, .int .u64 all_1)]) hf (by subst hl1; kernel_rfl) ?_
  clear hf; clear a; intro a hf
  refine wpList_nil ?_
  refine sq ?_
  refine ctj (fun (s1 : Bool) (a : Act) (w' : World) => Ext w w' ∧ Fr 20 [(6, .bool s1)] a) hS ?_ ?_
  · clear hS hf; clear a; clear hE; intro s1 a w1 hM hS
    obtain ⟨hE, hf⟩ := hM
    have hr := Option.some.inj hS; subst hr
    refine wp_ret ?_
    exact ret_ok hf (vs := [.bool s1]) (by kernel_rfl) ⟨rfl, hE⟩
  · clear hS; intro KK1 k1 hK1 hS
    refine reg ?_
    refine st tbOk 4 [1, 2, 7, 13] (L' := [(1, .int .u64 p_at), (2, .int .u64 size), (7, .int .u64 all_1), (13, .bool (decide (p_at ≤ all_1)))]) hf (by kernel_rfl) ?_
    clear hf; clear a; intro a hf
    rcases Bool.eq_false_or_eq_true (decide (p_at ≤ all_1)) with hb1 | hb1
    · replace hS := of_t hb1 hS
      replace hf := Fr.cast (L' := [(1, .int .u64 p_at), (2, .int .u64 size), (7, .int .u64 all_1), (13, .bool true)]) hf (by rw [hb1])
      refine st tbOk 7 [6] (L' := [(6, .bool (decide (size ≤ (IntKind.u64.wrap (all_1 - p_at)))))]) hf (by kernel_rfl) ?_
      clear hf; clear a; intro a hf
      refine wpList_nil ?_
      exact hK1 (decide (size ≤ (IntKind.u64.wrap (all_1 - p_at)))) _ _ ⟨hE, hf.keep (ks := [6]) (by kernel_rfl)⟩ hS
    · replace hS := of_f hb1 hS
      replace hf := Fr.cast (L' := [(1, .int .u64 p_at), (2, .int .u64 size), (7, .int .u64 all_1), (13, .bool false)]) hf (by rw [hb1])
      refine st tbOk 7 [6] (L' := [(6, .bool false)]) hf (by kernel_rfl) ?_
      clear hf; clear a; intro a hf
      refine wpList_nil ?_
      exact hK1 false _ _ ⟨hE, hf.keep (ks := [6]) (by kernel_rfl)⟩ hS

theorem octets_fits_ok {w : World} {b : List Int} {p_at : Int} {n : Int} {v_b : Value} (h_b : RO (hp w) (tI .u8) v_b b) {r : Int} (hS : octets_fits b p_at n = some r) :
    Calls Try.prog 24 #[v_b, .int .u64 p_at, .int .i64 n] w (Gives (fun u w' => u = .int .i64 r ∧ Ext w w')) := by
  obtain ⟨ao_b, cp_b, e_b⟩ := h_b.shape; subst e_b
  unfold octets_fits at hS
  refine fn_ok (vs := [.slice ao_b b.length cp_b, .int .u64 p_at, .int .i64 n]) Try.func24 rfl 19 Try.ntmps24 (Nat.le_of_ble_eq_true rfl) ?_
  intro a hf
  replace hf := Fr.cast (L' := [(0, .slice ao_b b.length cp_b), (1, .int .u64 p_at), (2, .int .i64 n)]) hf (by kernel_rfl)
  have hE := Ext.rfl' w
  refine sq ?_
  refine reg ?_
  refine st tbOk 1 [0, 1, 2] (L' := [(0, .slice ao_b b.length cp_b), (1, .int .u64 p_at), (2, .int .i64 n)]) hf (by kernel_rfl) ?_
  clear hf; clear a; intro a hf
  refine wpList_nil ?_
  refine sq ?_
  refine blk ?_
  refine sq ?_
  refine reg ?_
  refine st tbOk 1 [0, 1, 2, 8] (L' := [(0, .slice ao_b b.length cp_b), (1, .int .u64 p_at), (2, .int .i64 n), (8, .int .i64 n)]) hf (by kernel_rfl) ?_
  clear hf; clear a; intro a hf
  have hT := of_bd hS; clear hS; obtain ⟨z1, hz1, hS⟩ := hT
  refine cl ent30 (vs := [.int .i64 n]) hf (by kernel_rfl) (by kernel_rfl) (by kernel_rfl) (octets_width_ok  hz1) ?_
  clear hf; clear a; intro v w1 a hT hf; obtain ⟨rfl, hx⟩ := hT
  replace hE := hE.tr hx
  replace hf := Fr.keep (ks := [0, 1, 2, 9]) (L' := [(0, .slice ao_b b.length cp_b), (1, .int .u64 p_at), (2, .int .i64 n), (9, .bool z1)]) hf (by kernel_rfl)
  refine st tbOk 2 [0, 1, 2, 7] (L' := [(0, .slice ao_b b.length cp_b), (1, .int .u64 p_at), (2, .int .i64 n), (7, .bool (!z1))]) hf (by kernel_rfl) ?_
  clear hf; clear a; intro a hf
  refine wpList_nil ?_
  refine cnd (b := !z1) hf (by kernel_rfl) (fun hb1 => ?_) (fun hb1 => ?_)
  · replace hS := of_t hb1 hS
    refine sq ?_
    refine reg ?_
    refine st tbOk 1 [6] (L' := [(6, .int .i64 1)]) hf (by kernel_rfl) ?_
    clear hf; clear a; intro a hf
    refine wpList_nil ?_
    have hr := Option.some.inj hS; subst hr
    refine wp_ret ?_
    exact ret_ok hf (vs := [.int .i64 1]) (by kernel_rfl) ⟨rfl, hE⟩
  · replace hS := of_f hb1 hS
    refine sq ?_
    refine reg ?_
    refine st tbOk 5 [13, 14, 16] (L' := [(13, .int .i64 ((b.length : Nat) : Int)), (14, .int .u64 p_at), (16, .int .u64 (IntKind.u64.wrap n))]) hf (by kernel_rfl) ?_
    clear hf; clear a; intro a hf
    have hT := of_bd hS; clear hS; obtain ⟨z2, hz2, hS⟩ := hT
    refine cl ent28 (vs := [.int .i64 ((b.length : Nat) : Int), .int .u64 p_at, .int .u64 (IntKind.u64.wrap n)]) hf (by kernel_rfl) (by kernel_rfl) (by kernel_rfl) (octets_has_ok  hz2) ?_
    clear hf; clear a; intro v w2 a hT hf; obtain ⟨rfl, hx⟩ := hT
    replace hE := hE.tr hx
    replace hf := Fr.keep (ks := [17]) (L' := [(17, .bool z2)]) hf (by kernel_rfl)
    refine st tbOk 2 [11] (L' := [(11, .bool (!z2))]) hf (by kernel_rfl) ?_
    clear hf; clear a; intro a hf
    refine wpList_nil ?_
    refine cnd (b := !z2) hf (by kernel_rfl) (fun hb2 => ?_) (fun hb2 => ?_)
    · replace hS := of_t hb2 hS
      refine sq ?_
      refine reg ?_
      refine st tbOk 1 [6] (L' := [(6, .int .i64 10)]) hf (by kernel_rfl) ?_
      clear hf; clear a; intro a hf
      refine wpList_nil ?_
      have hr := Option.some.inj hS; subst hr
      refine wp_ret ?_
      exact ret_ok hf (vs := [.int .i64 10]) (by kernel_rfl) ⟨rfl, hE⟩
    · replace hS := of_f hb2 hS
      refine wp_skip ?_
      refine sq ?_
      refine reg ?_
      refine st tbOk 1 [6] (L' := [(6, .int .i64 0)]) hf (by kernel_rfl) ?_
      clear hf; clear a; intro a hf
      refine wpList_nil ?_
      have hr := Option.some.inj hS; subst hr
      refine wp_ret ?_
      exact ret_ok hf (vs := [.int .i64 0]) (by kernel_rfl) ⟨rfl, hE⟩

theorem octets_Get_ok {w : World} {b : List Int} {p_at : Int} {n : Int} {v_b : Value} (h_b : RO (hp w) (tI .u8) v_b b) {r : Int × Int} (hS : octets_Get b p_at n = some r) :
    Calls Try.prog 12 #[v_b, .int .u64 p_at, .int .i64 n] w (Gives (fun u w' => u = .tuple #[.int .u64 r.1, .int .i64 r.2] ∧ Ext w w')) := by
  obtain ⟨ao_b, cp_b, e_b⟩ := h_b.shape; subst e_b
  unfold octets_Get at hS
  refine fn_ok (vs := [.slice ao_b b.length cp_b, .int .u64 p_at, .int .i64 n]) Try.func12 rfl 38 Try.ntmps12 (Nat.le_of_ble_eq_true rfl) ?_
  intro a hf
  replace hf := Fr.cast (L' := [(0, .slice ao_b b.length cp_b), (1, .int .u64 p_at), (2, .int .i64 n)]) hf (by kernel_rfl)
  have hE := Ext.rfl' w
  refine sq ?_
  refine reg ?_
  refine st tbOk 2 [0, 1, 2] (L' := [(0, .slice ao_b b.length cp_b), (1, .int .u64 p_at), (2, .int .i64 n)]) hf (by kernel_rfl) ?_
  clear hf; clear a; intro a hf
  refine wpList_nil ?_
  refine sq ?_
  refine sq ?_
  refine reg ?_
  refine st tbOk 3 [0, 1, 2, 11, 12, 13] (L' := [(0, .slice ao_b b.length cp_b), (1, .int .u64 p_at), (2, .int .i64 n), (11, .slice ao_b b.length cp_b), (12, .int .u64 p_at), (13, .int .i64 n)]) hf (by kernel_rfl) ?_
  clear hf; clear a; intro a hf
  have hT := of_bd hS; clear hS; obtain ⟨z1, hz1, hS⟩ := hT
  refine cl ent24 (vs := [.slice ao_b b.length cp_b, .int .u64 p_at, .int .i64 n]) hf (by kernel_rfl) (by kernel_rfl) (by kernel_rfl) (octets_fits_ok h_b hz1) ?_
  clear hf; clear a; intro v w1 a hT hf; obtain ⟨rfl, hx⟩ := hT
  replace hE := hE.tr hx
  replace hf := Fr.keep (ks := [0, 1, 2, 14]) (L' := [(0, .slice ao_b b.length cp_b), (1, .int .u64 p_at), (2, .int .i64 n), (14, .int .i64 z1)]) hf (by kernel_rfl)
  refine st tbOk 1 [0, 1, 2, 8] (L' := [(0, .slice ao_b b.length cp_b), (1, .int .u64 p_at), (2, .int .i64 n), (8, .int .i64 z1)]) hf (by kernel_rfl) ?_
  clear hf; clear a; intro a hf
  refine wpList_nil ?_
  refine sq ?_
  refine reg ?_
  refine st tbOk 2 [0, 1, 2, 8, 16] (L' := [(0, .slice ao_b b.length cp_b), (1, .int .u64 p_at), (2, .int .i64 n), (8, .int .i64 z1), (16, .bool (z1 != 0))]) hf (by kernel_rfl) ?_
  clear hf; clear a; intro a hf
  refine wpList_nil ?_
  refine cnd (b := z1 != 0) hf (by kernel_rfl) (fun hb1 => ?_) (fun hb1 => ?_)
  · replace hS := of_t hb1 hS
    refine sq ?_
    refine reg ?_
    refine st tbOk 3 [6, 7] (L' := [(6, .int .u64 0), (7, .int .i64 z1)]) hf (by kernel_rfl) ?_
    clear hf; clear a; intro a hf
    refine wpList_nil ?_
    have hr := Option.some.inj hS; subst hr
    refine wp_ret ?_
    exact ret_ok hf (vs := [.int .u64 0, .int .i64 z1]) (by kernel_rfl) ⟨rfl, hE⟩
  · replace hS := of_f hb1 hS
    refine wp_skip ?_
    refine sq ?_
    refine reg ?_
    refine st tbOk 1 [0, 1, 2, 9] (L' := [(0, .slice ao_b b.length cp_b), (1, .int .u64 p_at), (2, .int .i64 n), (9, .int .u64 0)]) hf (by kernel_rfl) ?_
    clear hf; clear a; intro a hf
    refine wpList_nil ?_
    refine sq ?_
    refine sq ?_
    refine reg ?_
    refine st tbOk 2 [0, 1, 9, 18, 19] (L' := [(0, .slice ao_b b.length cp_b), (1, .int .u64 p_at), (9, .int .u64 0), (18, .int .i64 n), (19, .int .i64 0)]) hf (by kernel_rfl) ?_
    clear hf; clear a; intro a hf
    refine wpList_nil ?_
    refine ctj (fun (s1 : Int) (a : Act) (w' : World) => Ext w w' ∧ Fr 38 [(9, .int .u64 s1)] a) hS ?_ ?_
    · clear hS hf; clear a; clear hE; intro s1 a w3 hM hS
      obtain ⟨hE, hf⟩ := hM
      refine sq ?_
      refine reg ?_
      refine st tbOk 3 [6, 7] (L' := [(6, .int .u64 s1), (7, .int .i64 0)]) hf (by kernel_rfl) ?_
      clear hf; clear a; intro a hf
      refine wpList_nil ?_
      have hr := Option.some.inj hS; subst hr
      refine wp_ret ?_
      exact ret_ok hf (vs := [.int .u64 s1, .int .i64 0]) (by kernel_rfl) ⟨rfl, hE⟩
    · clear hS; intro KK1 k1 hK1 hS
      refine blk ?_
      refine lp (st := (0, 0)) (fun (s2 : Int × Int) (a : Act) (w' : World) => Ext w w' ∧ Fr 38 [(0, .slice ao_b b.length cp_b), (1, .int .u64 p_at), (9, .int .u64 s2.1), (18, .int .i64 n), (19, .int .i64 s2.2)] a) ?_ ⟨hE, hf.keep (ks := [0, 1, 9, 18, 19]) (by kernel_rfl)⟩ hS
      clear hS hf; clear a; clear hE
      intro rec1 KK2 hK2 s2 a w2 hM hS
      obtain ⟨hE, hf⟩ := hM
      refine sq ?_
      refine reg ?_
      refine st tbOk 1 [0, 1, 9, 18, 19, 20] (L' := [(0, .slice ao_b b.length cp_b), (1, .int .u64 p_at), (9, .int .u64 s2.1), (18, .int .i64 n), (19, .int .i64 s2.2), (20, .bool (decide (s2.2 < n)))]) hf (by kernel_rfl) ?_
      clear hf; clear a; intro a hf
      refine wpList_nil ?_
      refine sq ?_
      refine cnd (b := decide (s2.2 < n)) hf (by kernel_rfl) (fun hb2 => ?_) (fun hb2 => ?_)
      · replace hS := of_t hb2 hS
        refine wp_skip ?_
        refine sq ?_
        refine blk ?_
        refine sq ?_
        refine reg ?_
        refine st tbOk 2 [0, 1, 9, 10, 18, 19] (L' := [(0, .slice ao_b b.length cp_b), (1, .int .u64 p_at), (9, .int .u64 s2.1), (10, .int .i64 s2.2), (18, .int .i64 n), (19, .int .i64 s2.2)]) hf (by kernel_rfl) ?_
        clear hf; clear a; intro a hf
        refine wpList_nil ?_
        refine reg ?_
        refine st tbOk 6 [0, 1, 10, 18, 19, 22, 23, 27] (L' := [(0, .slice ao_b b.length cp_b), (1, .int .u64 p_at), (10, .int .i64 s2.2), (18, .int .i64 n), (19, .int .i64 s2.2), (22, .int .u64 s2.1), (23, .slice ao_b b.length cp_b), (27, .int .i64 (IntKind.i64.wrap ((IntKind.i64.wrap p_at) + s2.2)))]) hf (by kernel_rfl) ?_
        clear hf; clear a; intro a hf
        have hT := of_gd hS; clear hS; obtain ⟨hc1, hS⟩ := hT
        refine ix tbOk u22 i5 rfl rfl h_b (k := .i64) (n := IntKind.i64.wrap ((IntKind.i64.wrap p_at) + s2.2)) hc1 hf (by kernel_rfl) (by kernel_rfl) (by kernel_rfl) (by kernel_rfl) ?_
        clear hf; clear a; intro p1 c1 a hp1 hr1 hf
        obtain rfl : c1 = [.int .u8 (gt b (IntKind.i64.wrap ((IntKind.i64.wrap p_at) + s2.2)))] := hr1
        replace hf := Fr.keep (ks := [0, 1, 10, 18, 19, 22, 28]) (L' := [(0, .slice ao_b b.length cp_b), (1, .int .u64 p_at), (10, .int .i64 s2.2), (18, .int .i64 n), (19, .int .i64 s2.2), (22, .int .u64 s2.1), (28, .pointer (some p1))]) hf (by kernel_rfl)
        refine ld tbOk u5 rfl hp1 hE.le hf (by kernel_rfl) (by kernel_rfl) (by kernel_rfl) ?_
        clear hf; clear a; intro a hf
        replace hf := Fr.keep (ks := [0, 1, 10, 18, 19, 22, 29]) (L' := [(0, .slice ao_b b.length cp_b), (1, .int .u64 p_at), (10, .int .i64 s2.2), (18, .int .i64 n), (19, .int .i64 s2.2), (22, .int .u64 s2.1), (29, .int .u8 (gt b (IntKind.i64.wrap ((IntKind.i64.wrap p_at) + s2.2))))]) hf (by kernel_rfl)
        refine st tbOk 4 [0, 1, 18, 19, 22, 30, 33] (L' := [(0, .slice ao_b b.length cp_b), (1, .int .u64 p_at), (18, .int .i64 n), (19, .int .i64 s2.2), (22, .int .u64 s2.1), (30, .int .u64 (IntKind.u64.wrap (gt b (IntKind.i64.wrap ((IntKind.i64.wrap p_at) + s2.2))))), (33, .int .u64 (IntKind.u64.wrap (IntKind.i64.wrap (8 * s2.2))))]) hf (by kernel_rfl) ?_
        clear hf; clear a; intro a hf
        have hT := of_gd hS; clear hS; obtain ⟨hc2, hS⟩ := hT
        refine bin (run_shl (k := .u64) (k' := .u64) (x := IntKind.u64.wrap (gt b (IntKind.i64.wrap ((IntKind.i64.wrap p_at) + s2.2)))) hc2 _) hf (by kernel_rfl) (by kernel_rfl) (by kernel_rfl) (by kernel_rfl) ?_
        clear hf; clear a; intro a hf
        replace hf := Fr.keep (ks := [0, 1, 18, 19, 22, 34]) (L' := [(0, .slice ao_b b.length cp_b), (1, .int .u64 p_at), (18, .int .i64 n), (19, .int .i64 s2.2), (22, .int .u64 s2.1), (34, .int .u64 (shl .u64 (IntKind.u64.wrap (gt b (IntKind.i64.wrap ((IntKind.i64.wrap p_at) + s2.2)))) (IntKind.u64.wrap (IntKind.i64.wrap (8 * s2.2)))))]) hf (by kernel_rfl)
        have hT := of_let hS; clear hS; obtain ⟨x_1, hl1, hS⟩ := hT
        refine st tbOk 2 [0, 1, 9, 18, 19] (L' := [(0, .slice ao_b b.length cp_b), (1, .int .u64 p_at), (9, .int .u64 x_1), (18, .int .i64 n), (19, .int .i64 s2.2)]) hf (by subst hl1; kernel_rfl) ?_
        clear hf; clear a; intro a hf
        refine wpList_nil ?_
        refine reg ?_
        refine st tbOk 2 [0, 1, 9, 18, 19] (L' := [(0, .slice ao_b b.length cp_b), (1, .int .u64 p_at), (9, .int .u64 x_1), (18, .int .i64 n), (19, .int .i64 (IntKind.i64.wrap (s2.2 + 1)))]) hf (by kernel_rfl) ?_
        clear hf; clear a; intro a hf
        refine wpList_nil ?_
        exact hK2 (x_1, IntKind.i64.wrap (s2.2 + 1)) _ _ ⟨hE, hf.keep (ks := [0, 1, 9, 18, 19]) (by kernel_rfl)⟩ hS
      · replace hS := of_f hb2 hS
        refine wp_exit ?_
        exact hK1 s2.1 _ _ ⟨hE, hf.keep (ks := [9]) (by kernel_rfl)⟩ hS

theorem slices_Clone_byte_byte_ok {w : World} {s : List Int} {v_s : Value} (h_s : RO (hp w) (tI .u8) v_s s) {r : List Int} (hS : slices_Clone_byte_byte s = some r) :
    Calls Try.prog 27 #[v_s] w (Gives (fun u w' => ∃ (ao1 : Option Addr) (cp1 : Nat), u = .slice ao1 r.length cp1 ∧ Ext w w' ∧ Own w' w.heap.size mt 5 (tI .u8) (.slice ao1 r.length cp1) r)) := by
  obtain ⟨ao_s, cp_s, e_s⟩ := h_s.shape; subst e_s
  unfold slices_Clone_byte_byte at hS
  obtain ⟨hc1, hS⟩ := of_gd hS
  have hr := Option.some.inj hS; subst hr
  refine fn_ok (vs := [.slice ao_s s.length cp_s]) Try.func27 rfl 8 Try.ntmps27 (Nat.le_of_ble_eq_true rfl) ?_
  intro a hf
  replace hf := Fr.cast (L' := [(0, .slice ao_s s.length cp_s)]) hf (by kernel_rfl)
  have hE := Ext.rfl' w
  refine sq ?_
  refine reg ?_
  refine st tbOk 1 [0] (L' := [(0, .slice ao_s s.length cp_s)]) hf (by kernel_rfl) ?_
  clear hf; clear a; intro a hf
  refine wpList_nil ?_
  refine sq ?_
  refine sq ?_
  refine reg ?_
  refine st tbOk 1 [0, 3] (L' := [(0, .slice ao_s s.length cp_s), (3, .slice ao_s s.length cp_s)]) hf (by kernel_rfl) ?_
  clear hf; clear a; intro a hf
  refine eqnil tbOk u22 (ao := ao_s) (n := s.length) (c := cp_s) hf (by kernel_rfl) (by kernel_rfl) (by kernel_rfl) ?_
  clear hf; clear a; intro a hf
  refine wpList_nil ?_
  refine cnd (b := ao_s.isNone) hf (by kernel_rfl) (fun hb => ?_) (fun hb => ?_)
  · have hao : ao_s = none := by simpa using hb
    subst hao
    have hnil := h_s.none_nil (Nat.le_of_ble_eq_true rfl)
    subst hnil
    refine sq ?_
    refine reg ?_
    refine st tbOk 1 [2] (L' := [(2, .slice none 0 0)]) hf (by kernel_rfl) ?_
    clear hf; clear a; intro a hf
    refine wpList_nil ?_
    refine wp_ret ?_
    exact ret_ok hf (vs := [.slice none 0 0]) (by kernel_rfl) ⟨none, 0, rfl, hE, Own.nil _ _ _ _ _⟩
  · refine wp_skip ?_
    refine sq ?_
    refine reg ?_
    refine bs tbOk u22 i5 rfl (t := (tI .u8)) (vs := []) (cells := #[]) ([] : List Int) hf (by kernel_rfl) (by kernel_rfl) (by kernel_rfl) rfl (by kernel_rfl) (reps_flat _) rfl ?_
    clear hf; clear a; intro w1 a ho1 hx hz hf
    replace ho1 := ho1.base hE.size
    replace hE := hE.tr hx
    refine st tbOk 1 [5, 6] (L' := [(5, .slice (some ⟨w.heap.size, 0, none⟩) ([] : List Int).length ([] : List Int).length), (6, .slice ao_s s.length cp_s)]) hf (by kernel_rfl) ?_
    clear hf; clear a; intro a hf
    refine ap tbOk u22 i5 rfl rfl rfl (flat_I .u8) rfl ho1 hE.size h_s hE.le (by simpa using hc1) hf (by kernel_rfl) (by kernel_rfl) (by kernel_rfl) (by kernel_rfl) ?_
    clear hf; clear a; intro ao2 cp2 w2 a ho2 hg hloc hf
    replace hE := hE.grow hg (fun k hk => (ho1.lt k hk).1)
    refine st tbOk 1 [2] (L' := [(2, .slice ao2 s.length cp2)]) hf (by kernel_rfl) ?_
    clear hf; clear a; intro a hf
    refine wpList_nil ?_
    refine wp_ret ?_
    exact ret_ok hf (vs := [.slice ao2 s.length cp2]) (by kernel_rfl) ⟨ao2, cp2, rfl, hE, ho2⟩

theorem octets_Set_ok {w : World} {b : List Int} {p_at : Int} {n : Int} {p_x : Int} {v_b : Value} (h_b : RO (hp w) (tI .u8) v_b b) {r : (List Int) × Int} (hS : octets_Set b p_at n p_x = some r) :
    Calls Try.prog 14 #[v_b, .int .u64 p_at, .int .i64 n, .int .u64 p_x] w (Gives (fun u w' => ∃ (ao1 : Option Addr) (cp1 : Nat), u = .tuple #[.slice ao1 r.1.length cp1, .int .i64 r.2] ∧ Ext w w' ∧ Own w' w.heap.size mt 5 (tI .u8) (.slice ao1 r.1.length cp1) r.1)) := by
  obtain ⟨ao_b, cp_b, e_b⟩ := h_b.shape; subst e_b
  unfold octets_Set at hS
  refine fn_ok (vs := [.slice ao_b b.length cp_b, .int .u64 p_at, .int .i64 n, .int .u64 p_x]) Try.func14 rfl 40 Try.ntmps14 (Nat.le_of_ble_eq_true rfl) ?_
  intro a hf
  replace hf := Fr.cast (L' := [(0, .slice ao_b b.length cp_b), (1, .int .u64 p_at), (2, .int .i64 n), (3, .int .u64 p_x)]) hf (by kernel_rfl)
  have hE := Ext.rfl' w
  refine sq ?_
  refine reg ?_
  refine st tbOk 2 [0, 1, 2, 3] (L' := [(0, .slice ao_b b.length cp_b), (1, .int .u64 p_at), (2, .int .i64 n), (3, .int .u64 p_x)]) hf (by kernel_rfl) ?_
  clear hf; clear a; intro a hf
  refine wpList_nil ?_
  refine sq ?_
  refine sq ?_
  refine reg ?_
  refine st tbOk 3 [0, 1, 2, 3, 13, 14, 15] (L' := [(0, .slice ao_b b.length cp_b), (1, .int .u64 p_at), (2, .int .i64 n), (3, .int .u64 p_x), (13, .slice ao_b b.length cp_b), (14, .int .u64 p_at), (15, .int .i64 n)]) hf (by kernel_rfl) ?_
  clear hf; clear a; intro a hf
  have hT := of_bd hS; clear hS; obtain ⟨z1, hz1, hS⟩ := hT
  refine cl ent24 (vs := [.slice ao_b b.length cp_b, .int .u64 p_at, .int .i64 n]) hf (by kernel_rfl) (by kernel_rfl) (by kernel_rfl) (octets_fits_ok h_b hz1) ?_
  clear hf; clear a; intro v w1 a hT hf; obtain ⟨rfl, hx⟩ := hT
  replace hE := hE.tr hx
  replace hf := Fr.keep (ks := [0, 1, 2, 3, 16]) (L' := [(0, .slice ao_b b.length cp_b), (1, .int .u64 p_at), (2, .int .i64 n), (3, .int .u64 p_x), (16, .int .i64 z1)]) hf (by kernel_rfl)
  refine st tbOk 1 [0, 1, 2, 3, 10] (L' := [(0, .slice ao_b b.length cp_b), (1, .int .u64 p_at), (2, .int .i64 n), (3, .int .u64 p_x), (10, .int .i64 z1)]) hf (by kernel_rfl) ?_
  clear hf; clear a; intro a hf
  refine wpList_nil ?_
  refine sq ?_
  refine reg ?_
  refine st tbOk 2 [0, 1, 2, 3, 10, 18] (L' := [(0, .slice ao_b b.length cp_b), (1, .int .u64 p_at), (2, .int .i64 n), (3, .int .u64 p_x), (10, .int .i64 z1), (18, .bool (z1 != 0))]) hf (by kernel_rfl) ?_
  clear hf; clear a; intro a hf
  refine wpList_nil ?_
  refine cnd (b := z1 != 0) hf (by kernel_rfl) (fun hb1 => ?_) (fun hb1 => ?_)
  · replace hS := of_t hb1 hS
    refine sq ?_
    refine reg ?_
    refine st tbOk 3 [8, 9] (L' := [(8, .slice none 0 0), (9, .int .i64 z1)]) hf (by kernel_rfl) ?_
    clear hf; clear a; intro a hf
    refine wpList_nil ?_
    have hr := Option.some.inj hS; subst hr
    refine wp_ret ?_
    exact ret_ok hf (vs := [.slice none 0 0, .int .i64 z1]) (by kernel_rfl) ⟨none, 0, rfl, hE, Own.nil _ _ _ _ _⟩
  · replace hS := of_f hb1 hS
    refine wp_skip ?_
    refine sq ?_
    refine reg ?_
    refine st tbOk 1 [1, 2, 3, 20] (L' := [(1, .int .u64 p_at), (2, .int .i64 n), (3, .int .u64 p_x), (20, .slice ao_b b.length cp_b)]) hf (by kernel_rfl) ?_
    clear hf; clear a; intro a hf
    have hT := of_bd hS; clear hS; obtain ⟨z2, hz2, hS⟩ := hT
    refine cl ent27 (vs := [.slice ao_b b.length cp_b]) hf (by kernel_rfl) (by kernel_rfl) (by kernel_rfl) (slices_Clone_byte_byte_ok (h_b.mono hE.le) hz2) ?_
    clear hf; clear a; intro v w2 a hT hf; obtain ⟨ao1, cp1, rfl, hx, ho1⟩ := hT
    replace ho1 := ho1.base hE.size
    replace hE := hE.tr hx
    replace hf := Fr.keep (ks := [1, 2, 3, 21]) (L' := [(1, .int .u64 p_at), (2, .int .i64 n), (3, .int .u64 p_x), (21, .slice ao1 z2.length cp1)]) hf (by kernel_rfl)
    refine st tbOk 1 [1, 2, 3, 11] (L' := [(1, .int .u64 p_at), (2, .int .i64 n), (3, .int .u64 p_x), (11, .slice ao1 z2.length cp1)]) hf (by kernel_rfl) ?_
    clear hf; clear a; intro a hf
    refine wpList_nil ?_
    refine sq ?_
    refine sq ?_
    refine reg ?_
    refine st tbOk 2 [1, 3, 11, 22, 23] (L' := [(1, .int .u64 p_at), (3, .int .u64 p_x), (11, .slice ao1 z2.length cp1), (22, .int .i64 n), (23, .int .i64 0)]) hf (by kernel_rfl) ?_
    clear hf; clear a; intro a hf
    refine wpList_nil ?_
    refine ctj (fun (s1 : (List Int)) (a : Act) (w' : World) => ∃ (ao2 : Option Addr) (cp2 : Nat), Ext w w' ∧ Own w' w.heap.size mt 5 (tI .u8) (.slice ao2 s1.length cp2) s1 ∧ Fr 40 [(11, .slice ao2 s1.length cp2)] a) hS ?_ ?_
    · clear hS hf; clear a; clear hE; intro s1 a w5 hM hS
      obtain ⟨ao2, cp2, hE, ho2, hf⟩ := hM
      refine sq ?_
      refine reg ?_
      refine st tbOk 3 [8, 9] (L' := [(8, .slice ao2 s1.length cp2), (9, .int .i64 0)]) hf (by kernel_rfl) ?_
      clear hf; clear a; intro a hf
      refine wpList_nil ?_
      have hr := Option.some.inj hS; subst hr
      refine wp_ret ?_
      exact ret_ok hf (vs := [.slice ao2 s1.length cp2, .int .i64 0]) (by kernel_rfl) ⟨ao2, cp2, rfl, hE, ho2⟩
    · clear hS; intro KK1 k1 hK1 hS
      refine blk ?_
      refine lp (st := (z2, 0)) (fun (s2 : (List Int) × Int) (a : Act) (w' : World) => ∃ (ao3 : Option Addr) (cp3 : Nat), Ext w w' ∧ Own w' w.heap.size mt 5 (tI .u8) (.slice ao3 s2.1.length cp3) s2.1 ∧ Fr 40 [(1, .int .u64 p_at), (3, .int .u64 p_x), (11, .slice ao3 s2.1.length cp3), (22, .int .i64 n), (23, .int .i64 s2.2)] a) ?_ ⟨ao1, cp1, hE, ho1, hf.keep (ks := [1, 3, 11, 22, 23]) (by kernel_rfl)⟩ hS
      clear hS hf; clear a; clear hE
      intro rec1 KK2 hK2 s2 a w3 hM hS
      obtain ⟨ao3, cp3, hE, ho3, hf⟩ := hM
      refine sq ?_
      refine reg ?_
      refine st tbOk 1 [1, 3, 11, 22, 23, 24] (L' := [(1, .int .u64 p_at), (3, .int .u64 p_x), (11, .slice ao3 s2.1.length cp3), (22, .int .i64 n), (23, .int .i64 s2.2), (24, .bool (decide (s2.2 < n)))]) hf (by kernel_rfl) ?_
      clear hf; clear a; intro a hf
      refine wpList_nil ?_
      refine sq ?_
      refine cnd (b := decide (s2.2 < n)) hf (by kernel_rfl) (fun hb2 => ?_) (fun hb2 => ?_)
      · replace hS := of_t hb2 hS
        refine wp_skip ?_
        refine sq ?_
        refine blk ?_
        refine sq ?_
        refine reg ?_
        refine st tbOk 2 [1, 3, 11, 12, 22, 23] (L' := [(1, .int .u64 p_at), (3, .int .u64 p_x), (11, .slice ao3 s2.1.length cp3), (12, .int .i64 s2.2), (22, .int .i64 n), (23, .int .i64 s2.2)]) hf (by kernel_rfl) ?_
        clear hf; clear a; intro a hf
        refine wpList_nil ?_
        refine reg ?_
        refine st tbOk 9 [1, 3, 11, 22, 23, 26, 30, 31, 34] (L' := [(1, .int .u64 p_at), (3, .int .u64 p_x), (11, .slice ao3 s2.1.length cp3), (22, .int .i64 n), (23, .int .i64 s2.2), (26, .slice ao3 s2.1.length cp3), (30, .int .i64 (IntKind.i64.wrap ((IntKind.i64.wrap p_at) + s2.2))), (31, .int .u64 p_x), (34, .int .u64 (IntKind.u64.wrap (IntKind.i64.wrap (8 * s2.2))))]) hf (by kernel_rfl) ?_
        clear hf; clear a; intro a hf
        have hT := of_gd hS; clear hS; obtain ⟨hc1, hS⟩ := hT
        refine bin (run_shr (k := .u64) (k' := .u64) (x := p_x) hc1 _) hf (by kernel_rfl) (by kernel_rfl) (by kernel_rfl) (by kernel_rfl) ?_
        clear hf; clear a; intro a hf
        replace hf := Fr.keep (ks := [1, 3, 11, 22, 23, 26, 30, 35]) (L' := [(1, .int .u64 p_at), (3, .int .u64 p_x), (11, .slice ao3 s2.1.length cp3), (22, .int .i64 n), (23, .int .i64 s2.2), (26, .slice ao3 s2.1.length cp3), (30, .int .i64 (IntKind.i64.wrap ((IntKind.i64.wrap p_at) + s2.2))), (35, .int .u64 (shr .u64 p_x (IntKind.u64.wrap (IntKind.i64.wrap (8 * s2.2)))))]) hf (by kernel_rfl)
        refine st tbOk 1 [1, 3, 11, 22, 23, 26, 30, 36] (L' := [(1, .int .u64 p_at), (3, .int .u64 p_x), (11, .slice ao3 s2.1.length cp3), (22, .int .i64 n), (23, .int .i64 s2.2), (26, .slice ao3 s2.1.length cp3), (30, .int .i64 (IntKind.i64.wrap ((IntKind.i64.wrap p_at) + s2.2))), (36, .int .u8 (IntKind.u8.wrap (shr .u64 p_x (IntKind.u64.wrap (IntKind.i64.wrap (8 * s2.2))))))]) hf (by kernel_rfl) ?_
        clear hf; clear a; intro a hf
        have hT := of_gd hS; clear hS; obtain ⟨hc2, hS⟩ := hT
        refine ixO tbOk u22 i5 ho3 (k := .i64) (n := IntKind.i64.wrap ((IntKind.i64.wrap p_at) + s2.2)) hc2 hf (by kernel_rfl) (by kernel_rfl) (by kernel_rfl) (by kernel_rfl) ?_
        clear hf; clear a; intro p1 a hp1 hf
        replace hf := Fr.keep (ks := [1, 3, 11, 22, 23, 36, 37]) (L' := [(1, .int .u64 p_at), (3, .int .u64 p_x), (11, .slice ao3 s2.1.length cp3), (22, .int .i64 n), (23, .int .i64 s2.2), (36, .int .u8 (IntKind.u8.wrap (shr .u64 p_x (IntKind.u64.wrap (IntKind.i64.wrap (8 * s2.2)))))), (37, .pointer (some p1))]) hf (by kernel_rfl)
        refine sto tbOk i5 rfl ho3 hc2 hp1 (u := .int .u8 (IntKind.u8.wrap (shr .u64 p_x (IntKind.u64.wrap (IntKind.i64.wrap (8 * s2.2)))))) (yv := IntKind.u8.wrap (shr .u64 p_x (IntKind.u64.wrap (IntKind.i64.wrap (8 * s2.2))))) rfl rfl hf (by kernel_rfl) (by kernel_rfl) (by kernel_rfl) ?_
        clear hf; clear a; intro w4 a hN hg hz hf
        replace hE := hE.grow hg (fun k hk => (ho3.lt k hk).1)
        replace ho3 : Own w4 w.heap.size mt 5 (tI .u8) (.slice ao3 (s2.1.set (IntKind.i64.wrap ((IntKind.i64.wrap p_at) + s2.2)).toNat (IntKind.u8.wrap (shr .u64 p_x (IntKind.u64.wrap (IntKind.i64.wrap (8 * s2.2)))))).length cp3) (s2.1.set (IntKind.i64.wrap ((IntKind.i64.wrap p_at) + s2.2)).toNat (IntKind.u8.wrap (shr .u64 p_x (IntKind.u64.wrap (IntKind.i64.wrap (8 * s2.2)))))) := by simpa only [List.length_set] using hN
        clear hN; replace hf := Fr.cast (L' := [(1, .int .u64 p_at), (3, .int .u64 p_x), (11, .slice ao3 (s2.1.set (IntKind.i64.wrap ((IntKind.i64.wrap p_at) + s2.2)).toNat (IntKind.u8.wrap (shr .u64 p_x (IntKind.u64.wrap (IntKind.i64.wrap (8 * s2.2)))))).length cp3), (22, .int .i64 n), (23, .int .i64 s2.2), (36, .int .u8 (IntKind.u8.wrap (shr .u64 p_x (IntKind.u64.wrap (IntKind.i64.wrap (8 * s2.2)))))), (37, .pointer (some p1))]) hf (by simp only [List.length_set])
        replace hf := Fr.keep (ks := [1, 3, 11, 22, 23]) (L' := [(1, .int .u64 p_at), (3, .int .u64 p_x), (11, .slice ao3 (s2.1.set (IntKind.i64.wrap ((IntKind.i64.wrap p_at) + s2.2)).toNat (IntKind.u8.wrap (shr .u64 p_x (IntKind.u64.wrap (IntKind.i64.wrap (8 * s2.2)))))).length cp3), (22, .int .i64 n), (23, .int .i64 s2.2)]) hf (by kernel_rfl)
        refine wpList_nil ?_
        refine reg ?_
        refine st tbOk 2 [1, 3, 11, 22, 23] (L' := [(1, .int .u64 p_at), (3, .int .u64 p_x), (11, .slice ao3 (s2.1.set (IntKind.i64.wrap ((IntKind.i64.wrap p_at) + s2.2)).toNat (IntKind.u8.wrap (shr .u64 p_x (IntKind.u64.wrap (IntKind.i64.wrap (8 * s2.2)))))).length cp3), (22, .int .i64 n), (23, .int .i64 (IntKind.i64.wrap (s2.2 + 1)))]) hf (by kernel_rfl) ?_
        clear hf; clear a; intro a hf
        refine wpList_nil ?_
        exact hK2 ((s2.1.set (IntKind.i64.wrap ((IntKind.i64.wrap p_at) + s2.2)).toNat (IntKind.u8.wrap (shr .u64 p_x (IntKind.u64.wrap (IntKind.i64.wrap (8 * s2.2)))))), IntKind.i64.wrap (s2.2 + 1)) _ _ ⟨ao3, cp3, hE, ho3, hf.keep (ks := [1, 3, 11, 22, 23]) (by kernel_rfl)⟩ hS
      · replace hS := of_f hb2 hS
        refine wp_exit ?_
        exact hK1 s2.1 _ _ ⟨ao3, cp3, hE, ho3, hf.keep (ks := [11]) (by kernel_rfl)⟩ hS

theorem octets_Cut_ok {w : World} {b : List Int} {p_at : Int} {size : Int} {v_b : Value} (h_b : RO (hp w) (tI .u8) v_b b) {r : (List Int) × Int} (hS : octets_Cut b p_at size = some r) :
    Calls Try.prog 16 #[v_b, .int .u64 p_at, .int .u64 size] w (Gives (fun u w' => ∃ (ao1 : Option Addr) (cp1 : Nat), u = .tuple #[.slice ao1 r.1.length cp1, .int .i64 r.2] ∧ Ext w w' ∧ Own w' w.heap.size mt 5 (tI .u8) (.slice ao1 r.1.length cp1) r.1)) := by
  obtain ⟨ao_b, cp_b, e_b⟩ := h_b.shape; subst e_b
  unfold octets_Cut at hS
  refine fn_ok (vs := [.slice ao_b b.length cp_b, .int .u64 p_at, .int .u64 size]) Try.func16 rfl 21 Try.ntmps16 (Nat.le_of_ble_eq_true rfl) ?_
  intro a hf
  replace hf := Fr.cast (L' := [(0, .slice ao_b b.length cp_b), (1, .int .u64 p_at), (2, .int .u64 size)]) hf (by kernel_rfl)
  have hE := Ext.rfl' w
  refine sq ?_
  refine reg ?_
  refine st tbOk 2 [0, 1, 2] (L' := [(0, .slice ao_b b.length cp_b), (1, .int .u64 p_at), (2, .int .u64 size)]) hf (by kernel_rfl) ?_
  clear hf; clear a; intro a hf
  refine wpList_nil ?_
  refine sq ?_
  refine sq ?_
  refine reg ?_
  refine st tbOk 4 [0, 1, 2, 9, 10, 11] (L' := [(0, .slice ao_b b.length cp_b), (1, .int .u64 p_at), (2, .int .u64 size), (9, .int .i64 ((b.length : Nat) : Int)), (10, .int .u64 p_at), (11, .int .u64 size)]) hf (by kernel_rfl) ?_
  clear hf; clear a; intro a hf
  have hT := of_bd hS; clear hS; obtain ⟨z1, hz1, hS⟩ := hT
  refine cl ent28 (vs := [.int .i64 ((b.length : Nat) : Int), .int .u64 p_at, .int .u64 size]) hf (by kernel_rfl) (by kernel_rfl) (by kernel_rfl) (octets_has_ok  hz1) ?_
  clear hf; clear a; intro v w1 a hT hf; obtain ⟨rfl, hx⟩ := hT
  replace hE := hE.tr hx
  replace hf := Fr.keep (ks := [0, 1, 2, 12]) (L' := [(0, .slice ao_b b.length cp_b), (1, .int .u64 p_at), (2, .int .u64 size), (12, .bool z1)]) hf (by kernel_rfl)
  refine st tbOk 1 [0, 1, 2, 13] (L' := [(0, .slice ao_b b.length cp_b), (1, .int .u64 p_at), (2, .int .u64 size), (13, .bool (!z1))]) hf (by kernel_rfl) ?_
  clear hf; clear a; intro a hf
  refine wpList_nil ?_
  refine cnd (b := !z1) hf (by kernel_rfl) (fun hb1 => ?_) (fun hb1 => ?_)
  · replace hS := of_t hb1 hS
    refine sq ?_
    refine reg ?_
    refine st tbOk 2 [6, 7] (L' := [(6, .slice none 0 0), (7, .int .i64 10)]) hf (by kernel_rfl) ?_
    clear hf; clear a; intro a hf
    refine wpList_nil ?_
    have hr := Option.some.inj hS; subst hr
    refine wp_ret ?_
    exact ret_ok hf (vs := [.slice none 0 0, .int .i64 10]) (by kernel_rfl) ⟨none, 0, rfl, hE, Own.nil _ _ _ _ _⟩
  · replace hS := of_f hb1 hS
    refine wp_skip ?_
    refine sq ?_
    refine reg ?_
    refine st tbOk 5 [14, 15, 18] (L' := [(14, .slice ao_b b.length cp_b), (15, .int .u64 p_at), (18, .int .u64 (IntKind.u64.wrap (p_at + size)))]) hf (by kernel_rfl) ?_
    clear hf; clear a; intro a hf
    have hT := of_gd hS; clear hS; obtain ⟨hc1, hS⟩ := hT
    refine sl tbOk u22 i5 rfl h_b (lo := p_at) (hi := IntKind.u64.wrap (p_at + size)) (m := 0) hc1 (.inr ⟨_, .u64, rfl, by kernel_rfl⟩) (.inr ⟨_, .u64, rfl, by kernel_rfl⟩) (.inl rfl) hf (by kernel_rfl) (by kernel_rfl) (by kernel_rfl) ?_
    clear hf; clear a; intro ao1 cp1 a hr1 hf
    replace hf := Fr.keep (ks := [19]) (L' := [(19, .slice ao1 (cutL b p_at (IntKind.u64.wrap (p_at + size))).length cp1)]) hf (by kernel_rfl)
    have hT := of_bd hS; clear hS; obtain ⟨z2, hz2, hS⟩ := hT
    refine cl ent27 (vs := [.slice ao1 (cutL b p_at (IntKind.u64.wrap (p_at + size))).length cp1]) hf (by kernel_rfl) (by kernel_rfl) (by kernel_rfl) (slices_Clone_byte_byte_ok (hr1.mono hE.le) hz2) ?_
    clear hf; clear a; intro v w2 a hT hf; obtain ⟨ao2, cp2, rfl, hx, ho1⟩ := hT
    replace ho1 := ho1.base hE.size
    replace hE := hE.tr hx
    replace hf := Fr.keep (ks := [20]) (L' := [(20, .slice ao2 z2.length cp2)]) hf (by kernel_rfl)
    refine st tbOk 2 [6, 7] (L' := [(6, .slice ao2 z2.length cp2), (7, .int .i64 0)]) hf (by kernel_rfl) ?_
    clear hf; clear a; intro a hf
    refine wpList_nil ?_
    have hr := Option.some.inj hS; subst hr
    refine wp_ret ?_
    exact ret_ok hf (vs := [.slice ao2 z2.length cp2, .int .i64 0]) (by kernel_rfl) ⟨ao2, cp2, rfl, hE, ho1⟩

theorem octets_Down_ok {w : World} {p_x : Int} {p_a : Int}  {r : Int × Int} (hS : octets_Down p_x p_a = some r) :
    Calls Try.prog 20 #[.int .u64 p_x, .int .u64 p_a] w (Gives (fun u w' => u = .tuple #[.int .u64 r.1, .int .i64 r.2] ∧ Ext w w')) := by
  unfold octets_Down at hS
  refine fn_ok (vs := [.int .u64 p_x, .int .u64 p_a]) Try.func20 rfl 19 Try.ntmps20 (Nat.le_of_ble_eq_true rfl) ?_
  intro a hf
  replace hf := Fr.cast (L' := [(0, .int .u64 p_x), (1, .int .u64 p_a)]) hf (by kernel_rfl)
  have hE := Ext.rfl' w
  refine sq ?_
  refine reg ?_
  refine st tbOk 2 [0, 1] (L' := [(0, .int .u64 p_x), (1, .int .u64 p_a)]) hf (by kernel_rfl) ?_
  clear hf; clear a; intro a hf
  refine wpList_nil ?_
  refine sq ?_
  refine sq ?_
  refine ctj (fun (s1 : Bool) (a : Act) (w' : World) => Ext w w' ∧ Fr 19 [(0, .int .u64 p_x), (1, .int .u64 p_a), (14, .bool s1)] a) hS ?_ ?_
  · clear hS hf; clear a; clear hE; intro s1 a w1 hM hS
    obtain ⟨hE, hf⟩ := hM
    refine cnd (b := s1) hf (by kernel_rfl) (fun hb2 => ?_) (fun hb2 => ?_)
    · replace hS := of_t hb2 hS
      refine sq ?_
      refine reg ?_
      refine st tbOk 2 [4, 5] (L' := [(4, .int .u64 0), (5, .int .i64 1)]) hf (by kernel_rfl) ?_
      clear hf; clear a; intro a hf
      refine wpList_nil ?_
      have hr := Option.some.inj hS; subst hr
      refine wp_ret ?_
      exact ret_ok hf (vs := [.int .u64 0, .int .i64 1]) (by kernel_rfl) ⟨rfl, hE⟩
    · replace hS := of_f hb2 hS
      refine wp_skip ?_
      refine sq ?_
      refine reg ?_
      refine st tbOk 6 [4, 5] (L' := [(4, .int .u64 (bandn .u64 p_x (IntKind.u64.wrap (p_a - 1)))), (5, .int .i64 0)]) hf (by kernel_rfl) ?_
      clear hf; clear a; intro a hf
      refine wpList_nil ?_
      have hr := Option.some.inj hS; subst hr
      refine wp_ret ?_
      exact ret_ok hf (vs := [.int .u64 (bandn .u64 p_x (IntKind.u64.wrap (p_a - 1))), .int .i64 0]) (by kernel_rfl) ⟨rfl, hE⟩
  · clear hS; intro KK1 k1 hK1 hS
    refine reg ?_
    refine st tbOk 3 [0, 1, 8] (L' := [(0, .int .u64 p_x), (1, .int .u64 p_a), (8, .bool (p_a == 0))]) hf (by kernel_rfl) ?_
    clear hf; clear a; intro a hf
    rcases Bool.eq_false_or_eq_true (p_a == 0) with hb1 | hb1
    · replace hS := of_t hb1 hS
      replace hf := Fr.cast (L' := [(0, .int .u64 p_x), (1, .int .u64 p_a), (8, .bool true)]) hf (by rw [hb1])
      refine st tbOk 6 [0, 1, 14] (L' := [(0, .int .u64 p_x), (1, .int .u64 p_a), (14, .bool true)]) hf (by kernel_rfl) ?_
      clear hf; clear a; intro a hf
      refine wpList_nil ?_
      exact hK1 true _ _ ⟨hE, hf.keep (ks := [0, 1, 14]) (by kernel_rfl)⟩ hS
    · replace hS := of_f hb1 hS
      replace hf := Fr.cast (L' := [(0, .int .u64 p_x), (1, .int .u64 p_a), (8, .bool false)]) hf (by rw [hb1])
      refine st tbOk 6 [0, 1, 14] (L' := [(0, .int .u64 p_x), (1, .int .u64 p_a), (14, .bool ((band .u64 p_a (IntKind.u64.wrap (p_a - 1))) != 0))]) hf (by kernel_rfl) ?_
      clear hf; clear a; intro a hf
      refine wpList_nil ?_
      exact hK1 ((band .u64 p_a (IntKind.u64.wrap (p_a - 1))) != 0) _ _ ⟨hE, hf.keep (ks := [0, 1, 14]) (by kernel_rfl)⟩ hS

theorem octets_Up_ok {w : World} {p_x : Int} {p_a : Int}  {r : Int × Int} (hS : octets_Up p_x p_a = some r) :
    Calls Try.prog 18 #[.int .u64 p_x, .int .u64 p_a] w (Gives (fun u w' => u = .tuple #[.int .u64 r.1, .int .i64 r.2] ∧ Ext w w')) := by
  unfold octets_Up at hS
  refine fn_ok (vs := [.int .u64 p_x, .int .u64 p_a]) Try.func18 rfl 32 Try.ntmps18 (Nat.le_of_ble_eq_true rfl) ?_
  intro a hf
  replace hf := Fr.cast (L' := [(0, .int .u64 p_x), (1, .int .u64 p_a)]) hf (by kernel_rfl)
  have hE := Ext.rfl' w
  refine sq ?_
  refine reg ?_
  refine st tbOk 2 [0, 1] (L' := [(0, .int .u64 p_x), (1, .int .u64 p_a)]) hf (by kernel_rfl) ?_
  clear hf; clear a; intro a hf
  refine wpList_nil ?_
  refine sq ?_
  refine reg ?_
  refine st tbOk 2 [0, 1, 9, 10] (L' := [(0, .int .u64 p_x), (1, .int .u64 p_a), (9, .int .u64 p_x), (10, .int .u64 p_a)]) hf (by kernel_rfl) ?_
  clear hf; clear a; intro a hf
  have hT := of_bd hS; clear hS; obtain ⟨z1, hz1, hS⟩ := hT
  refine cl ent20 (vs := [.int .u64 p_x, .int .u64 p_a]) hf (by kernel_rfl) (by kernel_rfl) (by kernel_rfl) (octets_Down_ok  hz1) ?_
  clear hf; clear a; intro v w1 a hT hf; obtain ⟨rfl, hx⟩ := hT
  replace hE := hE.tr hx
  replace hf := Fr.keep (ks := [0, 1, 11]) (L' := [(0, .int .u64 p_x), (1, .int .u64 p_a), (11, .tuple #[.int .u64 z1.1, .int .i64 z1.2])]) hf (by kernel_rfl)
  refine st tbOk 5 [0, 1, 6, 7] (L' := [(0, .int .u64 p_x), (1, .int .u64 p_a), (6, .int .u64 z1.1), (7, .int .i64 z1.2)]) hf (by kernel_rfl) ?_
  clear hf; clear a; intro a hf
  refine wpList_nil ?_
  refine sq ?_
  refine blk ?_
  refine sq ?_
  refine ctj (fun (s1 : Bool) (a : Act) (w' : World) => Ext w w' ∧ Fr 32 [(1, .int .u64 p_a), (6, .int .u64 z1.1), (7, .int .i64 z1.2), (14, .bool s1)] a) hS ?_ ?_
  · clear hS hf; clear a; clear hE; intro s1 a w2 hM hS
    obtain ⟨hE, hf⟩ := hM
    refine cnd (b := s1) hf (by kernel_rfl) (fun hb2 => ?_) (fun hb2 => ?_)
    · replace hS := of_t hb2 hS
      refine sq ?_
      refine reg ?_
      refine st tbOk 4 [4, 5] (L' := [(4, .int .u64 z1.1), (5, .int .i64 z1.2)]) hf (by kernel_rfl) ?_
      clear hf; clear a; intro a hf
      refine wpList_nil ?_
      have hr := Option.some.inj hS; subst hr
      refine wp_ret ?_
      exact ret_ok hf (vs := [.int .u64 z1.1, .int .i64 z1.2]) (by kernel_rfl) ⟨rfl, hE⟩
    · replace hS := of_f hb2 hS
      refine sq ?_
      refine reg ?_
      refine st tbOk 5 [1, 6, 24] (L' := [(1, .int .u64 p_a), (6, .int .u64 z1.1), (24, .bool ((IntKind.u64.wrap (z1.1 + p_a)) == 0))]) hf (by kernel_rfl) ?_
      clear hf; clear a; intro a hf
      refine wpList_nil ?_
      refine cnd (b := (IntKind.u64.wrap (z1.1 + p_a)) == 0) hf (by kernel_rfl) (fun hb3 => ?_) (fun hb3 => ?_)
      · replace hS := of_t hb3 hS
        refine sq ?_
        refine reg ?_
        refine st tbOk 2 [4, 5] (L' := [(4, .int .u64 0), (5, .int .i64 10)]) hf (by kernel_rfl) ?_
        clear hf; clear a; intro a hf
        refine wpList_nil ?_
        have hr := Option.some.inj hS; subst hr
        refine wp_ret ?_
        exact ret_ok hf (vs := [.int .u64 0, .int .i64 10]) (by kernel_rfl) ⟨rfl, hE⟩
      · replace hS := of_f hb3 hS
        refine wp_skip ?_
        refine sq ?_
        refine reg ?_
        refine st tbOk 5 [4, 5] (L' := [(4, .int .u64 (IntKind.u64.wrap (z1.1 + p_a))), (5, .int .i64 0)]) hf (by kernel_rfl) ?_
        clear hf; clear a; intro a hf
        refine wpList_nil ?_
        have hr := Option.some.inj hS; subst hr
        refine wp_ret ?_
        exact ret_ok hf (vs := [.int .u64 (IntKind.u64.wrap (z1.1 + p_a)), .int .i64 0]) (by kernel_rfl) ⟨rfl, hE⟩
  · clear hS; intro KK1 k1 hK1 hS
    refine reg ?_
    refine st tbOk 3 [0, 1, 6, 7, 17] (L' := [(0, .int .u64 p_x), (1, .int .u64 p_a), (6, .int .u64 z1.1), (7, .int .i64 z1.2), (17, .bool (z1.2 != 0))]) hf (by kernel_rfl) ?_
    clear hf; clear a; intro a hf
    rcases Bool.eq_false_or_eq_true (z1.2 != 0) with hb1 | hb1
    · replace hS := of_t hb1 hS
      replace hf := Fr.cast (L' := [(0, .int .u64 p_x), (1, .int .u64 p_a), (6, .int .u64 z1.1), (7, .int .i64 z1.2), (17, .bool true)]) hf (by rw [hb1])
      refine st tbOk 5 [1, 6, 7, 14] (L' := [(1, .int .u64 p_a), (6, .int .u64 z1.1), (7, .int .i64 z1.2), (14, .bool true)]) hf (by kernel_rfl) ?_
      clear hf; clear a; intro a hf
      refine wpList_nil ?_
      exact hK1 true _ _ ⟨hE, hf.keep (ks := [1, 6, 7, 14]) (by kernel_rfl)⟩ hS
    · replace hS := of_f hb1 hS
      replace hf := Fr.cast (L' := [(0, .int .u64 p_x), (1, .int .u64 p_a), (6, .int .u64 z1.1), (7, .int .i64 z1.2), (17, .bool false)]) hf (by rw [hb1])
      refine st tbOk 5 [1, 6, 7, 14] (L' := [(1, .int .u64 p_a), (6, .int .u64 z1.1), (7, .int .i64 z1.2), (14, .bool (z1.1 == p_x))]) hf (by kernel_rfl) ?_
      clear hf; clear a; intro a hf
      refine wpList_nil ?_
      exact hK1 (z1.1 == p_x) _ _ ⟨hE, hf.keep (ks := [1, 6, 7, 14]) (by kernel_rfl)⟩ hS

theorem octets_Meet_ok {w : World} {p_a : Int} {m : Int} {b : Int} {n : Int}  {r : Bool} (hS : octets_Meet p_a m b n = some r) :
    Calls Try.prog 23 #[.int .u64 p_a, .int .u64 m, .int .u64 b, .int .u64 n] w (Gives (fun u w' => u = .bool r ∧ Ext w w')) := by
  unfold octets_Meet at hS
  refine fn_ok (vs := [.int .u64 p_a, .int .u64 m, .int .u64 b, .int .u64 n]) Try.func23 rfl 25 Try.ntmps23 (Nat.le_of_ble_eq_true rfl) ?_
  intro a hf
  replace hf := Fr.cast (L' := [(0, .int .u64 p_a), (1, .int .u64 m), (2, .int .u64 b), (3, .int .u64 n)]) hf (by kernel_rfl)
  have hE := Ext.rfl' w
  refine sq ?_
  refine reg ?_
  refine st tbOk 1 [0, 1, 2, 3] (L' := [(0, .int .u64 p_a), (1, .int .u64 m), (2, .int .u64 b), (3, .int .u64 n)]) hf (by kernel_rfl) ?_
  clear hf; clear a; intro a hf
  refine wpList_nil ?_
  refine sq ?_
  refine sq ?_
  refine reg ?_
  refine st tbOk 3 [0, 1, 2, 3, 11] (L' := [(0, .int .u64 p_a), (1, .int .u64 m), (2, .int .u64 b), (3, .int .u64 n), (11, .bool (decide (p_a > b)))]) hf (by kernel_rfl) ?_
  clear hf; clear a; intro a hf
  refine wpList_nil ?_
  refine ctj (fun (s1 : Int × Int × Int × Int) (a : Act) (w' : World) => Ext w w' ∧ Fr 25 [(0, .int .u64 s1.1), (1, .int .u64 s1.2.1), (2, .int .u64 s1.2.2.1), (3, .int .u64 s1.2.2.2)] a) hS ?_ ?_
  · clear hS hf; clear a; clear hE; intro s1 a w1 hM hS
    obtain ⟨hE, hf⟩ := hM
    refine sq ?_
    refine ctj (fun (s2 : Bool) (a : Act) (w' : World) => Ext w w' ∧ Fr 25 [(8, .bool s2)] a) hS ?_ ?_
    · clear hS hf; clear a; clear hE; intro s2 a w2 hM hS
      obtain ⟨hE, hf⟩ := hM
      have hr := Option.some.inj hS; subst hr
      refine wp_ret ?_
      exact ret_ok hf (vs := [.bool s2]) (by kernel_rfl) ⟨rfl, hE⟩
    · clear hS; intro KK2 k2 hK2 hS
      refine reg ?_
      refine st tbOk 3 [0, 1, 2, 18] (L' := [(0, .int .u64 s1.1), (1, .int .u64 s1.2.1), (2, .int .u64 s1.2.2.1), (18, .bool (decide (s1.2.2.2 > 0)))]) hf (by kernel_rfl) ?_
      clear hf; clear a; intro a hf
      rcases Bool.eq_false_or_eq_true (decide (s1.2.2.2 > 0)) with hb2 | hb2
      · replace hS := of_t hb2 hS
        replace hf := Fr.cast (L' := [(0, .int .u64 s1.1), (1, .int .u64 s1.2.1), (2, .int .u64 s1.2.2.1), (18, .bool true)]) hf (by rw [hb2])
        refine st tbOk 7 [8] (L' := [(8, .bool (decide ((IntKind.u64.wrap (s1.2.2.1 - s1.1)) < s1.2.1)))]) hf (by kernel_rfl) ?_
        clear hf; clear a; intro a hf
        refine wpList_nil ?_
        exact hK2 (decide ((IntKind.u64.wrap (s1.2.2.1 - s1.1)) < s1.2.1)) _ _ ⟨hE, hf.keep (ks := [8]) (by kernel_rfl)⟩ hS
      · replace hS := of_f hb2 hS
        replace hf := Fr.cast (L' := [(0, .int .u64 s1.1), (1, .int .u64 s1.2.1), (2, .int .u64 s1.2.2.1), (18, .bool false)]) hf (by rw [hb2])
        refine st tbOk 7 [8] (L' := [(8, .bool false)]) hf (by kernel_rfl) ?_
        clear hf; clear a; intro a hf
        refine wpList_nil ?_
        exact hK2 false _ _ ⟨hE, hf.keep (ks := [8]) (by kernel_rfl)⟩ hS
  · clear hS; intro KK1 k1 hK1 hS
    refine cnd (b := decide (p_a > b)) hf (by kernel_rfl) (fun hb1 => ?_) (fun hb1 => ?_)
    · replace hS := of_t hb1 hS
      refine reg ?_
      refine st tbOk 8 [0, 1, 2, 3] (L' := [(0, .int .u64 b), (1, .int .u64 n), (2, .int .u64 p_a), (3, .int .u64 m)]) hf (by kernel_rfl) ?_
      clear hf; clear a; intro a hf
      refine wpList_nil ?_
      exact hK1 (b, n, p_a, m) _ _ ⟨hE, hf.keep (ks := [0, 1, 2, 3]) (by kernel_rfl)⟩ hS
    · replace hS := of_f hb1 hS
      refine wp_skip ?_
      exact hK1 (p_a, m, b, n) _ _ ⟨hE, hf.keep (ks := [0, 1, 2, 3]) (by kernel_rfl)⟩ hS

theorem law01_awake_ok {w : World}   {r : Bool} (hS : law01_awake = some r) :
    Calls Try.prog 11 #[] w (Gives (fun u w' => u = .bool r ∧ Ext w w')) := by
  unfold law01_awake at hS
  refine fn_ok (vs := []) Try.func11 rfl 81 Try.ntmps11 (Nat.le_of_ble_eq_true rfl) ?_
  intro a hf
  replace hf := Fr.cast (L' := []) hf (by kernel_rfl)
  have hE := Ext.rfl' w
  refine sq ?_
  refine reg ?_
  refine st tbOk 1 [] (L' := []) hf (by kernel_rfl) ?_
  clear hf; clear a; intro a hf
  refine wpList_nil ?_
  refine sq ?_
  refine reg ?_
  refine bs tbOk u22 i5 rfl (t := (tI .u8)) (vs := [(0, .int .u8 1), (1, .int .u8 2), (2, .int .u8 3), (3, .int .u8 4)]) (cells := #[.int .u8 1, .int .u8 2, .int .u8 3, .int .u8 4]) ([1, 2, 3, 4] : List Int) hf (by kernel_rfl) (by kernel_rfl) (by kernel_rfl) rfl (by kernel_rfl) (reps_flat _) rfl ?_
  clear hf; clear a; intro w1 a ho1 hx hz hf
  replace ho1 := ho1.base hE.size
  replace hE := hE.tr hx
  replace hf := Fr.keep (ks := [12]) (L' := [(12, .slice (some ⟨w.heap.size, 0, none⟩) ([1, 2, 3, 4] : List Int).length ([1, 2, 3, 4] : List Int).length)]) hf (by kernel_rfl)
  have hT := of_bd hS; clear hS; obtain ⟨z1, hz1, hS⟩ := hT
  refine cl ent12 (vs := [.slice (some ⟨w.heap.size, 0, none⟩) ([1, 2, 3, 4] : List Int).length ([1, 2, 3, 4] : List Int).length, .int .u64 1, .int .i64 2]) hf (by kernel_rfl) (by kernel_rfl) (by kernel_rfl) (octets_Get_ok (ho1.ro (mt_le _)) hz1) ?_
  clear hf; clear a; intro v w2 a hT hf; obtain ⟨rfl, hx⟩ := hT
  replace hE := hE.tr hx
  replace ho1 := ho1.ext hx
  replace hf := Fr.keep (ks := [13]) (L' := [(13, .tuple #[.int .u64 z1.1, .int .i64 z1.2])]) hf (by kernel_rfl)
  refine st tbOk 5 [1, 2] (L' := [(1, .int .u64 z1.1), (2, .int .i64 z1.2)]) hf (by kernel_rfl) ?_
  clear hf; clear a; intro a hf
  refine wpList_nil ?_
  refine sq ?_
  refine reg ?_
  refine bs tbOk u22 i5 rfl (t := (tI .u8)) (vs := [(0, .int .u8 1), (1, .int .u8 2), (2, .int .u8 3)]) (cells := #[.int .u8 1, .int .u8 2, .int .u8 3]) ([1, 2, 3] : List Int) hf (by kernel_rfl) (by kernel_rfl) (by kernel_rfl) rfl (by kernel_rfl) (reps_flat _) rfl ?_
  clear hf; clear a; intro w3 a ho2 hx hz hf
  have dj1 := Dj.new ho1 ho2
  replace ho2 := ho2.base hE.size
  replace hE := hE.tr hx
  replace ho1 := ho1.ext hx
  replace hf := Fr.keep (ks := [1, 2, 17]) (L' := [(1, .int .u64 z1.1), (2, .int .i64 z1.2), (17, .slice (some ⟨w2.heap.size, 0, none⟩) ([1, 2, 3] : List Int).length ([1, 2, 3] : List Int).length)]) hf (by kernel_rfl)
  have hT := of_bd hS; clear hS; obtain ⟨z2, hz2, hS⟩ := hT
  refine cl ent14 (vs := [.slice (some ⟨w2.heap.size, 0, none⟩) ([1, 2, 3] : List Int).length ([1, 2, 3] : List Int).length, .int .u64 1, .int .i64 2, .int .u64 513]) hf (by kernel_rfl) (by kernel_rfl) (by kernel_rfl) (octets_Set_ok (ho2.ro (mt_le _)) hz2) ?_
  clear hf; clear a; intro v w4 a hT hf; obtain ⟨ao1, cp1, rfl, hx, ho3⟩ := hT
  have dj2 := Dj.new ho1 ho3
  have dj3 := Dj.new ho2 ho3
  replace ho3 := ho3.base hE.size
  replace hE := hE.tr hx
  replace ho1 := ho1.ext hx
  replace ho2 := ho2.ext hx
  replace hf := Fr.keep (ks := [1, 2, 18]) (L' := [(1, .int .u64 z1.1), (2, .int .i64 z1.2), (18, .tuple #[.slice ao1 z2.1.length cp1, .int .i64 z2.2])]) hf (by kernel_rfl)
  refine st tbOk 5 [1, 2, 3, 4] (L' := [(1, .int .u64 z1.1), (2, .int .i64 z1.2), (3, .slice ao1 z2.1.length cp1), (4, .int .i64 z2.2)]) hf (by kernel_rfl) ?_
  clear hf; clear a; intro a hf
  refine wpList_nil ?_
  refine sq ?_
  refine reg ?_
  refine bs tbOk u22 i5 rfl (t := (tI .u8)) (vs := [(0, .int .u8 1), (1, .int .u8 2), (2, .int .u8 3)]) (cells := #[.int .u8 1, .int .u8 2, .int .u8 3]) ([1, 2, 3] : List Int) hf (by kernel_rfl) (by kernel_rfl) (by kernel_rfl) rfl (by kernel_rfl) (reps_flat _) rfl ?_
  clear hf; clear a; intro w5 a ho4 hx hz hf
  have dj4 := Dj.new ho1 ho4
  have dj5 := Dj.new ho2 ho4
  have dj6 := Dj.new ho3 ho4
  replace ho4 := ho4.base hE.size
  replace hE := hE.tr hx
  replace ho1 := ho1.ext hx
  replace ho2 := ho2.ext hx
  replace ho3 := ho3.ext hx
  replace hf := Fr.keep (ks := [1, 2, 3, 4, 22]) (L' := [(1, .int .u64 z1.1), (2, .int .i64 z1.2), (3, .slice ao1 z2.1.length cp1), (4, .int .i64 z2.2), (22, .slice (some ⟨w4.heap.size, 0, none⟩) ([1, 2, 3] : List Int).length ([1, 2, 3] : List Int).length)]) hf (by kernel_rfl)
  have hT := of_bd hS; clear hS; obtain ⟨z3, hz3, hS⟩ := hT
  refine cl ent16 (vs := [.slice (some ⟨w4.heap.size, 0, none⟩) ([1, 2, 3] : List Int).length ([1, 2, 3] : List Int).length, .int .u64 1, .int .u64 2]) hf (by kernel_rfl) (by kernel_rfl) (by kernel_rfl) (octets_Cut_ok (ho4.ro (mt_le _)) hz3) ?_
  clear hf; clear a; intro v w6 a hT hf; obtain ⟨ao2, cp2, rfl, hx, ho5⟩ := hT
  have dj7 := Dj.new ho1 ho5
  have dj8 := Dj.new ho2 ho5
  have dj9 := Dj.new ho3 ho5
  have dj10 := Dj.new ho4 ho5
  replace ho5 := ho5.base hE.size
  replace hE := hE.tr hx
  replace ho1 := ho1.ext hx
  replace ho2 := ho2.ext hx
  replace ho3 := ho3.ext hx
  replace ho4 := ho4.ext hx
  replace hf := Fr.keep (ks := [1, 2, 3, 4, 23]) (L' := [(1, .int .u64 z1.1), (2, .int .i64 z1.2), (3, .slice ao1 z2.1.length cp1), (4, .int .i64 z2.2), (23, .tuple #[.slice ao2 z3.1.length cp2, .int .i64 z3.2])]) hf (by kernel_rfl)
  refine st tbOk 5 [1, 2, 3, 4, 5, 6] (L' := [(1, .int .u64 z1.1), (2, .int .i64 z1.2), (3, .slice ao1 z2.1.length cp1), (4, .int .i64 z2.2), (5, .slice ao2 z3.1.length cp2), (6, .int .i64 z3.2)]) hf (by kernel_rfl) ?_
  clear hf; clear a; intro a hf
  refine wpList_nil ?_
  refine sq ?_
  refine reg ?_
  have hT := of_bd hS; clear hS; obtain ⟨z4, hz4, hS⟩ := hT
  refine cl ent18 (vs := [.int .u64 257, .int .u64 256]) hf (by kernel_rfl) (by kernel_rfl) (by kernel_rfl) (octets_Up_ok  hz4) ?_
  clear hf; clear a; intro v w7 a hT hf; obtain ⟨rfl, hx⟩ := hT
  replace hE := hE.tr hx
  replace ho1 := ho1.ext hx
  replace ho2 := ho2.ext hx
  replace ho3 := ho3.ext hx
  replace ho4 := ho4.ext hx
  replace ho5 := ho5.ext hx
  replace hf := Fr.keep (ks := [1, 2, 3, 4, 5, 6, 27]) (L' := [(1, .int .u64 z1.1), (2, .int .i64 z1.2), (3, .slice ao1 z2.1.length cp1), (4, .int .i64 z2.2), (5, .slice ao2 z3.1.length cp2), (6, .int .i64 z3.2), (27, .tuple #[.int .u64 z4.1, .int .i64 z4.2])]) hf (by kernel_rfl)
  refine st tbOk 5 [1, 2, 3, 4, 5, 6, 7, 8] (L' := [(1, .int .u64 z1.1), (2, .int .i64 z1.2), (3, .slice ao1 z2.1.length cp1), (4, .int .i64 z2.2), (5, .slice ao2 z3.1.length cp2), (6, .int .i64 z3.2), (7, .int .u64 z4.1), (8, .int .i64 z4.2)]) hf (by kernel_rfl) ?_
  clear hf; clear a; intro a hf
  refine wpList_nil ?_
  refine sq ?_
  refine reg ?_
  have hT := of_bd hS; clear hS; obtain ⟨z5, hz5, hS⟩ := hT
  refine cl ent20 (vs := [.int .u64 257, .int .u64 256]) hf (by kernel_rfl) (by kernel_rfl) (by kernel_rfl) (octets_Down_ok  hz5) ?_
  clear hf; clear a; intro v w8 a hT hf; obtain ⟨rfl, hx⟩ := hT
  replace hE := hE.tr hx
  replace ho1 := ho1.ext hx
  replace ho2 := ho2.ext hx
  replace ho3 := ho3.ext hx
  replace ho4 := ho4.ext hx
  replace ho5 := ho5.ext hx
  replace hf := Fr.keep (ks := [1, 2, 3, 4, 5, 6, 7, 8, 31]) (L' := [(1, .int .u64 z1.1), (2, .int .i64 z1.2), (3, .slice ao1 z2.1.length cp1), (4, .int .i64 z2.2), (5, .slice ao2 z3.1.length cp2), (6, .int .i64 z3.2), (7, .int .u64 z4.1), (8, .int .i64 z4.2), (31, .tuple #[.int .u64 z5.1, .int .i64 z5.2])]) hf (by kernel_rfl)
  refine st tbOk 5 [1, 2, 3, 4, 5, 6, 7, 8, 9, 10] (L' := [(1, .int .u64 z1.1), (2, .int .i64 z1.2), (3, .slice ao1 z2.1.length cp1), (4, .int .i64 z2.2), (5, .slice ao2 z3.1.length cp2), (6, .int .i64 z3.2), (7, .int .u64 z4.1), (8, .int .i64 z4.2), (9, .int .u64 z5.1), (10, .int .i64 z5.2)]) hf (by kernel_rfl) ?_
  clear hf; clear a; intro a hf
  refine wpList_nil ?_
  refine sq ?_
  refine ctj (fun (s1 : Bool) (a : Act) (w' : World) => Ext w w' ∧ Fr 81 [(0, .bool s1)] a) hS ?_ ?_
  · clear hS hf; clear a; clear hE; intro s1 a w11 hM hS
    obtain ⟨hE, hf⟩ := hM
    have hr := Option.some.inj hS; subst hr
    refine wp_ret ?_
    exact ret_ok hf (vs := [.bool s1]) (by kernel_rfl) ⟨rfl, hE⟩
  · clear hS; intro KK1 k1 hK1 hS
    refine reg ?_
    refine st tbOk 3 [2, 3, 4, 5, 6, 7, 8, 9, 10, 36] (L' := [(2, .int .i64 z1.2), (3, .slice ao1 z2.1.length cp1), (4, .int .i64 z2.2), (5, .slice ao2 z3.1.length cp2), (6, .int .i64 z3.2), (7, .int .u64 z4.1), (8, .int .i64 z4.2), (9, .int .u64 z5.1), (10, .int .i64 z5.2), (36, .bool (z1.1 == 770))]) hf (by kernel_rfl) ?_
    clear hf; clear a; intro a hf
    rcases Bool.eq_false_or_eq_true (z1.1 == 770) with hb1 | hb1
    · replace hS := of_t hb1 hS
      replace hf := Fr.cast (L' := [(2, .int .i64 z1.2), (3, .slice ao1 z2.1.length cp1), (4, .int .i64 z2.2), (5, .slice ao2 z3.1.length cp2), (6, .int .i64 z3.2), (7, .int .u64 z4.1), (8, .int .i64 z4.2), (9, .int .u64 z5.1), (10, .int .i64 z5.2), (36, .bool true)]) hf (by rw [hb1])
      refine st tbOk 4 [3, 4, 5, 6, 7, 8, 9, 10, 40] (L' := [(3, .slice ao1 z2.1.length cp1), (4, .int .i64 z2.2), (5, .slice ao2 z3.1.length cp2), (6, .int .i64 z3.2), (7, .int .u64 z4.1), (8, .int .i64 z4.2), (9, .int .u64 z5.1), (10, .int .i64 z5.2), (40, .bool (z1.2 == 0))]) hf (by kernel_rfl) ?_
      clear hf; clear a; intro a hf
      rcases Bool.eq_false_or_eq_true (z1.2 == 0) with hb2 | hb2
      · replace hS := of_t hb2 hS
        replace hf := Fr.cast (L' := [(3, .slice ao1 z2.1.length cp1), (4, .int .i64 z2.2), (5, .slice ao2 z3.1.length cp2), (6, .int .i64 z3.2), (7, .int .u64 z4.1), (8, .int .i64 z4.2), (9, .int .u64 z5.1), (10, .int .i64 z5.2), (40, .bool true)]) hf (by rw [hb2])
        refine st tbOk 1 [4, 5, 6, 7, 8, 9, 10, 40, 41] (L' := [(4, .int .i64 z2.2), (5, .slice ao2 z3.1.length cp2), (6, .int .i64 z3.2), (7, .int .u64 z4.1), (8, .int .i64 z4.2), (9, .int .u64 z5.1), (10, .int .i64 z5.2), (40, .bool true), (41, .slice ao1 z2.1.length cp1)]) hf (by kernel_rfl) ?_
        clear hf; clear a; intro a hf
        refine b2s tbOk u22 u5 u9 (ho3.ro (mt_le _)) (LeH.refl _) hf (by kernel_rfl) (by kernel_rfl) (by kernel_rfl) ?_
        clear hf; clear a; intro a hf
        replace hf := Fr.keep (ks := [4, 5, 6, 7, 8, 9, 10, 40, 42]) (L' := [(4, .int .i64 z2.2), (5, .slice ao2 z3.1.length cp2), (6, .int .i64 z3.2), (7, .int .u64 z4.1), (8, .int .i64 z4.2), (9, .int .u64 z5.1), (10, .int .i64 z5.2), (40, .bool true), (42, strV (toStr z2.1))]) hf (by kernel_rfl)
        refine st tbOk 3 [4, 5, 6, 7, 8, 9, 10, 45] (L' := [(4, .int .i64 z2.2), (5, .slice ao2 z3.1.length cp2), (6, .int .i64 z3.2), (7, .int .u64 z4.1), (8, .int .i64 z4.2), (9, .int .u64 z5.1), (10, .int .i64 z5.2), (45, .bool ((toStr z2.1) == [1, 1, 2]))]) hf (by kernel_rfl) ?_
        clear hf; clear a; intro a hf
        rcases Bool.eq_false_or_eq_true ((toStr z2.1) == [1, 1, 2]) with hb3 | hb3
        · replace hS := of_t hb3 hS
          replace hf := Fr.cast (L' := [(4, .int .i64 z2.2), (5, .slice ao2 z3.1.length cp2), (6, .int .i64 z3.2), (7, .int .u64 z4.1), (8, .int .i64 z4.2), (9, .int .u64 z5.1), (10, .int .i64 z5.2), (45, .bool true)]) hf (by rw [hb3])
          refine st tbOk 4 [5, 6, 7, 8, 9, 10, 49] (L' := [(5, .slice ao2 z3.1.length cp2), (6, .int .i64 z3.2), (7, .int .u64 z4.1), (8, .int .i64 z4.2), (9, .int .u64 z5.1), (10, .int .i64 z5.2), (49, .bool (z2.2 == 0))]) hf (by kernel_rfl) ?_
          clear hf; clear a; intro a hf
          rcases Bool.eq_false_or_eq_true (z2.2 == 0) with hb4 | hb4
          · replace hS := of_t hb4 hS
            replace hf := Fr.cast (L' := [(5, .slice ao2 z3.1.length cp2), (6, .int .i64 z3.2), (7, .int .u64 z4.1), (8, .int .i64 z4.2), (9, .int .u64 z5.1), (10, .int .i64 z5.2), (49, .bool true)]) hf (by rw [hb4])
            refine st tbOk 1 [6, 7, 8, 9, 10, 49, 50] (L' := [(6, .int .i64 z3.2), (7, .int .u64 z4.1), (8, .int .i64 z4.2), (9, .int .u64 z5.1), (10, .int .i64 z5.2), (49, .bool true), (50, .slice ao2 z3.1.length cp2)]) hf (by kernel_rfl) ?_
            clear hf; clear a; intro a hf
            refine b2s tbOk u22 u5 u9 (ho5.ro (mt_le _)) (LeH.refl _) hf (by kernel_rfl) (by kernel_rfl) (by kernel_rfl) ?_
            clear hf; clear a; intro a hf
            replace hf := Fr.keep (ks := [6, 7, 8, 9, 10, 49, 51]) (L' := [(6, .int .i64 z3.2), (7, .int .u64 z4.1), (8, .int .i64 z4.2), (9, .int .u64 z5.1), (10, .int .i64 z5.2), (49, .bool true), (51, strV (toStr z3.1))]) hf (by kernel_rfl)
            refine st tbOk 3 [6, 7, 8, 9, 10, 54] (L' := [(6, .int .i64 z3.2), (7, .int .u64 z4.1), (8, .int .i64 z4.2), (9, .int .u64 z5.1), (10, .int .i64 z5.2), (54, .bool ((toStr z3.1) == [2, 3]))]) hf (by kernel_rfl) ?_
            clear hf; clear a; intro a hf
            rcases Bool.eq_false_or_eq_true ((toStr z3.1) == [2, 3]) with hb5 | hb5
            · replace hS := of_t hb5 hS
              replace hf := Fr.cast (L' := [(6, .int .i64 z3.2), (7, .int .u64 z4.1), (8, .int .i64 z4.2), (9, .int .u64 z5.1), (10, .int .i64 z5.2), (54, .bool true)]) hf (by rw [hb5])
              refine st tbOk 4 [7, 8, 9, 10, 58] (L' := [(7, .int .u64 z4.1), (8, .int .i64 z4.2), (9, .int .u64 z5.1), (10, .int .i64 z5.2), (58, .bool (z3.2 == 0))]) hf (by kernel_rfl) ?_
              clear hf; clear a; intro a hf
              rcases Bool.eq_false_or_eq_true (z3.2 == 0) with hb6 | hb6
              · replace hS := of_t hb6 hS
                replace hf := Fr.cast (L' := [(7, .int .u64 z4.1), (8, .int .i64 z4.2), (9, .int .u64 z5.1), (10, .int .i64 z5.2), (58, .bool true)]) hf (by rw [hb6])
                refine st tbOk 4 [8, 9, 10, 62] (L' := [(8, .int .i64 z4.2), (9, .int .u64 z5.1), (10, .int .i64 z5.2), (62, .bool (z4.1 == 512))]) hf (by kernel_rfl) ?_
                clear hf; clear a; intro a hf
                rcases Bool.eq_false_or_eq_true (z4.1 == 512) with hb7 | hb7
                · replace hS := of_t hb7 hS
                  replace hf := Fr.cast (L' := [(8, .int .i64 z4.2), (9, .int .u64 z5.1), (10, .int .i64 z5.2), (62, .bool true)]) hf (by rw [hb7])
                  refine st tbOk 4 [9, 10, 66] (L' := [(9, .int .u64 z5.1), (10, .int .i64 z5.2), (66, .bool (z4.2 == 0))]) hf (by kernel_rfl) ?_
                  clear hf; clear a; intro a hf
                  rcases Bool.eq_false_or_eq_true (z4.2 == 0) with hb8 | hb8
                  · replace hS := of_t hb8 hS
                    replace hf := Fr.cast (L' := [(9, .int .u64 z5.1), (10, .int .i64 z5.2), (66, .bool true)]) hf (by rw [hb8])
                    refine st tbOk 4 [10, 70] (L' := [(10, .int .i64 z5.2), (70, .bool (z5.1 == 256))]) hf (by kernel_rfl) ?_
                    clear hf; clear a; intro a hf
                    rcases Bool.eq_false_or_eq_true (z5.1 == 256) with hb9 | hb9
                    · replace hS := of_t hb9 hS
                      replace hf := Fr.cast (L' := [(10, .int .i64 z5.2), (70, .bool true)]) hf (by rw [hb9])
                      refine st tbOk 4 [74] (L' := [(74, .bool (z5.2 == 0))]) hf (by kernel_rfl) ?_
                      clear hf; clear a; intro a hf
                      rcases Bool.eq_false_or_eq_true (z5.2 == 0) with hb10 | hb10
                      · replace hS := of_t hb10 hS
                        replace hf := Fr.cast (L' := [(74, .bool true)]) hf (by rw [hb10])
                        have hT := of_bd hS; clear hS; obtain ⟨z6, hz6, hS⟩ := hT
                        refine cl ent23 (vs := [.int .u64 0, .int .u64 6, .int .u64 5, .int .u64 2]) hf (by kernel_rfl) (by kernel_rfl) (by kernel_rfl) (octets_Meet_ok  hz6) ?_
                        clear hf; clear a; intro v w9 a hT hf; obtain ⟨rfl, hx⟩ := hT
                        replace hE := hE.tr hx
                        replace ho1 := ho1.ext hx
                        replace ho2 := ho2.ext hx
                        replace ho3 := ho3.ext hx
                        replace ho4 := ho4.ext hx
                        replace ho5 := ho5.ext hx
                        replace hf := Fr.keep (ks := [74, 75]) (L' := [(74, .bool true), (75, .bool z6)]) hf (by kernel_rfl)
                        refine st tbOk 2 [77] (L' := [(77, .bool z6)]) hf (by kernel_rfl) ?_
                        clear hf; clear a; intro a hf
                        rcases Bool.eq_false_or_eq_true (z6) with hb11 | hb11
                        · replace hS := of_t hb11 hS
                          replace hf := Fr.cast (L' := [(77, .bool true)]) hf (by rw [hb11])
                          have hT := of_bd hS; clear hS; obtain ⟨z7, hz7, hS⟩ := hT
                          refine cl ent23 (vs := [.int .u64 0, .int .u64 5, .int .u64 5, .int .u64 2]) hf (by kernel_rfl) (by kernel_rfl) (by kernel_rfl) (octets_Meet_ok  hz7) ?_
                          clear hf; clear a; intro v w10 a hT hf; obtain ⟨rfl, hx⟩ := hT
                          replace hE := hE.tr hx
                          replace ho1 := ho1.ext hx
                          replace ho2 := ho2.ext hx
                          replace ho3 := ho3.ext hx
                          replace ho4 := ho4.ext hx
                          replace ho5 := ho5.ext hx
                          replace hf := Fr.keep (ks := [77, 78]) (L' := [(77, .bool true), (78, .bool z7)]) hf (by kernel_rfl)
                          refine st tbOk 3 [0] (L' := [(0, .bool (!z7))]) hf (by kernel_rfl) ?_
                          clear hf; clear a; intro a hf
                          refine wpList_nil ?_
                          exact hK1 (!z7) _ _ ⟨hE, hf.keep (ks := [0]) (by kernel_rfl)⟩ hS
                        · replace hS := of_f hb11 hS
                          replace hf := Fr.cast (L' := [(77, .bool false)]) hf (by rw [hb11])
                          refine st tbOk 4 [0] (L' := [(0, .bool false)]) hf (by kernel_rfl) ?_
                          clear hf; clear a; intro a hf
                          refine wpList_nil ?_
                          exact hK1 false _ _ ⟨hE, hf.keep (ks := [0]) (by kernel_rfl)⟩ hS
                      · replace hS := of_f hb10 hS
                        replace hf := Fr.cast (L' := [(74, .bool false)]) hf (by rw [hb10])
                        refine st tbOk 7 [0] (L' := [(0, .bool false)]) hf (by kernel_rfl) ?_
                        clear hf; clear a; intro a hf
                        refine wpList_nil ?_
                        exact hK1 false _ _ ⟨hE, hf.keep (ks := [0]) (by kernel_rfl)⟩ hS
                    · replace hS := of_f hb9 hS
                      replace hf := Fr.cast (L' := [(10, .int .i64 z5.2), (70, .bool false)]) hf (by rw [hb9])
                      refine st tbOk 11 [0] (L' := [(0, .bool false)]) hf (by kernel_rfl) ?_
                      clear hf; clear a; intro a hf
                      refine wpList_nil ?_
                      exact hK1 false _ _ ⟨hE, hf.keep (ks := [0]) (by kernel_rfl)⟩ hS
                  · replace hS := of_f hb8 hS
                    replace hf := Fr.cast (L' := [(9, .int .u64 z5.1), (10, .int .i64 z5.2), (66, .bool false)]) hf (by rw [hb8])
                    refine st tbOk 15 [0] (L' := [(0, .bool false)]) hf (by kernel_rfl) ?_
                    clear hf; clear a; intro a hf
                    refine wpList_nil ?_
                    exact hK1 false _ _ ⟨hE, hf.keep (ks := [0]) (by kernel_rfl)⟩ hS
                · replace hS := of_f hb7 hS
                  replace hf := Fr.cast (L' := [(8, .int .i64 z4.2), (9, .int .u64 z5.1), (10, .int .i64 z5.2), (62, .bool false)]) hf (by rw [hb7])
                  refine st tbOk 19 [0] (L' := [(0, .bool false)]) hf (by kernel_rfl) ?_
                  clear hf; clear a; intro a hf
                  refine wpList_nil ?_
                  exact hK1 false _ _ ⟨hE, hf.keep (ks := [0]) (by kernel_rfl)⟩ hS
              · replace hS := of_f hb6 hS
                replace hf := Fr.cast (L' := [(7, .int .u64 z4.1), (8, .int .i64 z4.2), (9, .int .u64 z5.1), (10, .int .i64 z5.2), (58, .bool false)]) hf (by rw [hb6])
                refine st tbOk 23 [0] (L' := [(0, .bool false)]) hf (by kernel_rfl) ?_
                clear hf; clear a; intro a hf
                refine wpList_nil ?_
                exact hK1 false _ _ ⟨hE, hf.keep (ks := [0]) (by kernel_rfl)⟩ hS
            · replace hS := of_f hb5 hS
              replace hf := Fr.cast (L' := [(6, .int .i64 z3.2), (7, .int .u64 z4.1), (8, .int .i64 z4.2), (9, .int .u64 z5.1), (10, .int .i64 z5.2), (54, .bool false)]) hf (by rw [hb5])
              refine st tbOk 27 [0] (L' := [(0, .bool false)]) hf (by kernel_rfl) ?_
              clear hf; clear a; intro a hf
              refine wpList_nil ?_
              exact hK1 false _ _ ⟨hE, hf.keep (ks := [0]) (by kernel_rfl)⟩ hS
          · replace hS := of_f hb4 hS
            replace hf := Fr.cast (L' := [(5, .slice ao2 z3.1.length cp2), (6, .int .i64 z3.2), (7, .int .u64 z4.1), (8, .int .i64 z4.2), (9, .int .u64 z5.1), (10, .int .i64 z5.2), (49, .bool false)]) hf (by rw [hb4])
            refine st tbOk 32 [0] (L' := [(0, .bool false)]) hf (by kernel_rfl) ?_
            clear hf; clear a; intro a hf
            refine wpList_nil ?_
            exact hK1 false _ _ ⟨hE, hf.keep (ks := [0]) (by kernel_rfl)⟩ hS
        · replace hS := of_f hb3 hS
          replace hf := Fr.cast (L' := [(4, .int .i64 z2.2), (5, .slice ao2 z3.1.length cp2), (6, .int .i64 z3.2), (7, .int .u64 z4.1), (8, .int .i64 z4.2), (9, .int .u64 z5.1), (10, .int .i64 z5.2), (45, .bool false)]) hf (by rw [hb3])
          refine st tbOk 36 [0] (L' := [(0, .bool false)]) hf (by kernel_rfl) ?_
          clear hf; clear a; intro a hf
          refine wpList_nil ?_
          exact hK1 false _ _ ⟨hE, hf.keep (ks := [0]) (by kernel_rfl)⟩ hS
      · replace hS := of_f hb2 hS
        replace hf := Fr.cast (L' := [(3, .slice ao1 z2.1.length cp1), (4, .int .i64 z2.2), (5, .slice ao2 z3.1.length cp2), (6, .int .i64 z3.2), (7, .int .u64 z4.1), (8, .int .i64 z4.2), (9, .int .u64 z5.1), (10, .int .i64 z5.2), (40, .bool false)]) hf (by rw [hb2])
        refine st tbOk 41 [0] (L' := [(0, .bool false)]) hf (by kernel_rfl) ?_
        clear hf; clear a; intro a hf
        refine wpList_nil ?_
        exact hK1 false _ _ ⟨hE, hf.keep (ks := [0]) (by kernel_rfl)⟩ hS
    · replace hS := of_f hb1 hS
      replace hf := Fr.cast (L' := [(2, .int .i64 z1.2), (3, .slice ao1 z2.1.length cp1), (4, .int .i64 z2.2), (5, .slice ao2 z3.1.length cp2), (6, .int .i64 z3.2), (7, .int .u64 z4.1), (8, .int .i64 z4.2), (9, .int .u64 z5.1), (10, .int .i64 z5.2), (36, .bool false)]) hf (by rw [hb1])
      refine st tbOk 45 [0] (L' := [(0, .bool false)]) hf (by kernel_rfl) ?_
      clear hf; clear a; intro a hf
      refine wpList_nil ?_
      exact hK1 false _ _ ⟨hE, hf.keep (ks := [0]) (by kernel_rfl)⟩ hS

theorem ref01_width_ok {w : World} {n : Int}  {r : Bool} (hS : ref01_width n = some r) :
    Calls Try.prog 25 #[.int .i64 n] w (Gives (fun u w' => u = .bool r ∧ Ext w w')) := by
  unfold ref01_width at hS
  refine fn_ok (vs := [.int .i64 n]) Try.func25 rfl 17 Try.ntmps25 (Nat.le_of_ble_eq_true rfl) ?_
  intro a hf
  replace hf := Fr.cast (L' := [(0, .int .i64 n)]) hf (by kernel_rfl)
  have hE := Ext.rfl' w
  refine sq ?_
  refine reg ?_
  refine st tbOk 1 [0] (L' := [(0, .int .i64 n)]) hf (by kernel_rfl) ?_
  clear hf; clear a; intro a hf
  refine wpList_nil ?_
  refine sq ?_
  refine ctj (fun (s1 : Bool) (a : Act) (w' : World) => Ext w w' ∧ Fr 17 [(2, .bool s1)] a) hS ?_ ?_
  · clear hS hf; clear a; clear hE; intro s1 a w1 hM hS
    obtain ⟨hE, hf⟩ := hM
    have hr := Option.some.inj hS; subst hr
    refine wp_ret ?_
    exact ret_ok hf (vs := [.bool s1]) (by kernel_rfl) ⟨rfl, hE⟩
  · clear hS; intro KK1 k1 hK1 hS
    refine reg ?_
    refine st tbOk 3 [0, 5] (L' := [(0, .int .i64 n), (5, .bool (n == 1))]) hf (by kernel_rfl) ?_
    clear hf; clear a; intro a hf
    rcases Bool.eq_false_or_eq_true (n == 1) with hb1 | hb1
    · replace hS := of_t hb1 hS
      replace hf := Fr.cast (L' := [(0, .int .i64 n), (5, .bool true)]) hf (by rw [hb1])
      refine st tbOk 12 [2] (L' := [(2, .bool true)]) hf (by kernel_rfl) ?_
      clear hf; clear a; intro a hf
      refine wpList_nil ?_
      exact hK1 true _ _ ⟨hE, hf.keep (ks := [2]) (by kernel_rfl)⟩ hS
    · replace hS := of_f hb1 hS
      replace hf := Fr.cast (L' := [(0, .int .i64 n), (5, .bool false)]) hf (by rw [hb1])
      refine st tbOk 4 [0, 9] (L' := [(0, .int .i64 n), (9, .bool (n == 2))]) hf (by kernel_rfl) ?_
      clear hf; clear a; intro a hf
      rcases Bool.eq_false_or_eq_true (n == 2) with hb2 | hb2
      · replace hS := of_t hb2 hS
        replace hf := Fr.cast (L' := [(0, .int .i64 n), (9, .bool true)]) hf (by rw [hb2])
        refine st tbOk 8 [2] (L' := [(2, .bool true)]) hf (by kernel_rfl) ?_
        clear hf; clear a; intro a hf
        refine wpList_nil ?_
        exact hK1 true _ _ ⟨hE, hf.keep (ks := [2]) (by kernel_rfl)⟩ hS
      · replace hS := of_f hb2 hS
        replace hf := Fr.cast (L' := [(0, .int .i64 n), (9, .bool false)]) hf (by rw [hb2])
        refine st tbOk 4 [0, 13] (L' := [(0, .int .i64 n), (13, .bool (n == 4))]) hf (by kernel_rfl) ?_
        clear hf; clear a; intro a hf
        rcases Bool.eq_false_or_eq_true (n == 4) with hb3 | hb3
        · replace hS := of_t hb3 hS
          replace hf := Fr.cast (L' := [(0, .int .i64 n), (13, .bool true)]) hf (by rw [hb3])
          refine st tbOk 4 [2] (L' := [(2, .bool true)]) hf (by kernel_rfl) ?_
          clear hf; clear a; intro a hf
          refine wpList_nil ?_
          exact hK1 true _ _ ⟨hE, hf.keep (ks := [2]) (by kernel_rfl)⟩ hS
        · replace hS := of_f hb3 hS
          replace hf := Fr.cast (L' := [(0, .int .i64 n), (13, .bool false)]) hf (by rw [hb3])
          refine st tbOk 4 [2] (L' := [(2, .bool (n == 8))]) hf (by kernel_rfl) ?_
          clear hf; clear a; intro a hf
          refine wpList_nil ?_
          exact hK1 (n == 8) _ _ ⟨hE, hf.keep (ks := [2]) (by kernel_rfl)⟩ hS

theorem ref01_Inside_ok {w : World} {p_many : Int} {p_at : Int} {size : Int}  {r : Bool} (hS : ref01_Inside p_many p_at size = some r) :
    Calls Try.prog 26 #[.int .i64 p_many, .int .u64 p_at, .int .u64 size] w (Gives (fun u w' => u = .bool r ∧ Ext w w')) := by
  unfold ref01_Inside at hS
  refine fn_ok (vs := [.int .i64 p_many, .int .u64 p_at, .int .u64 size]) Try.func26 rfl 17 Try.ntmps26 (Nat.le_of_ble_eq_true rfl) ?_
  intro a hf
  replace hf := Fr.cast (L' := [(0, .int .i64 p_many), (1, .int .u64 p_at), (2, .int .u64 size)]) hf (by kernel_rfl)
  have hE := Ext.rfl' w
  refine sq ?_
  refine reg ?_
  refine st tbOk 1 [0, 1, 2] (L' := [(0, .int .i64 p_many), (1, .int .u64 p_at), (2, .int .u64 size)]) hf (by kernel_rfl) ?_
  clear hf; clear a; intro a hf
  refine wpList_nil ?_
  refine sq ?_
  refine sq ?_
  refine reg ?_
  refine st tbOk 4 [0, 1, 2, 10] (L' := [(0, .int .i64 p_many), (1, .int .u64 p_at), (2, .int .u64 size), (10, .bool (decide (p_at > (IntKind.u64.wrap p_many))))]) hf (by kernel_rfl) ?_
  clear hf; clear a; intro a hf
  refine wpList_nil ?_
  refine cnd (b := decide (p_at > (IntKind.u64.wrap p_many))) hf (by kernel_rfl) (fun hb1 => ?_) (fun hb1 => ?_)
  · replace hS := of_t hb1 hS
    refine sq ?_
    refine reg ?_
    refine st tbOk 1 [6] (L' := [(6, .bool false)]) hf (by kernel_rfl) ?_
    clear hf; clear a; intro a hf
    refine wpList_nil ?_
    have hr := Option.some.inj hS; subst hr
    refine wp_ret ?_
    exact ret_ok hf (vs := [.bool false]) (by kernel_rfl) ⟨rfl, hE⟩
  · replace hS := of_f hb1 hS
    refine wp_skip ?_
    refine sq ?_
    refine reg ?_
    refine st tbOk 7 [6] (L' := [(6, .bool (decide (size ≤ (IntKind.u64.wrap ((IntKind.u64.wrap p_many) - p_at)))))]) hf (by kernel_rfl) ?_
    clear hf; clear a; intro a hf
    refine wpList_nil ?_
    have hr := Option.some.inj hS; subst hr
    refine wp_ret ?_
    exact ret_ok hf (vs := [.bool (decide (size ≤ (IntKind.u64.wrap ((IntKind.u64.wrap p_many) - p_at))))]) (by kernel_rfl) ⟨rfl, hE⟩

theorem ref01_Get_ok {w : World} {b : List Int} {p_at : Int} {n : Int} {v_b : Value} (h_b : RO (hp w) (tI .u8) v_b b) {r : Int × Int} (hS : ref01_Get b p_at n = some r) :
    Calls Try.prog 13 #[v_b, .int .u64 p_at, .int .i64 n] w (Gives (fun u w' => u = .tuple #[.int .u64 r.1, .int .i64 r.2] ∧ Ext w w')) := by
  obtain ⟨ao_b, cp_b, e_b⟩ := h_b.shape; subst e_b
  unfold ref01_Get at hS
  refine fn_ok (vs := [.slice ao_b b.length cp_b, .int .u64 p_at, .int .i64 n]) Try.func13 rfl 41 Try.ntmps13 (Nat.le_of_ble_eq_true rfl) ?_
  intro a hf
  replace hf := Fr.cast (L' := [(0, .slice ao_b b.length cp_b), (1, .int .u64 p_at), (2, .int .i64 n)]) hf (by kernel_rfl)
  have hE := Ext.rfl' w
  refine sq ?_
  refine reg ?_
  refine st tbOk 2 [0, 1, 2] (L' := [(0, .slice ao_b b.length cp_b), (1, .int .u64 p_at), (2, .int .i64 n)]) hf (by kernel_rfl) ?_
  clear hf; clear a; intro a hf
  refine wpList_nil ?_
  refine sq ?_
  refine reg ?_
  refine st tbOk 1 [0, 1, 2, 11] (L' := [(0, .slice ao_b b.length cp_b), (1, .int .u64 p_at), (2, .int .i64 n), (11, .int .i64 n)]) hf (by kernel_rfl) ?_
  clear hf; clear a; intro a hf
  have hT := of_bd hS; clear hS; obtain ⟨z1, hz1, hS⟩ := hT
  refine cl ent25 (vs := [.int .i64 n]) hf (by kernel_rfl) (by kernel_rfl) (by kernel_rfl) (ref01_width_ok  hz1) ?_
  clear hf; clear a; intro v w1 a hT hf; obtain ⟨rfl, hx⟩ := hT
  replace hE := hE.tr hx
  replace hf := Fr.keep (ks := [0, 1, 2, 12]) (L' := [(0, .slice ao_b b.length cp_b), (1, .int .u64 p_at), (2, .int .i64 n), (12, .bool z1)]) hf (by kernel_rfl)
  refine st tbOk 1 [0, 1, 2, 8] (L' := [(0, .slice ao_b b.length cp_b), (1, .int .u64 p_at), (2, .int .i64 n), (8, .bool z1)]) hf (by kernel_rfl) ?_
  clear hf; clear a; intro a hf
  refine wpList_nil ?_
  refine sq ?_
  refine sq ?_
  refine reg ?_
  refine st tbOk 2 [0, 1, 2, 14] (L' := [(0, .slice ao_b b.length cp_b), (1, .int .u64 p_at), (2, .int .i64 n), (14, .bool (!z1))]) hf (by kernel_rfl) ?_
  clear hf; clear a; intro a hf
  refine wpList_nil ?_
  refine cnd (b := !z1) hf (by kernel_rfl) (fun hb1 => ?_) (fun hb1 => ?_)
  · replace hS := of_t hb1 hS
    refine sq ?_
    refine reg ?_
    refine st tbOk 2 [6, 7] (L' := [(6, .int .u64 0), (7, .int .i64 1)]) hf (by kernel_rfl) ?_
    clear hf; clear a; intro a hf
    refine wpList_nil ?_
    have hr := Option.some.inj hS; subst hr
    refine wp_ret ?_
    exact ret_ok hf (vs := [.int .u64 0, .int .i64 1]) (by kernel_rfl) ⟨rfl, hE⟩
  · replace hS := of_f hb1 hS
    refine wp_skip ?_
    refine sq ?_
    refine reg ?_
    refine st tbOk 5 [0, 1, 2, 16, 17, 19] (L' := [(0, .slice ao_b b.length cp_b), (1, .int .u64 p_at), (2, .int .i64 n), (16, .int .i64 ((b.length : Nat) : Int)), (17, .int .u64 p_at), (19, .int .u64 (IntKind.u64.wrap n))]) hf (by kernel_rfl) ?_
    clear hf; clear a; intro a hf
    have hT := of_bd hS; clear hS; obtain ⟨z2, hz2, hS⟩ := hT
    refine cl ent26 (vs := [.int .i64 ((b.length : Nat) : Int), .int .u64 p_at, .int .u64 (IntKind.u64.wrap n)]) hf (by kernel_rfl) (by kernel_rfl) (by kernel_rfl) (ref01_Inside_ok  hz2) ?_
    clear hf; clear a; intro v w2 a hT hf; obtain ⟨rfl, hx⟩ := hT
    replace hE := hE.tr hx
    replace hf := Fr.keep (ks := [0, 1, 2, 20]) (L' := [(0, .slice ao_b b.length cp_b), (1, .int .u64 p_at), (2, .int .i64 n), (20, .bool z2)]) hf (by kernel_rfl)
    refine st tbOk 1 [0, 1, 2, 8] (L' := [(0, .slice ao_b b.length cp_b), (1, .int .u64 p_at), (2, .int .i64 n), (8, .bool z2)]) hf (by kernel_rfl) ?_
    clear hf; clear a; intro a hf
    refine wpList_nil ?_
    refine sq ?_
    refine sq ?_
    refine reg ?_
    refine st tbOk 2 [0, 1, 2, 22] (L' := [(0, .slice ao_b b.length cp_b), (1, .int .u64 p_at), (2, .int .i64 n), (22, .bool (!z2))]) hf (by kernel_rfl) ?_
    clear hf; clear a; intro a hf
    refine wpList_nil ?_
    refine cnd (b := !z2) hf (by kernel_rfl) (fun hb2 => ?_) (fun hb2 => ?_)
    · replace hS := of_t hb2 hS
      refine sq ?_
      refine reg ?_
      refine st tbOk 2 [6, 7] (L' := [(6, .int .u64 0), (7, .int .i64 10)]) hf (by kernel_rfl) ?_
      clear hf; clear a; intro a hf
      refine wpList_nil ?_
      have hr := Option.some.inj hS; subst hr
      refine wp_ret ?_
      exact ret_ok hf (vs := [.int .u64 0, .int .i64 10]) (by kernel_rfl) ⟨rfl, hE⟩
    · replace hS := of_f hb2 hS
      refine wp_skip ?_
      refine sq ?_
      refine reg ?_
      refine st tbOk 1 [0, 1, 2, 9] (L' := [(0, .slice ao_b b.length cp_b), (1, .int .u64 p_at), (2, .int .i64 n), (9, .int .u64 0)]) hf (by kernel_rfl) ?_
      clear hf; clear a; intro a hf
      refine wpList_nil ?_
      refine sq ?_
      refine sq ?_
      refine reg ?_
      have hT := of_let hS; clear hS; obtain ⟨i_1, hl1, hS⟩ := hT
      refine st tbOk 3 [0, 1, 9, 10] (L' := [(0, .slice ao_b b.length cp_b), (1, .int .u64 p_at), (9, .int .u64 0), (10, .int .i64 i_1)]) hf (by subst hl1; kernel_rfl) ?_
      clear hf; clear a; intro a hf
      refine wpList_nil ?_
      refine ctj (fun (s1 : Int) (a : Act) (w' : World) => Ext w w' ∧ Fr 41 [(9, .int .u64 s1)] a) hS ?_ ?_
      · clear hS hf; clear a; clear hE; intro s1 a w4 hM hS
        obtain ⟨hE, hf⟩ := hM
        refine sq ?_
        refine reg ?_
        refine st tbOk 3 [6, 7] (L' := [(6, .int .u64 s1), (7, .int .i64 0)]) hf (by kernel_rfl) ?_
        clear hf; clear a; intro a hf
        refine wpList_nil ?_
        have hr := Option.some.inj hS; subst hr
        refine wp_ret ?_
        exact ret_ok hf (vs := [.int .u64 s1, .int .i64 0]) (by kernel_rfl) ⟨rfl, hE⟩
      · clear hS; intro KK1 k1 hK1 hS
        refine blk ?_
        refine lp (st := (0, i_1)) (fun (s2 : Int × Int) (a : Act) (w' : World) => Ext w w' ∧ Fr 41 [(0, .slice ao_b b.length cp_b), (1, .int .u64 p_at), (9, .int .u64 s2.1), (10, .int .i64 s2.2)] a) ?_ ⟨hE, hf.keep (ks := [0, 1, 9, 10]) (by kernel_rfl)⟩ hS
        clear hS hf; clear a; clear hE
        intro rec1 KK2 hK2 s2 a w3 hM hS
        obtain ⟨hE, hf⟩ := hM
        refine sq ?_
        refine sq ?_
        refine reg ?_
        refine st tbOk 2 [0, 1, 9, 10, 26] (L' := [(0, .slice ao_b b.length cp_b), (1, .int .u64 p_at), (9, .int .u64 s2.1), (10, .int .i64 s2.2), (26, .bool (decide (s2.2 ≥ 0)))]) hf (by kernel_rfl) ?_
        clear hf; clear a; intro a hf
        refine wpList_nil ?_
        refine cnd (b := decide (s2.2 ≥ 0)) hf (by kernel_rfl) (fun hb3 => ?_) (fun hb3 => ?_)
        · replace hS := of_t hb3 hS
          refine wp_skip ?_
          refine sq ?_
          refine blk ?_
          refine reg ?_
          refine st tbOk 7 [0, 1, 10, 30, 31, 35] (L' := [(0, .slice ao_b b.length cp_b), (1, .int .u64 p_at), (10, .int .i64 s2.2), (30, .int .u64 (IntKind.u64.wrap (s2.1 * 256))), (31, .slice ao_b b.length cp_b), (35, .int .i64 (IntKind.i64.wrap ((IntKind.i64.wrap p_at) + s2.2)))]) hf (by kernel_rfl) ?_
          clear hf; clear a; intro a hf
          have hT := of_gd hS; clear hS; obtain ⟨hc1, hS⟩ := hT
          refine ix tbOk u22 i5 rfl rfl h_b (k := .i64) (n := IntKind.i64.wrap ((IntKind.i64.wrap p_at) + s2.2)) hc1 hf (by kernel_rfl) (by kernel_rfl) (by kernel_rfl) (by kernel_rfl) ?_
          clear hf; clear a; intro p1 c1 a hp1 hr1 hf
          obtain rfl : c1 = [.int .u8 (gt b (IntKind.i64.wrap ((IntKind.i64.wrap p_at) + s2.2)))] := hr1
          replace hf := Fr.keep (ks := [0, 1, 10, 30, 36]) (L' := [(0, .slice ao_b b.length cp_b), (1, .int .u64 p_at), (10, .int .i64 s2.2), (30, .int .u64 (IntKind.u64.wrap (s2.1 * 256))), (36, .pointer (some p1))]) hf (by kernel_rfl)
          refine ld tbOk u5 rfl hp1 hE.le hf (by kernel_rfl) (by kernel_rfl) (by kernel_rfl) ?_
          clear hf; clear a; intro a hf
          replace hf := Fr.keep (ks := [0, 1, 10, 30, 37]) (L' := [(0, .slice ao_b b.length cp_b), (1, .int .u64 p_at), (10, .int .i64 s2.2), (30, .int .u64 (IntKind.u64.wrap (s2.1 * 256))), (37, .int .u8 (gt b (IntKind.i64.wrap ((IntKind.i64.wrap p_at) + s2.2))))]) hf (by kernel_rfl)
          have hT := of_let hS; clear hS; obtain ⟨x_1, hl2, hS⟩ := hT
          refine st tbOk 3 [0, 1, 9, 10] (L' := [(0, .slice ao_b b.length cp_b), (1, .int .u64 p_at), (9, .int .u64 x_1), (10, .int .i64 s2.2)]) hf (by subst hl2; kernel_rfl) ?_
          clear hf; clear a; intro a hf
          refine wpList_nil ?_
          refine reg ?_
          have hT := of_let hS; clear hS; obtain ⟨i_2, hl3, hS⟩ := hT
          refine st tbOk 3 [0, 1, 9, 10] (L' := [(0, .slice ao_b b.length cp_b), (1, .int .u64 p_at), (9, .int .u64 x_1), (10, .int .i64 i_2)]) hf (by subst hl3; kernel_rfl) ?_
          clear hf; clear a; intro a hf
          refine wpList_nil ?_
          exact hK2 (x_1, i_2) _ _ ⟨hE, hf.keep (ks := [0, 1, 9, 10]) (by kernel_rfl)⟩ hS
        · replace hS := of_f hb3 hS
          refine wp_exit ?_
          exact hK1 s2.1 _ _ ⟨hE, hf.keep (ks := [9]) (by kernel_rfl)⟩ hS

theorem law01_OctetsGets_ok {w : World} {b : List Int} {p_at : Int} {n : Int} {v_b : Value} (h_b : RO (hp w) (tI .u8) v_b b) {r : Bool} (hS : law01_OctetsGets b p_at n = some r) :
    Calls Try.prog 3 #[v_b, .int .u64 p_at, .int .i64 n] w (Gives (fun u w' => u = .bool r ∧ Ext w w')) := by
  obtain ⟨ao_b, cp_b, e_b⟩ := h_b.shape; subst e_b
  unfold law01_OctetsGets at hS
  refine fn_ok (vs := [.slice ao_b b.length cp_b, .int .u64 p_at, .int .i64 n]) Try.func3 rfl 37 Try.ntmps3 (Nat.le_of_ble_eq_true rfl) ?_
  intro a hf
  replace hf := Fr.cast (L' := [(0, .slice ao_b b.length cp_b), (1, .int .u64 p_at), (2, .int .i64 n)]) hf (by kernel_rfl)
  have hE := Ext.rfl' w
  refine sq ?_
  refine reg ?_
  refine st tbOk 1 [0, 1, 2] (L' := [(0, .slice ao_b b.length cp_b), (1, .int .u64 p_at), (2, .int .i64 n)]) hf (by kernel_rfl) ?_
  clear hf; clear a; intro a hf
  refine wpList_nil ?_
  refine sq ?_
  refine reg ?_
  have hT := of_bd hS; clear hS; obtain ⟨z1, hz1, hS⟩ := hT
  refine cl ent11 (vs := []) hf (by kernel_rfl) (by kernel_rfl) (by kernel_rfl) (law01_awake_ok  hz1) ?_
  clear hf; clear a; intro v w1 a hT hf; obtain ⟨rfl, hx⟩ := hT
  replace hE := hE.tr hx
  replace hf := Fr.keep (ks := [0, 1, 2, 12]) (L' := [(0, .slice ao_b b.length cp_b), (1, .int .u64 p_at), (2, .int .i64 n), (12, .bool z1)]) hf (by kernel_rfl)
  refine st tbOk 1 [0, 1, 2, 7] (L' := [(0, .slice ao_b b.length cp_b), (1, .int .u64 p_at), (2, .int .i64 n), (7, .bool z1)]) hf (by kernel_rfl) ?_
  clear hf; clear a; intro a hf
  refine wpList_nil ?_
  refine sq ?_
  refine sq ?_
  refine reg ?_
  refine st tbOk 2 [0, 1, 2, 14] (L' := [(0, .slice ao_b b.length cp_b), (1, .int .u64 p_at), (2, .int .i64 n), (14, .bool (!z1))]) hf (by kernel_rfl) ?_
  clear hf; clear a; intro a hf
  refine wpList_nil ?_
  refine cnd (b := !z1) hf (by kernel_rfl) (fun hb1 => ?_) (fun hb1 => ?_)
  · replace hS := of_t hb1 hS
    refine sq ?_
    refine reg ?_
    refine st tbOk 1 [6] (L' := [(6, .bool false)]) hf (by kernel_rfl) ?_
    clear hf; clear a; intro a hf
    refine wpList_nil ?_
    have hr := Option.some.inj hS; subst hr
    refine wp_ret ?_
    exact ret_ok hf (vs := [.bool false]) (by kernel_rfl) ⟨rfl, hE⟩
  · replace hS := of_f hb1 hS
    refine wp_skip ?_
    refine sq ?_
    refine reg ?_
    refine st tbOk 3 [0, 1, 2, 16, 17, 18] (L' := [(0, .slice ao_b b.length cp_b), (1, .int .u64 p_at), (2, .int .i64 n), (16, .slice ao_b b.length cp_b), (17, .int .u64 p_at), (18, .int .i64 n)]) hf (by kernel_rfl) ?_
    clear hf; clear a; intro a hf
    have hT := of_bd hS; clear hS; obtain ⟨z2, hz2, hS⟩ := hT
    refine cl ent12 (vs := [.slice ao_b b.length cp_b, .int .u64 p_at, .int .i64 n]) hf (by kernel_rfl) (by kernel_rfl) (by kernel_rfl) (octets_Get_ok (h_b.mono hE.le) hz2) ?_
    clear hf; clear a; intro v w2 a hT hf; obtain ⟨rfl, hx⟩ := hT
    replace hE := hE.tr hx
    replace hf := Fr.keep (ks := [0, 1, 2, 19]) (L' := [(0, .slice ao_b b.length cp_b), (1, .int .u64 p_at), (2, .int .i64 n), (19, .tuple #[.int .u64 z2.1, .int .i64 z2.2])]) hf (by kernel_rfl)
    refine st tbOk 5 [0, 1, 2, 8, 9] (L' := [(0, .slice ao_b b.length cp_b), (1, .int .u64 p_at), (2, .int .i64 n), (8, .int .u64 z2.1), (9, .int .i64 z2.2)]) hf (by kernel_rfl) ?_
    clear hf; clear a; intro a hf
    refine wpList_nil ?_
    refine sq ?_
    refine reg ?_
    refine st tbOk 3 [8, 9, 23, 24, 25] (L' := [(8, .int .u64 z2.1), (9, .int .i64 z2.2), (23, .slice ao_b b.length cp_b), (24, .int .u64 p_at), (25, .int .i64 n)]) hf (by kernel_rfl) ?_
    clear hf; clear a; intro a hf
    have hT := of_bd hS; clear hS; obtain ⟨z3, hz3, hS⟩ := hT
    refine cl ent13 (vs := [.slice ao_b b.length cp_b, .int .u64 p_at, .int .i64 n]) hf (by kernel_rfl) (by kernel_rfl) (by kernel_rfl) (ref01_Get_ok (h_b.mono hE.le) hz3) ?_
    clear hf; clear a; intro v w3 a hT hf; obtain ⟨rfl, hx⟩ := hT
    replace hE := hE.tr hx
    replace hf := Fr.keep (ks := [8, 9, 26]) (L' := [(8, .int .u64 z2.1), (9, .int .i64 z2.2), (26, .tuple #[.int .u64 z3.1, .int .i64 z3.2])]) hf (by kernel_rfl)
    refine st tbOk 5 [8, 9, 10, 11] (L' := [(8, .int .u64 z2.1), (9, .int .i64 z2.2), (10, .int .u64 z3.1), (11, .int .i64 z3.2)]) hf (by kernel_rfl) ?_
    clear hf; clear a; intro a hf
    refine wpList_nil ?_
    refine sq ?_
    refine ctj (fun (s1 : Bool) (a : Act) (w' : World) => Ext w w' ∧ Fr 37 [(6, .bool s1)] a) hS ?_ ?_
    · clear hS hf; clear a; clear hE; intro s1 a w4 hM hS
      obtain ⟨hE, hf⟩ := hM
      have hr := Option.some.inj hS; subst hr
      refine wp_ret ?_
      exact ret_ok hf (vs := [.bool s1]) (by kernel_rfl) ⟨rfl, hE⟩
    · clear hS; intro KK1 k1 hK1 hS
      refine reg ?_
      refine st tbOk 4 [9, 11, 32] (L' := [(9, .int .i64 z2.2), (11, .int .i64 z3.2), (32, .bool (z2.1 == z3.1))]) hf (by kernel_rfl) ?_
      clear hf; clear a; intro a hf
      rcases Bool.eq_false_or_eq_true (z2.1 == z3.1) with hb2 | hb2
      · replace hS := of_t hb2 hS
        replace hf := Fr.cast (L' := [(9, .int .i64 z2.2), (11, .int .i64 z3.2), (32, .bool true)]) hf (by rw [hb2])
        refine st tbOk 5 [6] (L' := [(6, .bool (z2.2 == z3.2))]) hf (by kernel_rfl) ?_
        clear hf; clear a; intro a hf
        refine wpList_nil ?_
        exact hK1 (z2.2 == z3.2) _ _ ⟨hE, hf.keep (ks := [6]) (by kernel_rfl)⟩ hS
      · replace hS := of_f hb2 hS
        replace hf := Fr.cast (L' := [(9, .int .i64 z2.2), (11, .int .i64 z3.2), (32, .bool false)]) hf (by rw [hb2])
        refine st tbOk 5 [6] (L' := [(6, .bool false)]) hf (by kernel_rfl) ?_
        clear hf; clear a; intro a hf
        refine wpList_nil ?_
        exact hK1 false _ _ ⟨hE, hf.keep (ks := [6]) (by kernel_rfl)⟩ hS

theorem ref01_Set_ok {w : World} {b : List Int} {p_at : Int} {n : Int} {p_x : Int} {v_b : Value} (h_b : RO (hp w) (tI .u8) v_b b) {r : (List Int) × Int} (hS : ref01_Set b p_at n p_x = some r) :
    Calls Try.prog 15 #[v_b, .int .u64 p_at, .int .i64 n, .int .u64 p_x] w (Gives (fun u w' => ∃ (ao1 : Option Addr) (cp1 : Nat), u = .tuple #[.slice ao1 r.1.length cp1, .int .i64 r.2] ∧ Ext w w' ∧ Own w' w.heap.size mt 5 (tI .u8) (.slice ao1 r.1.length cp1) r.1)) := by
  obtain ⟨ao_b, cp_b, e_b⟩ := h_b.shape; subst e_b
  unfold ref01_Set at hS
  refine fn_ok (vs := [.slice ao_b b.length cp_b, .int .u64 p_at, .int .i64 n, .int .u64 p_x]) Try.func15 rfl 44 Try.ntmps15 (Nat.le_of_ble_eq_true rfl) ?_
  intro a hf
  replace hf := Fr.cast (L' := [(0, .slice ao_b b.length cp_b), (1, .int .u64 p_at), (2, .int .i64 n), (3, .int .u64 p_x)]) hf (by kernel_rfl)
  have hE := Ext.rfl' w
  refine sq ?_
  refine reg ?_
  refine st tbOk 2 [0, 1, 2, 3] (L' := [(0, .slice ao_b b.length cp_b), (1, .int .u64 p_at), (2, .int .i64 n), (3, .int .u64 p_x)]) hf (by kernel_rfl) ?_
  clear hf; clear a; intro a hf
  refine wpList_nil ?_
  refine sq ?_
  refine reg ?_
  refine st tbOk 3 [0, 1, 2, 3, 15, 16, 17] (L' := [(0, .slice ao_b b.length cp_b), (1, .int .u64 p_at), (2, .int .i64 n), (3, .int .u64 p_x), (15, .slice ao_b b.length cp_b), (16, .int .u64 p_at), (17, .int .i64 n)]) hf (by kernel_rfl) ?_
  clear hf; clear a; intro a hf
  have hT := of_bd hS; clear hS; obtain ⟨z1, hz1, hS⟩ := hT
  refine cl ent13 (vs := [.slice ao_b b.length cp_b, .int .u64 p_at, .int .i64 n]) hf (by kernel_rfl) (by kernel_rfl) (by kernel_rfl) (ref01_Get_ok h_b hz1) ?_
  clear hf; clear a; intro v w1 a hT hf; obtain ⟨rfl, hx⟩ := hT
  replace hE := hE.tr hx
  replace hf := Fr.keep (ks := [0, 1, 2, 3, 18]) (L' := [(0, .slice ao_b b.length cp_b), (1, .int .u64 p_at), (2, .int .i64 n), (3, .int .u64 p_x), (18, .tuple #[.int .u64 z1.1, .int .i64 z1.2])]) hf (by kernel_rfl)
  refine st tbOk 5 [0, 1, 2, 3, 11] (L' := [(0, .slice ao_b b.length cp_b), (1, .int .u64 p_at), (2, .int .i64 n), (3, .int .u64 p_x), (11, .int .i64 z1.2)]) hf (by kernel_rfl) ?_
  clear hf; clear a; intro a hf
  refine wpList_nil ?_
  refine sq ?_
  refine sq ?_
  refine reg ?_
  refine st tbOk 2 [0, 1, 2, 3, 11, 22] (L' := [(0, .slice ao_b b.length cp_b), (1, .int .u64 p_at), (2, .int .i64 n), (3, .int .u64 p_x), (11, .int .i64 z1.2), (22, .bool (z1.2 != 0))]) hf (by kernel_rfl) ?_
  clear hf; clear a; intro a hf
  refine wpList_nil ?_
  refine cnd (b := z1.2 != 0) hf (by kernel_rfl) (fun hb1 => ?_) (fun hb1 => ?_)
  · replace hS := of_t hb1 hS
    refine sq ?_
    refine reg ?_
    refine st tbOk 3 [8, 9] (L' := [(8, .slice none 0 0), (9, .int .i64 z1.2)]) hf (by kernel_rfl) ?_
    clear hf; clear a; intro a hf
    refine wpList_nil ?_
    have hr := Option.some.inj hS; subst hr
    refine wp_ret ?_
    exact ret_ok hf (vs := [.slice none 0 0, .int .i64 z1.2]) (by kernel_rfl) ⟨none, 0, rfl, hE, Own.nil _ _ _ _ _⟩
  · replace hS := of_f hb1 hS
    refine wp_skip ?_
    refine sq ?_
    refine reg ?_
    refine st tbOk 1 [0, 1, 2, 3, 12] (L' := [(0, .slice ao_b b.length cp_b), (1, .int .u64 p_at), (2, .int .i64 n), (3, .int .u64 p_x), (12, .slice none 0 0)]) hf (by kernel_rfl) ?_
    clear hf; clear a; intro a hf
    refine wpList_nil ?_
    refine sq ?_
    refine reg ?_
    refine st tbOk 2 [1, 2, 3, 24, 25] (L' := [(1, .int .u64 p_at), (2, .int .i64 n), (3, .int .u64 p_x), (24, .slice none 0 0), (25, .slice ao_b b.length cp_b)]) hf (by kernel_rfl) ?_
    clear hf; clear a; intro a hf
    have hT := of_gd hS; clear hS; obtain ⟨hc1, hS⟩ := hT
    have ho1 := Own.nil w1 w.heap.size mt 5 (tI .u8)
    refine ap tbOk u22 i5 rfl rfl rfl (flat_I .u8) rfl ho1 hE.size h_b hE.le hc1 hf (by kernel_rfl) (by kernel_rfl) (by kernel_rfl) (by kernel_rfl) ?_
    clear hf; clear a; intro ao1 cp1 w2 a ho2 hg hloc hf
    replace hE := hE.grow hg (fun k hk => (ho1.lt k hk).1)
    replace hf := Fr.keep (ks := [1, 2, 3, 26]) (L' := [(1, .int .u64 p_at), (2, .int .i64 n), (3, .int .u64 p_x), (26, .slice ao1 (([] : List Int) ++ b).length cp1)]) hf (by kernel_rfl)
    refine st tbOk 1 [1, 2, 3, 12] (L' := [(1, .int .u64 p_at), (2, .int .i64 n), (3, .int .u64 p_x), (12, .slice ao1 (([] : List Int) ++ b).length cp1)]) hf (by kernel_rfl) ?_
    clear hf; clear a; intro a hf
    refine wpList_nil ?_
    refine sq ?_
    refine sq ?_
    refine reg ?_
    refine st tbOk 1 [1, 2, 3, 12, 13] (L' := [(1, .int .u64 p_at), (2, .int .i64 n), (3, .int .u64 p_x), (12, .slice ao1 (([] : List Int) ++ b).length cp1), (13, .int .i64 0)]) hf (by kernel_rfl) ?_
    clear hf; clear a; intro a hf
    refine wpList_nil ?_
    refine ctj (fun (s1 : (List Int)) (a : Act) (w' : World) => ∃ (ao2 : Option Addr) (cp2 : Nat), Ext w w' ∧ Own w' w.heap.size mt 5 (tI .u8) (.slice ao2 s1.length cp2) s1 ∧ Fr 44 [(12, .slice ao2 s1.length cp2)] a) hS ?_ ?_
    · clear hS hf; clear a; clear hE; intro s1 a w5 hM hS
      obtain ⟨ao2, cp2, hE, ho3, hf⟩ := hM
      refine sq ?_
      refine reg ?_
      refine st tbOk 3 [8, 9] (L' := [(8, .slice ao2 s1.length cp2), (9, .int .i64 0)]) hf (by kernel_rfl) ?_
      clear hf; clear a; intro a hf
      refine wpList_nil ?_
      have hr := Option.some.inj hS; subst hr
      refine wp_ret ?_
      exact ret_ok hf (vs := [.slice ao2 s1.length cp2, .int .i64 0]) (by kernel_rfl) ⟨ao2, cp2, rfl, hE, ho3⟩
    · clear hS; intro KK1 k1 hK1 hS
      refine blk ?_
      refine lp (st := (p_x, (([] : List Int) ++ b), 0)) (fun (s2 : Int × (List Int) × Int) (a : Act) (w' : World) => ∃ (ao3 : Option Addr) (cp3 : Nat), Ext w w' ∧ Own w' w.heap.size mt 5 (tI .u8) (.slice ao3 s2.2.1.length cp3) s2.2.1 ∧ Fr 44 [(1, .int .u64 p_at), (2, .int .i64 n), (3, .int .u64 s2.1), (12, .slice ao3 s2.2.1.length cp3), (13, .int .i64 s2.2.2)] a) ?_ ⟨ao1, cp1, hE, ho2, hf.keep (ks := [1, 2, 3, 12, 13]) (by kernel_rfl)⟩ hS
      clear hS hf; clear a; clear hE
      intro rec1 KK2 hK2 s2 a w3 hM hS
      obtain ⟨ao3, cp3, hE, ho4, hf⟩ := hM
      refine sq ?_
      refine sq ?_
      refine reg ?_
      refine st tbOk 3 [1, 2, 3, 12, 13, 29] (L' := [(1, .int .u64 p_at), (2, .int .i64 n), (3, .int .u64 s2.1), (12, .slice ao3 s2.2.1.length cp3), (13, .int .i64 s2.2.2), (29, .bool (decide (s2.2.2 < n)))]) hf (by kernel_rfl) ?_
      clear hf; clear a; intro a hf
      refine wpList_nil ?_
      refine cnd (b := decide (s2.2.2 < n)) hf (by kernel_rfl) (fun hb2 => ?_) (fun hb2 => ?_)
      · replace hS := of_t hb2 hS
        refine wp_skip ?_
        refine sq ?_
        refine blk ?_
        refine sq ?_
        refine reg ?_
        refine st tbOk 8 [1, 2, 3, 12, 13, 32, 36, 39] (L' := [(1, .int .u64 p_at), (2, .int .i64 n), (3, .int .u64 s2.1), (12, .slice ao3 s2.2.1.length cp3), (13, .int .i64 s2.2.2), (32, .slice ao3 s2.2.1.length cp3), (36, .int .i64 (IntKind.i64.wrap ((IntKind.i64.wrap p_at) + s2.2.2))), (39, .int .u8 (IntKind.u8.wrap (Int.tmod s2.1 256)))]) hf (by kernel_rfl) ?_
        clear hf; clear a; intro a hf
        have hT := of_gd hS; clear hS; obtain ⟨hc2, hS⟩ := hT
        refine ixO tbOk u22 i5 ho4 (k := .i64) (n := IntKind.i64.wrap ((IntKind.i64.wrap p_at) + s2.2.2)) hc2 hf (by kernel_rfl) (by kernel_rfl) (by kernel_rfl) (by kernel_rfl) ?_
        clear hf; clear a; intro p1 a hp1 hf
        replace hf := Fr.keep (ks := [1, 2, 3, 12, 13, 39, 40]) (L' := [(1, .int .u64 p_at), (2, .int .i64 n), (3, .int .u64 s2.1), (12, .slice ao3 s2.2.1.length cp3), (13, .int .i64 s2.2.2), (39, .int .u8 (IntKind.u8.wrap (Int.tmod s2.1 256))), (40, .pointer (some p1))]) hf (by kernel_rfl)
        refine sto tbOk i5 rfl ho4 hc2 hp1 (u := .int .u8 (IntKind.u8.wrap (Int.tmod s2.1 256))) (yv := IntKind.u8.wrap (Int.tmod s2.1 256)) rfl rfl hf (by kernel_rfl) (by kernel_rfl) (by kernel_rfl) ?_
        clear hf; clear a; intro w4 a hN hg hz hf
        replace hE := hE.grow hg (fun k hk => (ho4.lt k hk).1)
        replace ho4 : Own w4 w.heap.size mt 5 (tI .u8) (.slice ao3 (s2.2.1.set (IntKind.i64.wrap ((IntKind.i64.wrap p_at) + s2.2.2)).toNat (IntKind.u8.wrap (Int.tmod s2.1 256))).length cp3) (s2.2.1.set (IntKind.i64.wrap ((IntKind.i64.wrap p_at) + s2.2.2)).toNat (IntKind.u8.wrap (Int.tmod s2.1 256))) := by simpa only [List.length_set] using hN
        clear hN; replace hf := Fr.cast (L' := [(1, .int .u64 p_at), (2, .int .i64 n), (3, .int .u64 s2.1), (12, .slice ao3 (s2.2.1.set (IntKind.i64.wrap ((IntKind.i64.wrap p_at) + s2.2.2)).toNat (IntKind.u8.wrap (Int.tmod s2.1 256))).length cp3), (13, .int .i64 s2.2.2), (39, .int .u8 (IntKind.u8.wrap (Int.tmod s2.1 256))), (40, .pointer (some p1))]) hf (by simp only [List.length_set])
        replace hf := Fr.keep (ks := [1, 2, 3, 12, 13]) (L' := [(1, .int .u64 p_at), (2, .int .i64 n), (3, .int .u64 s2.1), (12, .slice ao3 (s2.2.1.set (IntKind.i64.wrap ((IntKind.i64.wrap p_at) + s2.2.2)).toNat (IntKind.u8.wrap (Int.tmod s2.1 256))).length cp3), (13, .int .i64 s2.2.2)]) hf (by kernel_rfl)
        refine wpList_nil ?_
        refine reg ?_
        have hT := of_let hS; clear hS; obtain ⟨x_1, hl1, hS⟩ := hT
        refine st tbOk 3 [1, 2, 3, 12, 13] (L' := [(1, .int .u64 p_at), (2, .int .i64 n), (3, .int .u64 x_1), (12, .slice ao3 (s2.2.1.set (IntKind.i64.wrap ((IntKind.i64.wrap p_at) + s2.2.2)).toNat (IntKind.u8.wrap (Int.tmod s2.1 256))).length cp3), (13, .int .i64 s2.2.2)]) hf (by subst hl1; kernel_rfl) ?_
        clear hf; clear a; intro a hf
        refine wpList_nil ?_
        refine reg ?_
        have hT := of_let hS; clear hS; obtain ⟨i_1, hl2, hS⟩ := hT
        refine st tbOk 3 [1, 2, 3, 12, 13] (L' := [(1, .int .u64 p_at), (2, .int .i64 n), (3, .int .u64 x_1), (12, .slice ao3 (s2.2.1.set (IntKind.i64.wrap ((IntKind.i64.wrap p_at) + s2.2.2)).toNat (IntKind.u8.wrap (Int.tmod s2.1 256))).length cp3), (13, .int .i64 i_1)]) hf (by subst hl2; kernel_rfl) ?_
        clear hf; clear a; intro a hf
        refine wpList_nil ?_
        exact hK2 (x_1, (s2.2.1.set (IntKind.i64.wrap ((IntKind.i64.wrap p_at) + s2.2.2)).toNat (IntKind.u8.wrap (Int.tmod s2.1 256))), i_1) _ _ ⟨ao3, cp3, hE, ho4, hf.keep (ks := [1, 2, 3, 12, 13]) (by kernel_rfl)⟩ hS
      · replace hS := of_f hb2 hS
        refine wp_exit ?_
        exact hK1 s2.2.1 _ _ ⟨ao3, cp3, hE, ho4, hf.keep (ks := [12]) (by kernel_rfl)⟩ hS

theorem law01_OctetsSets_ok {w : World} {b : List Int} {p_at : Int} {n : Int} {p_x : Int} {v_b : Value} (h_b : RO (hp w) (tI .u8) v_b b) {r : Bool} (hS : law01_OctetsSets b p_at n p_x = some r) :
    Calls Try.prog 4 #[v_b, .int .u64 p_at, .int .i64 n, .int .u64 p_x] w (Gives (fun u w' => u = .bool r ∧ Ext w w')) := by
  obtain ⟨ao_b, cp_b, e_b⟩ := h_b.shape; subst e_b
  unfold law01_OctetsSets at hS
  refine fn_ok (vs := [.slice ao_b b.length cp_b, .int .u64 p_at, .int .i64 n, .int .u64 p_x]) Try.func4 rfl 72 Try.ntmps4 (Nat.le_of_ble_eq_true rfl) ?_
  intro a hf
  replace hf := Fr.cast (L' := [(0, .slice ao_b b.length cp_b), (1, .int .u64 p_at), (2, .int .i64 n), (3, .int .u64 p_x)]) hf (by kernel_rfl)
  have hE := Ext.rfl' w
  refine sq ?_
  refine reg ?_
  refine st tbOk 1 [0, 1, 2, 3] (L' := [(0, .slice ao_b b.length cp_b), (1, .int .u64 p_at), (2, .int .i64 n), (3, .int .u64 p_x)]) hf (by kernel_rfl) ?_
  clear hf; clear a; intro a hf
  refine wpList_nil ?_
  refine sq ?_
  refine reg ?_
  have hT := of_bd hS; clear hS; obtain ⟨z1, hz1, hS⟩ := hT
  refine cl ent11 (vs := []) hf (by kernel_rfl) (by kernel_rfl) (by kernel_rfl) (law01_awake_ok  hz1) ?_
  clear hf; clear a; intro v w1 a hT hf; obtain ⟨rfl, hx⟩ := hT
  replace hE := hE.tr hx
  replace hf := Fr.keep (ks := [0, 1, 2, 3, 17]) (L' := [(0, .slice ao_b b.length cp_b), (1, .int .u64 p_at), (2, .int .i64 n), (3, .int .u64 p_x), (17, .bool z1)]) hf (by kernel_rfl)
  refine st tbOk 1 [0, 1, 2, 3, 9] (L' := [(0, .slice ao_b b.length cp_b), (1, .int .u64 p_at), (2, .int .i64 n), (3, .int .u64 p_x), (9, .bool z1)]) hf (by kernel_rfl) ?_
  clear hf; clear a; intro a hf
  refine wpList_nil ?_
  refine sq ?_
  refine sq ?_
  refine reg ?_
  refine st tbOk 2 [0, 1, 2, 3, 19] (L' := [(0, .slice ao_b b.length cp_b), (1, .int .u64 p_at), (2, .int .i64 n), (3, .int .u64 p_x), (19, .bool (!z1))]) hf (by kernel_rfl) ?_
  clear hf; clear a; intro a hf
  refine wpList_nil ?_
  refine cnd (b := !z1) hf (by kernel_rfl) (fun hb1 => ?_) (fun hb1 => ?_)
  · replace hS := of_t hb1 hS
    refine sq ?_
    refine reg ?_
    refine st tbOk 1 [8] (L' := [(8, .bool false)]) hf (by kernel_rfl) ?_
    clear hf; clear a; intro a hf
    refine wpList_nil ?_
    have hr := Option.some.inj hS; subst hr
    refine wp_ret ?_
    exact ret_ok hf (vs := [.bool false]) (by kernel_rfl) ⟨rfl, hE⟩
  · replace hS := of_f hb1 hS
    refine wp_skip ?_
    refine sq ?_
    refine sq ?_
    refine reg ?_
    refine st tbOk 3 [0, 1, 2, 3, 22] (L' := [(0, .slice ao_b b.length cp_b), (1, .int .u64 p_at), (2, .int .i64 n), (3, .int .u64 p_x), (22, .bool (decide (((b.length : Nat) : Int) > 2000)))]) hf (by kernel_rfl) ?_
    clear hf; clear a; intro a hf
    refine wpList_nil ?_
    refine cnd (b := decide (((b.length : Nat) : Int) > 2000)) hf (by kernel_rfl) (fun hb2 => ?_) (fun hb2 => ?_)
    · replace hS := of_t hb2 hS
      refine sq ?_
      refine reg ?_
      refine st tbOk 1 [8] (L' := [(8, .bool true)]) hf (by kernel_rfl) ?_
      clear hf; clear a; intro a hf
      refine wpList_nil ?_
      have hr := Option.some.inj hS; subst hr
      refine wp_ret ?_
      exact ret_ok hf (vs := [.bool true]) (by kernel_rfl) ⟨rfl, hE⟩
    · replace hS := of_f hb2 hS
      refine wp_skip ?_
      refine sq ?_
      refine reg ?_
      refine st tbOk 1 [0, 1, 2, 3, 23] (L' := [(0, .slice ao_b b.length cp_b), (1, .int .u64 p_at), (2, .int .i64 n), (3, .int .u64 p_x), (23, .slice ao_b b.length cp_b)]) hf (by kernel_rfl) ?_
      clear hf; clear a; intro a hf
      refine b2s tbOk u22 u5 u9 h_b hE.le hf (by kernel_rfl) (by kernel_rfl) (by kernel_rfl) ?_
      clear hf; clear a; intro a hf
      replace hf := Fr.keep (ks := [0, 1, 2, 3, 24]) (L' := [(0, .slice ao_b b.length cp_b), (1, .int .u64 p_at), (2, .int .i64 n), (3, .int .u64 p_x), (24, strV (toStr b))]) hf (by kernel_rfl)
      have hT := of_let hS; clear hS; obtain ⟨was_1, hl1, hS⟩ := hT
      refine st tbOk 1 [0, 1, 2, 3, 10] (L' := [(0, .slice ao_b b.length cp_b), (1, .int .u64 p_at), (2, .int .i64 n), (3, .int .u64 p_x), (10, strV was_1)]) hf (by subst hl1; kernel_rfl) ?_
      clear hf; clear a; intro a hf
      refine wpList_nil ?_
      refine sq ?_
      refine reg ?_
      refine st tbOk 4 [0, 1, 2, 3, 10, 26, 27, 28, 29] (L' := [(0, .slice ao_b b.length cp_b), (1, .int .u64 p_at), (2, .int .i64 n), (3, .int .u64 p_x), (10, strV was_1), (26, .slice ao_b b.length cp_b), (27, .int .u64 p_at), (28, .int .i64 n), (29, .int .u64 p_x)]) hf (by kernel_rfl) ?_
      clear hf; clear a; intro a hf
      have hT := of_bd hS; clear hS; obtain ⟨z2, hz2, hS⟩ := hT
      refine cl ent14 (vs := [.slice ao_b b.length cp_b, .int .u64 p_at, .int .i64 n, .int .u64 p_x]) hf (by kernel_rfl) (by kernel_rfl) (by kernel_rfl) (octets_Set_ok (h_b.mono hE.le) hz2) ?_
      clear hf; clear a; intro v w2 a hT hf; obtain ⟨ao1, cp1, rfl, hx, ho1⟩ := hT
      replace ho1 := ho1.base hE.size
      replace hE := hE.tr hx
      replace hf := Fr.keep (ks := [0, 1, 2, 3, 10, 30]) (L' := [(0, .slice ao_b b.length cp_b), (1, .int .u64 p_at), (2, .int .i64 n), (3, .int .u64 p_x), (10, strV was_1), (30, .tuple #[.slice ao1 z2.1.length cp1, .int .i64 z2.2])]) hf (by kernel_rfl)
      refine st tbOk 5 [0, 1, 2, 3, 10, 11, 12] (L' := [(0, .slice ao_b b.length cp_b), (1, .int .u64 p_at), (2, .int .i64 n), (3, .int .u64 p_x), (10, strV was_1), (11, .slice ao1 z2.1.length cp1), (12, .int .i64 z2.2)]) hf (by kernel_rfl) ?_
      clear hf; clear a; intro a hf
      refine wpList_nil ?_
      refine sq ?_
      refine reg ?_
      refine st tbOk 4 [0, 10, 11, 12, 34, 35, 36, 37] (L' := [(0, .slice ao_b b.length cp_b), (10, strV was_1), (11, .slice ao1 z2.1.length cp1), (12, .int .i64 z2.2), (34, .slice ao_b b.length cp_b), (35, .int .u64 p_at), (36, .int .i64 n), (37, .int .u64 p_x)]) hf (by kernel_rfl) ?_
      clear hf; clear a; intro a hf
      have hT := of_bd hS; clear hS; obtain ⟨z3, hz3, hS⟩ := hT
      refine cl ent15 (vs := [.slice ao_b b.length cp_b, .int .u64 p_at, .int .i64 n, .int .u64 p_x]) hf (by kernel_rfl) (by kernel_rfl) (by kernel_rfl) (ref01_Set_ok (h_b.mono hE.le) hz3) ?_
      clear hf; clear a; intro v w3 a hT hf; obtain ⟨ao2, cp2, rfl, hx, ho2⟩ := hT
      have dj1 := Dj.new ho1 ho2
      replace ho2 := ho2.base hE.size
      replace hE := hE.tr hx
      replace ho1 := ho1.ext hx
      replace hf := Fr.keep (ks := [0, 10, 11, 12, 38]) (L' := [(0, .slice ao_b b.length cp_b), (10, strV was_1), (11, .slice ao1 z2.1.length cp1), (12, .int .i64 z2.2), (38, .tuple #[.slice ao2 z3.1.length cp2, .int .i64 z3.2])]) hf (by kernel_rfl)
      refine st tbOk 5 [0, 10, 11, 12, 13, 14] (L' := [(0, .slice ao_b b.length cp_b), (10, strV was_1), (11, .slice ao1 z2.1.length cp1), (12, .int .i64 z2.2), (13, .slice ao2 z3.1.length cp2), (14, .int .i64 z3.2)]) hf (by kernel_rfl) ?_
      clear hf; clear a; intro a hf
      refine wpList_nil ?_
      refine sq ?_
      refine ctj (fun (s1 : Bool) (a : Act) (w' : World) => Ext w w' ∧ Own w' w.heap.size mt 5 (tI .u8) (.slice ao1 z2.1.length cp1) z2.1 ∧ Fr 72 [(0, .slice ao_b b.length cp_b), (10, strV was_1), (11, .slice ao1 z2.1.length cp1), (15, .bool s1)] a) hS ?_ ?_
      · clear hS hf; clear a; clear hE; intro s1 a w4 hM hS
        obtain ⟨hE, ho1, hf⟩ := hM
        refine sq ?_
        refine sq ?_
        refine reg ?_
        refine st tbOk 1 [0, 10, 11, 15, 16] (L' := [(0, .slice ao_b b.length cp_b), (10, strV was_1), (11, .slice ao1 z2.1.length cp1), (15, .bool s1), (16, .int .i64 0)]) hf (by kernel_rfl) ?_
        clear hf; clear a; intro a hf
        refine wpList_nil ?_
        refine ctj (fun (s2 : Unit) (a : Act) (w' : World) => Ext w w' ∧ Fr 72 [(0, .slice ao_b b.length cp_b), (10, strV was_1), (15, .bool s1)] a) hS ?_ ?_
        · clear hS hf; clear a; clear hE; intro s2 a w7 hM hS
          obtain ⟨hE, hf⟩ := hM
          refine sq ?_
          refine ctj (fun (s4 : Bool) (a : Act) (w' : World) => Ext w w' ∧ Fr 72 [(8, .bool s4)] a) hS ?_ ?_
          · clear hS hf; clear a; clear hE; intro s4 a w8 hM hS
            obtain ⟨hE, hf⟩ := hM
            have hr := Option.some.inj hS; subst hr
            refine wp_ret ?_
            exact ret_ok hf (vs := [.bool s4]) (by kernel_rfl) ⟨rfl, hE⟩
          · clear hS; intro KK4 k3 hK4 hS
            refine reg ?_
            refine st tbOk 2 [0, 10, 66] (L' := [(0, .slice ao_b b.length cp_b), (10, strV was_1), (66, .bool s1)]) hf (by kernel_rfl) ?_
            clear hf; clear a; intro a hf
            rcases Bool.eq_false_or_eq_true (s1) with hb5 | hb5
            · replace hS := of_t hb5 hS
              replace hf := Fr.cast (L' := [(0, .slice ao_b b.length cp_b), (10, strV was_1), (66, .bool true)]) hf (by rw [hb5])
              refine st tbOk 1 [10, 66, 67] (L' := [(10, strV was_1), (66, .bool true), (67, .slice ao_b b.length cp_b)]) hf (by kernel_rfl) ?_
              clear hf; clear a; intro a hf
              refine b2s tbOk u22 u5 u9 h_b hE.le hf (by kernel_rfl) (by kernel_rfl) (by kernel_rfl) ?_
              clear hf; clear a; intro a hf
              replace hf := Fr.keep (ks := [10, 66, 68]) (L' := [(10, strV was_1), (66, .bool true), (68, strV (toStr b))]) hf (by kernel_rfl)
              refine st tbOk 4 [8] (L' := [(8, .bool ((toStr b) == was_1))]) hf (by kernel_rfl) ?_
              clear hf; clear a; intro a hf
              refine wpList_nil ?_
              exact hK4 ((toStr b) == was_1) _ _ ⟨hE, hf.keep (ks := [8]) (by kernel_rfl)⟩ hS
            · replace hS := of_f hb5 hS
              replace hf := Fr.cast (L' := [(0, .slice ao_b b.length cp_b), (10, strV was_1), (66, .bool false)]) hf (by rw [hb5])
              refine st tbOk 6 [8] (L' := [(8, .bool false)]) hf (by kernel_rfl) ?_
              clear hf; clear a; intro a hf
              refine wpList_nil ?_
              exact hK4 false _ _ ⟨hE, hf.keep (ks := [8]) (by kernel_rfl)⟩ hS
        · clear hS; intro KK2 k2 hK2 hS
          refine blk ?_
          refine lp (st := (z2.1, 0)) (fun (s3 : (List Int) × Int) (a : Act) (w' : World) => ∃ (ao3 : Option Addr) (cp3 : Nat), Ext w w' ∧ Own w' w.heap.size mt 5 (tI .u8) (.slice ao3 s3.1.length cp3) s3.1 ∧ Fr 72 [(0, .slice ao_b b.length cp_b), (10, strV was_1), (11, .slice ao3 s3.1.length cp3), (15, .bool s1), (16, .int .i64 s3.2)] a) ?_ ⟨ao1, cp1, hE, ho1, hf.keep (ks := [0, 10, 11, 15, 16]) (by kernel_rfl)⟩ hS
          clear hS hf; clear a; clear hE
          intro rec1 KK3 hK3 s3 a w5 hM hS
          obtain ⟨ao3, cp3, hE, ho3, hf⟩ := hM
          refine sq ?_
          refine sq ?_
          refine reg ?_
          refine st tbOk 4 [0, 10, 11, 15, 16, 54] (L' := [(0, .slice ao_b b.length cp_b), (10, strV was_1), (11, .slice ao3 s3.1.length cp3), (15, .bool s1), (16, .int .i64 s3.2), (54, .bool (decide (s3.2 < ((s3.1.length : Nat) : Int))))]) hf (by kernel_rfl) ?_
          clear hf; clear a; intro a hf
          refine wpList_nil ?_
          refine cnd (b := decide (s3.2 < ((s3.1.length : Nat) : Int))) hf (by kernel_rfl) (fun hb4 => ?_) (fun hb4 => ?_)
          · replace hS := of_t hb4 hS
            refine wp_skip ?_
            refine sq ?_
            refine blk ?_
            refine reg ?_
            refine st tbOk 4 [0, 10, 11, 15, 16, 57, 58, 59, 60] (L' := [(0, .slice ao_b b.length cp_b), (10, strV was_1), (11, .slice ao3 s3.1.length cp3), (15, .bool s1), (16, .int .i64 s3.2), (57, .slice ao3 s3.1.length cp3), (58, .int .i64 s3.2), (59, .slice ao3 s3.1.length cp3), (60, .int .i64 s3.2)]) hf (by kernel_rfl) ?_
            clear hf; clear a; intro a hf
            have hT := of_gd hS; clear hS; obtain ⟨hc1, hS⟩ := hT
            refine ix tbOk u22 i5 rfl rfl (ho3.ro (mt_le _)) (k := .i64) (n := s3.2) hc1 hf (by kernel_rfl) (by kernel_rfl) (by kernel_rfl) (by kernel_rfl) ?_
            clear hf; clear a; intro p1 c1 a hp1 hr1 hf
            obtain rfl : c1 = [.int .u8 (gt s3.1 s3.2)] := hr1
            replace hf := Fr.keep (ks := [0, 10, 11, 15, 16, 57, 58, 61]) (L' := [(0, .slice ao_b b.length cp_b), (10, strV was_1), (11, .slice ao3 s3.1.length cp3), (15, .bool s1), (16, .int .i64 s3.2), (57, .slice ao3 s3.1.length cp3), (58, .int .i64 s3.2), (61, .pointer (some p1))]) hf (by kernel_rfl)
            refine ld tbOk u5 rfl hp1 (LeH.refl _) hf (by kernel_rfl) (by kernel_rfl) (by kernel_rfl) ?_
            clear hf; clear a; intro a hf
            replace hf := Fr.keep (ks := [0, 10, 11, 15, 16, 57, 58, 62]) (L' := [(0, .slice ao_b b.length cp_b), (10, strV was_1), (11, .slice ao3 s3.1.length cp3), (15, .bool s1), (16, .int .i64 s3.2), (57, .slice ao3 s3.1.length cp3), (58, .int .i64 s3.2), (62, .int .u8 (gt s3.1 s3.2))]) hf (by kernel_rfl)
            refine st tbOk 1 [0, 10, 11, 15, 16, 57, 58, 63] (L' := [(0, .slice ao_b b.length cp_b), (10, strV was_1), (11, .slice ao3 s3.1.length cp3), (15, .bool s1), (16, .int .i64 s3.2), (57, .slice ao3 s3.1.length cp3), (58, .int .i64 s3.2), (63, .int .u8 (bxor .u8 (gt s3.1 s3.2) 255))]) hf (by kernel_rfl) ?_
            clear hf; clear a; intro a hf
            have hT := of_gd hS; clear hS; obtain ⟨hc2, hS⟩ := hT
            refine ixO tbOk u22 i5 ho3 (k := .i64) (n := s3.2) hc2 hf (by kernel_rfl) (by kernel_rfl) (by kernel_rfl) (by kernel_rfl) ?_
            clear hf; clear a; intro p2 a hp2 hf
            replace hf := Fr.keep (ks := [0, 10, 11, 15, 16, 63, 64]) (L' := [(0, .slice ao_b b.length cp_b), (10, strV was_1), (11, .slice ao3 s3.1.length cp3), (15, .bool s1), (16, .int .i64 s3.2), (63, .int .u8 (bxor .u8 (gt s3.1 s3.2) 255)), (64, .pointer (some p2))]) hf (by kernel_rfl)
            refine sto tbOk i5 rfl ho3 hc2 hp2 (u := .int .u8 (bxor .u8 (gt s3.1 s3.2) 255)) (yv := bxor .u8 (gt s3.1 s3.2) 255) rfl rfl hf (by kernel_rfl) (by kernel_rfl) (by kernel_rfl) ?_
            clear hf; clear a; intro w6 a hN hg hz hf
            replace hE := hE.grow hg (fun k hk => (ho3.lt k hk).1)
            replace ho3 : Own w6 w.heap.size mt 5 (tI .u8) (.slice ao3 (s3.1.set (s3.2).toNat (bxor .u8 (gt s3.1 s3.2) 255)).length cp3) (s3.1.set (s3.2).toNat (bxor .u8 (gt s3.1 s3.2) 255)) := by simpa only [List.length_set] using hN
            clear hN; replace hf := Fr.cast (L' := [(0, .slice ao_b b.length cp_b), (10, strV was_1), (11, .slice ao3 (s3.1.set (s3.2).toNat (bxor .u8 (gt s3.1 s3.2) 255)).length cp3), (15, .bool s1), (16, .int .i64 s3.2), (63, .int .u8 (bxor .u8 (gt s3.1 s3.2) 255)), (64, .pointer (some p2))]) hf (by simp only [List.length_set])
            replace hf := Fr.keep (ks := [0, 10, 11, 15, 16]) (L' := [(0, .slice ao_b b.length cp_b), (10, strV was_1), (11, .slice ao3 (s3.1.set (s3.2).toNat (bxor .u8 (gt s3.1 s3.2) 255)).length cp3), (15, .bool s1), (16, .int .i64 s3.2)]) hf (by kernel_rfl)
            refine wpList_nil ?_
            refine reg ?_
            have hT := of_let hS; clear hS; obtain ⟨i_1, hl3, hS⟩ := hT
            refine st tbOk 3 [0, 10, 11, 15, 16] (L' := [(0, .slice ao_b b.length cp_b), (10, strV was_1), (11, .slice ao3 (s3.1.set (s3.2).toNat (bxor .u8 (gt s3.1 s3.2) 255)).length cp3), (15, .bool s1), (16, .int .i64 i_1)]) hf (by subst hl3; kernel_rfl) ?_
            clear hf; clear a; intro a hf
            refine wpList_nil ?_
            exact hK3 ((s3.1.set (s3.2).toNat (bxor .u8 (gt s3.1 s3.2) 255)), i_1) _ _ ⟨ao3, cp3, hE, ho3, hf.keep (ks := [0, 10, 11, 15, 16]) (by kernel_rfl)⟩ hS
          · replace hS := of_f hb4 hS
            refine wp_exit ?_
            exact hK2 () _ _ ⟨hE, hf.keep (ks := [0, 10, 15]) (by kernel_rfl)⟩ hS
      · clear hS; intro KK1 k1 hK1 hS
        refine reg ?_
        refine st tbOk 4 [0, 10, 11, 13, 44] (L' := [(0, .slice ao_b b.length cp_b), (10, strV was_1), (11, .slice ao1 z2.1.length cp1), (13, .slice ao2 z3.1.length cp2), (44, .bool (z2.2 == z3.2))]) hf (by kernel_rfl) ?_
        clear hf; clear a; intro a hf
        rcases Bool.eq_false_or_eq_true (z2.2 == z3.2) with hb3 | hb3
        · replace hS := of_t hb3 hS
          replace hf := Fr.cast (L' := [(0, .slice ao_b b.length cp_b), (10, strV was_1), (11, .slice ao1 z2.1.length cp1), (13, .slice ao2 z3.1.length cp2), (44, .bool true)]) hf (by rw [hb3])
          refine st tbOk 1 [0, 10, 11, 13, 44, 45] (L' := [(0, .slice ao_b b.length cp_b), (10, strV was_1), (11, .slice ao1 z2.1.length cp1), (13, .slice ao2 z3.1.length cp2), (44, .bool true), (45, .slice ao1 z2.1.length cp1)]) hf (by kernel_rfl) ?_
          clear hf; clear a; intro a hf
          refine b2s tbOk u22 u5 u9 (ho1.ro (mt_le _)) (LeH.refl _) hf (by kernel_rfl) (by kernel_rfl) (by kernel_rfl) ?_
          clear hf; clear a; intro a hf
          replace hf := Fr.keep (ks := [0, 10, 11, 13, 44, 46]) (L' := [(0, .slice ao_b b.length cp_b), (10, strV was_1), (11, .slice ao1 z2.1.length cp1), (13, .slice ao2 z3.1.length cp2), (44, .bool true), (46, strV (toStr z2.1))]) hf (by kernel_rfl)
          refine st tbOk 1 [0, 10, 11, 44, 46, 47] (L' := [(0, .slice ao_b b.length cp_b), (10, strV was_1), (11, .slice ao1 z2.1.length cp1), (44, .bool true), (46, strV (toStr z2.1)), (47, .slice ao2 z3.1.length cp2)]) hf (by kernel_rfl) ?_
          clear hf; clear a; intro a hf
          refine b2s tbOk u22 u5 u9 (ho2.ro (mt_le _)) (LeH.refl _) hf (by kernel_rfl) (by kernel_rfl) (by kernel_rfl) ?_
          clear hf; clear a; intro a hf
          replace hf := Fr.keep (ks := [0, 10, 11, 44, 46, 48]) (L' := [(0, .slice ao_b b.length cp_b), (10, strV was_1), (11, .slice ao1 z2.1.length cp1), (44, .bool true), (46, strV (toStr z2.1)), (48, strV (toStr z3.1))]) hf (by kernel_rfl)
          have hT := of_let hS; clear hS; obtain ⟨one_1, hl2, hS⟩ := hT
          refine st tbOk 3 [0, 10, 11, 15] (L' := [(0, .slice ao_b b.length cp_b), (10, strV was_1), (11, .slice ao1 z2.1.length cp1), (15, .bool one_1)]) hf (by subst hl2; kernel_rfl) ?_
          clear hf; clear a; intro a hf
          refine wpList_nil ?_
          exact hK1 one_1 _ _ ⟨hE, ho1, hf.keep (ks := [0, 10, 11, 15]) (by kernel_rfl)⟩ hS
        · replace hS := of_f hb3 hS
          replace hf := Fr.cast (L' := [(0, .slice ao_b b.length cp_b), (10, strV was_1), (11, .slice ao1 z2.1.length cp1), (13, .slice ao2 z3.1.length cp2), (44, .bool false)]) hf (by rw [hb3])
          refine st tbOk 7 [0, 10, 11, 15] (L' := [(0, .slice ao_b b.length cp_b), (10, strV was_1), (11, .slice ao1 z2.1.length cp1), (15, .bool false)]) hf (by kernel_rfl) ?_
          clear hf; clear a; intro a hf
          refine wpList_nil ?_
          exact hK1 false _ _ ⟨hE, ho1, hf.keep (ks := [0, 10, 11, 15]) (by kernel_rfl)⟩ hS

theorem ref01_Cut_ok {w : World} {b : List Int} {p_at : Int} {size : Int} {v_b : Value} (h_b : RO (hp w) (tI .u8) v_b b) {r : (List Int) × Int} (hS : ref01_Cut b p_at size = some r) :
    Calls Try.prog 17 #[v_b, .int .u64 p_at, .int .u64 size] w (Gives (fun u w' => ∃ (ao1 : Option Addr) (cp1 : Nat), u = .tuple #[.slice ao1 r.1.length cp1, .int .i64 r.2] ∧ Ext w w' ∧ Own w' w.heap.size mt 5 (tI .u8) (.slice ao1 r.1.length cp1) r.1)) := by
  obtain ⟨ao_b, cp_b, e_b⟩ := h_b.shape; subst e_b
  unfold ref01_Cut at hS
  refine fn_ok (vs := [.slice ao_b b.length cp_b, .int .u64 p_at, .int .u64 size]) Try.func17 rfl 33 Try.ntmps17 (Nat.le_of_ble_eq_true rfl) ?_
  intro a hf
  replace hf := Fr.cast (L' := [(0, .slice ao_b b.length cp_b), (1, .int .u64 p_at), (2, .int .u64 size)]) hf (by kernel_rfl)
  have hE := Ext.rfl' w
  refine sq ?_
  refine reg ?_
  refine st tbOk 2 [0, 1, 2] (L' := [(0, .slice ao_b b.length cp_b), (1, .int .u64 p_at), (2, .int .u64 size)]) hf (by kernel_rfl) ?_
  clear hf; clear a; intro a hf
  refine wpList_nil ?_
  refine sq ?_
  refine reg ?_
  refine st tbOk 4 [0, 1, 2, 12, 13, 14] (L' := [(0, .slice ao_b b.length cp_b), (1, .int .u64 p_at), (2, .int .u64 size), (12, .int .i64 ((b.length : Nat) : Int)), (13, .int .u64 p_at), (14, .int .u64 size)]) hf (by kernel_rfl) ?_
  clear hf; clear a; intro a hf
  have hT := of_bd hS; clear hS; obtain ⟨z1, hz1, hS⟩ := hT
  refine cl ent26 (vs := [.int .i64 ((b.length : Nat) : Int), .int .u64 p_at, .int .u64 size]) hf (by kernel_rfl) (by kernel_rfl) (by kernel_rfl) (ref01_Inside_ok  hz1) ?_
  clear hf; clear a; intro v w1 a hT hf; obtain ⟨rfl, hx⟩ := hT
  replace hE := hE.tr hx
  replace hf := Fr.keep (ks := [0, 1, 2, 15]) (L' := [(0, .slice ao_b b.length cp_b), (1, .int .u64 p_at), (2, .int .u64 size), (15, .bool z1)]) hf (by kernel_rfl)
  refine st tbOk 1 [0, 1, 2, 8] (L' := [(0, .slice ao_b b.length cp_b), (1, .int .u64 p_at), (2, .int .u64 size), (8, .bool z1)]) hf (by kernel_rfl) ?_
  clear hf; clear a; intro a hf
  refine wpList_nil ?_
  refine sq ?_
  refine sq ?_
  refine reg ?_
  refine st tbOk 2 [0, 1, 2, 17] (L' := [(0, .slice ao_b b.length cp_b), (1, .int .u64 p_at), (2, .int .u64 size), (17, .bool (!z1))]) hf (by kernel_rfl) ?_
  clear hf; clear a; intro a hf
  refine wpList_nil ?_
  refine cnd (b := !z1) hf (by kernel_rfl) (fun hb1 => ?_) (fun hb1 => ?_)
  · replace hS := of_t hb1 hS
    refine sq ?_
    refine reg ?_
    refine st tbOk 2 [6, 7] (L' := [(6, .slice none 0 0), (7, .int .i64 10)]) hf (by kernel_rfl) ?_
    clear hf; clear a; intro a hf
    refine wpList_nil ?_
    have hr := Option.some.inj hS; subst hr
    refine wp_ret ?_
    exact ret_ok hf (vs := [.slice none 0 0, .int .i64 10]) (by kernel_rfl) ⟨none, 0, rfl, hE, Own.nil _ _ _ _ _⟩
  · replace hS := of_f hb1 hS
    refine wp_skip ?_
    refine sq ?_
    refine reg ?_
    refine st tbOk 1 [0, 1, 2, 9] (L' := [(0, .slice ao_b b.length cp_b), (1, .int .u64 p_at), (2, .int .u64 size), (9, .slice none 0 0)]) hf (by kernel_rfl) ?_
    clear hf; clear a; intro a hf
    refine wpList_nil ?_
    refine sq ?_
    refine sq ?_
    refine reg ?_
    refine st tbOk 1 [0, 1, 2, 9, 10] (L' := [(0, .slice ao_b b.length cp_b), (1, .int .u64 p_at), (2, .int .u64 size), (9, .slice none 0 0), (10, .int .u64 0)]) hf (by kernel_rfl) ?_
    clear hf; clear a; intro a hf
    refine wpList_nil ?_
    refine ctj (fun (s1 : (List Int)) (a : Act) (w' : World) => ∃ (ao1 : Option Addr) (cp1 : Nat), Ext w w' ∧ Own w' w.heap.size mt 5 (tI .u8) (.slice ao1 s1.length cp1) s1 ∧ Fr 33 [(9, .slice ao1 s1.length cp1)] a) hS ?_ ?_
    · clear hS hf; clear a; clear hE; intro s1 a w5 hM hS
      obtain ⟨ao1, cp1, hE, ho1, hf⟩ := hM
      refine sq ?_
      refine reg ?_
      refine st tbOk 3 [6, 7] (L' := [(6, .slice ao1 s1.length cp1), (7, .int .i64 0)]) hf (by kernel_rfl) ?_
      clear hf; clear a; intro a hf
      refine wpList_nil ?_
      have hr := Option.some.inj hS; subst hr
      refine wp_ret ?_
      exact ret_ok hf (vs := [.slice ao1 s1.length cp1, .int .i64 0]) (by kernel_rfl) ⟨ao1, cp1, rfl, hE, ho1⟩
    · clear hS; intro KK1 k1 hK1 hS
      refine blk ?_
      refine lp (st := ([], 0)) (fun (s2 : (List Int) × Int) (a : Act) (w' : World) => ∃ (ao2 : Option Addr) (cp2 : Nat), Ext w w' ∧ Own w' w.heap.size mt 5 (tI .u8) (.slice ao2 s2.1.length cp2) s2.1 ∧ Fr 33 [(0, .slice ao_b b.length cp_b), (1, .int .u64 p_at), (2, .int .u64 size), (9, .slice ao2 s2.1.length cp2), (10, .int .u64 s2.2)] a) ?_ ⟨none, 0, hE, Own.nil _ _ _ _ _, hf.keep (ks := [0, 1, 2, 9, 10]) (by kernel_rfl)⟩ hS
      clear hS hf; clear a; clear hE
      intro rec1 KK2 hK2 s2 a w2 hM hS
      obtain ⟨ao2, cp2, hE, ho2, hf⟩ := hM
      refine sq ?_
      refine sq ?_
      refine reg ?_
      refine st tbOk 3 [0, 1, 2, 9, 10, 20] (L' := [(0, .slice ao_b b.length cp_b), (1, .int .u64 p_at), (2, .int .u64 size), (9, .slice ao2 s2.1.length cp2), (10, .int .u64 s2.2), (20, .bool (decide (s2.2 < size)))]) hf (by kernel_rfl) ?_
      clear hf; clear a; intro a hf
      refine wpList_nil ?_
      refine cnd (b := decide (s2.2 < size)) hf (by kernel_rfl) (fun hb2 => ?_) (fun hb2 => ?_)
      · replace hS := of_t hb2 hS
        refine wp_skip ?_
        refine sq ?_
        refine blk ?_
        refine reg ?_
        refine st tbOk 5 [0, 1, 2, 10, 23, 24, 27] (L' := [(0, .slice ao_b b.length cp_b), (1, .int .u64 p_at), (2, .int .u64 size), (10, .int .u64 s2.2), (23, .slice ao2 s2.1.length cp2), (24, .slice ao_b b.length cp_b), (27, .int .u64 (IntKind.u64.wrap (p_at + s2.2)))]) hf (by kernel_rfl) ?_
        clear hf; clear a; intro a hf
        have hT := of_gd hS; clear hS; obtain ⟨hc1, hS⟩ := hT
        refine ix tbOk u22 i5 rfl rfl h_b (k := .u64) (n := IntKind.u64.wrap (p_at + s2.2)) hc1 hf (by kernel_rfl) (by kernel_rfl) (by kernel_rfl) (by kernel_rfl) ?_
        clear hf; clear a; intro p1 c1 a hp1 hr1 hf
        obtain rfl : c1 = [.int .u8 (gt b (IntKind.u64.wrap (p_at + s2.2)))] := hr1
        replace hf := Fr.keep (ks := [0, 1, 2, 10, 23, 28]) (L' := [(0, .slice ao_b b.length cp_b), (1, .int .u64 p_at), (2, .int .u64 size), (10, .int .u64 s2.2), (23, .slice ao2 s2.1.length cp2), (28, .pointer (some p1))]) hf (by kernel_rfl)
        refine ld tbOk u5 rfl hp1 hE.le hf (by kernel_rfl) (by kernel_rfl) (by kernel_rfl) ?_
        clear hf; clear a; intro a hf
        replace hf := Fr.keep (ks := [0, 1, 2, 10, 23, 29]) (L' := [(0, .slice ao_b b.length cp_b), (1, .int .u64 p_at), (2, .int .u64 size), (10, .int .u64 s2.2), (23, .slice ao2 s2.1.length cp2), (29, .int .u8 (gt b (IntKind.u64.wrap (p_at + s2.2))))]) hf (by kernel_rfl)
        refine bs tbOk u22 i5 rfl (t := (tI .u8)) (vs := [(0, .int .u8 (gt b (IntKind.u64.wrap (p_at + s2.2))))]) (cells := #[.int .u8 (gt b (IntKind.u64.wrap (p_at + s2.2)))]) ([gt b (IntKind.u64.wrap (p_at + s2.2))] : List Int) hf (by kernel_rfl) (by kernel_rfl) (by kernel_rfl) rfl (by kernel_rfl) (reps_flat _) rfl ?_
        clear hf; clear a; intro w3 a ho3 hx hz hf
        have dj1 := Dj.new ho2 ho3
        replace ho3 := ho3.base hE.size
        replace hE := hE.tr hx
        replace ho2 := ho2.ext hx
        replace hf := Fr.keep (ks := [0, 1, 2, 10, 23, 30]) (L' := [(0, .slice ao_b b.length cp_b), (1, .int .u64 p_at), (2, .int .u64 size), (10, .int .u64 s2.2), (23, .slice ao2 s2.1.length cp2), (30, .slice (some ⟨w2.heap.size, 0, none⟩) ([gt b (IntKind.u64.wrap (p_at + s2.2))] : List Int).length ([gt b (IntKind.u64.wrap (p_at + s2.2))] : List Int).length)]) hf (by kernel_rfl)
        have hT := of_gd hS; clear hS; obtain ⟨hc2, hS⟩ := hT
        refine ap tbOk u22 i5 rfl rfl rfl (flat_I .u8) rfl ho2 hE.size (ho3.ro (mt_le _)) (LeH.refl _) hc2 hf (by kernel_rfl) (by kernel_rfl) (by kernel_rfl) (by kernel_rfl) ?_
        clear hf; clear a; intro ao3 cp3 w4 a ho4 hg hloc hf
        have dj2 := Dj.app dj1.symm ho3 hloc
        replace hE := hE.grow hg (fun k hk => (ho2.lt k hk).1)
        replace ho3 := ho3.keep hg (Dj.ne dj1.symm)
        replace hf := Fr.keep (ks := [0, 1, 2, 10, 31]) (L' := [(0, .slice ao_b b.length cp_b), (1, .int .u64 p_at), (2, .int .u64 size), (10, .int .u64 s2.2), (31, .slice ao3 (s2.1 ++ ([gt b (IntKind.u64.wrap (p_at + s2.2))] : List Int)).length cp3)]) hf (by kernel_rfl)
        refine st tbOk 1 [0, 1, 2, 9, 10] (L' := [(0, .slice ao_b b.length cp_b), (1, .int .u64 p_at), (2, .int .u64 size), (9, .slice ao3 (s2.1 ++ ([gt b (IntKind.u64.wrap (p_at + s2.2))] : List Int)).length cp3), (10, .int .u64 s2.2)]) hf (by kernel_rfl) ?_
        clear hf; clear a; intro a hf
        refine wpList_nil ?_
        refine reg ?_
        have hT := of_let hS; clear hS; obtain ⟨i_1, hl1, hS⟩ := hT
        refine st tbOk 3 [0, 1, 2, 9, 10] (L' := [(0, .slice ao_b b.length cp_b), (1, .int .u64 p_at), (2, .int .u64 size), (9, .slice ao3 (s2.1 ++ ([gt b (IntKind.u64.wrap (p_at + s2.2))] : List Int)).length cp3), (10, .int .u64 i_1)]) hf (by subst hl1; kernel_rfl) ?_
        clear hf; clear a; intro a hf
        refine wpList_nil ?_
        exact hK2 ((s2.1 ++ ([gt b (IntKind.u64.wrap (p_at + s2.2))] : List Int)), i_1) _ _ ⟨ao3, cp3, hE, ho4, hf.keep (ks := [0, 1, 2, 9, 10]) (by kernel_rfl)⟩ hS
      · replace hS := of_f hb2 hS
        refine wp_exit ?_
        exact hK1 s2.1 _ _ ⟨ao2, cp2, hE, ho2, hf.keep (ks := [9]) (by kernel_rfl)⟩ hS

theorem law01_OctetsCuts_ok {w : World} {b : List Int} {p_at : Int} {size : Int} {v_b : Value} (h_b : RO (hp w) (tI .u8) v_b b) {r : Bool} (hS : law01_OctetsCuts b p_at size = some r) :
    Calls Try.prog 5 #[v_b, .int .u64 p_at, .int .u64 size] w (Gives (fun u w' => u = .bool r ∧ Ext w w')) := by
  obtain ⟨ao_b, cp_b, e_b⟩ := h_b.shape; subst e_b
  unfold law01_OctetsCuts at hS
  refine fn_ok (vs := [.slice ao_b b.length cp_b, .int .u64 p_at, .int .u64 size]) Try.func5 rfl 68 Try.ntmps5 (Nat.le_of_ble_eq_true rfl) ?_
  intro a hf
  replace hf := Fr.cast (L' := [(0, .slice ao_b b.length cp_b), (1, .int .u64 p_at), (2, .int .u64 size)]) hf (by kernel_rfl)
  have hE := Ext.rfl' w
  refine sq ?_
  refine reg ?_
  refine st tbOk 1 [0, 1, 2] (L' := [(0, .slice ao_b b.length cp_b), (1, .int .u64 p_at), (2, .int .u64 size)]) hf (by kernel_rfl) ?_
  clear hf; clear a; intro a hf
  refine wpList_nil ?_
  refine sq ?_
  refine reg ?_
  have hT := of_bd hS; clear hS; obtain ⟨z1, hz1, hS⟩ := hT
  refine cl ent11 (vs := []) hf (by kernel_rfl) (by kernel_rfl) (by kernel_rfl) (law01_awake_ok  hz1) ?_
  clear hf; clear a; intro v w1 a hT hf; obtain ⟨rfl, hx⟩ := hT
  replace hE := hE.tr hx
  replace hf := Fr.keep (ks := [0, 1, 2, 15]) (L' := [(0, .slice ao_b b.length cp_b), (1, .int .u64 p_at), (2, .int .u64 size), (15, .bool z1)]) hf (by kernel_rfl)
  refine st tbOk 1 [0, 1, 2, 7] (L' := [(0, .slice ao_b b.length cp_b), (1, .int .u64 p_at), (2, .int .u64 size), (7, .bool z1)]) hf (by kernel_rfl) ?_
  clear hf; clear a; intro a hf
  refine wpList_nil ?_
  refine sq ?_
  refine sq ?_
  refine reg ?_
  refine st tbOk 2 [0, 1, 2, 17] (L' := [(0, .slice ao_b b.length cp_b), (1, .int .u64 p_at), (2, .int .u64 size), (17, .bool (!z1))]) hf (by kernel_rfl) ?_
  clear hf; clear a; intro a hf
  refine wpList_nil ?_
  refine cnd (b := !z1) hf (by kernel_rfl) (fun hb1 => ?_) (fun hb1 => ?_)
  · replace hS := of_t hb1 hS
    refine sq ?_
    refine reg ?_
    refine st tbOk 1 [6] (L' := [(6, .bool false)]) hf (by kernel_rfl) ?_
    clear hf; clear a; intro a hf
    refine wpList_nil ?_
    have hr := Option.some.inj hS; subst hr
    refine wp_ret ?_
    exact ret_ok hf (vs := [.bool false]) (by kernel_rfl) ⟨rfl, hE⟩
  · replace hS := of_f hb1 hS
    refine wp_skip ?_
    refine sq ?_
    refine sq ?_
    refine reg ?_
    refine st tbOk 3 [0, 1, 2, 20] (L' := [(0, .slice ao_b b.length cp_b), (1, .int .u64 p_at), (2, .int .u64 size), (20, .bool (decide (((b.length : Nat) : Int) > 2000)))]) hf (by kernel_rfl) ?_
    clear hf; clear a; intro a hf
    refine wpList_nil ?_
    refine cnd (b := decide (((b.length : Nat) : Int) > 2000)) hf (by kernel_rfl) (fun hb2 => ?_) (fun hb2 => ?_)
    · replace hS := of_t hb2 hS
      refine sq ?_
      refine reg ?_
      refine st tbOk 1 [6] (L' := [(6, .bool true)]) hf (by kernel_rfl) ?_
      clear hf; clear a; intro a hf
      refine wpList_nil ?_
      have hr := Option.some.inj hS; subst hr
      refine wp_ret ?_
      exact ret_ok hf (vs := [.bool true]) (by kernel_rfl) ⟨rfl, hE⟩
    · replace hS := of_f hb2 hS
      refine wp_skip ?_
      refine sq ?_
      refine reg ?_
      refine st tbOk 1 [0, 1, 2, 21] (L' := [(0, .slice ao_b b.length cp_b), (1, .int .u64 p_at), (2, .int .u64 size), (21, .slice ao_b b.length cp_b)]) hf (by kernel_rfl) ?_
      clear hf; clear a; intro a hf
      refine b2s tbOk u22 u5 u9 h_b hE.le hf (by kernel_rfl) (by kernel_rfl) (by kernel_rfl) ?_
      clear hf; clear a; intro a hf
      replace hf := Fr.keep (ks := [0, 1, 2, 22]) (L' := [(0, .slice ao_b b.length cp_b), (1, .int .u64 p_at), (2, .int .u64 size), (22, strV (toStr b))]) hf (by kernel_rfl)
      have hT := of_let hS; clear hS; obtain ⟨was_1, hl1, hS⟩ := hT
      refine st tbOk 1 [0, 1, 2, 8] (L' := [(0, .slice ao_b b.length cp_b), (1, .int .u64 p_at), (2, .int .u64 size), (8, strV was_1)]) hf (by subst hl1; kernel_rfl) ?_
      clear hf; clear a; intro a hf
      refine wpList_nil ?_
      refine sq ?_
      refine reg ?_
      refine st tbOk 3 [0, 1, 2, 8, 24, 25, 26] (L' := [(0, .slice ao_b b.length cp_b), (1, .int .u64 p_at), (2, .int .u64 size), (8, strV was_1), (24, .slice ao_b b.length cp_b), (25, .int .u64 p_at), (26, .int .u64 size)]) hf (by kernel_rfl) ?_
      clear hf; clear a; intro a hf
      have hT := of_bd hS; clear hS; obtain ⟨z2, hz2, hS⟩ := hT
      refine cl ent16 (vs := [.slice ao_b b.length cp_b, .int .u64 p_at, .int .u64 size]) hf (by kernel_rfl) (by kernel_rfl) (by kernel_rfl) (octets_Cut_ok (h_b.mono hE.le) hz2) ?_
      clear hf; clear a; intro v w2 a hT hf; obtain ⟨ao1, cp1, rfl, hx, ho1⟩ := hT
      replace ho1 := ho1.base hE.size
      replace hE := hE.tr hx
      replace hf := Fr.keep (ks := [0, 1, 2, 8, 27]) (L' := [(0, .slice ao_b b.length cp_b), (1, .int .u64 p_at), (2, .int .u64 size), (8, strV was_1), (27, .tuple #[.slice ao1 z2.1.length cp1, .int .i64 z2.2])]) hf (by kernel_rfl)
      refine st tbOk 5 [0, 1, 2, 8, 9, 10] (L' := [(0, .slice ao_b b.length cp_b), (1, .int .u64 p_at), (2, .int .u64 size), (8, strV was_1), (9, .slice ao1 z2.1.length cp1), (10, .int .i64 z2.2)]) hf (by kernel_rfl) ?_
      clear hf; clear a; intro a hf
      refine wpList_nil ?_
      refine sq ?_
      refine reg ?_
      refine st tbOk 3 [0, 8, 9, 10, 31, 32, 33] (L' := [(0, .slice ao_b b.length cp_b), (8, strV was_1), (9, .slice ao1 z2.1.length cp1), (10, .int .i64 z2.2), (31, .slice ao_b b.length cp_b), (32, .int .u64 p_at), (33, .int .u64 size)]) hf (by kernel_rfl) ?_
      clear hf; clear a; intro a hf
      have hT := of_bd hS; clear hS; obtain ⟨z3, hz3, hS⟩ := hT
      refine cl ent17 (vs := [.slice ao_b b.length cp_b, .int .u64 p_at, .int .u64 size]) hf (by kernel_rfl) (by kernel_rfl) (by kernel_rfl) (ref01_Cut_ok (h_b.mono hE.le) hz3) ?_
      clear hf; clear a; intro v w3 a hT hf; obtain ⟨ao2, cp2, rfl, hx, ho2⟩ := hT
      have dj1 := Dj.new ho1 ho2
      replace ho2 := ho2.base hE.size
      replace hE := hE.tr hx
      replace ho1 := ho1.ext hx
      replace hf := Fr.keep (ks := [0, 8, 9, 10, 34]) (L' := [(0, .slice ao_b b.length cp_b), (8, strV was_1), (9, .slice ao1 z2.1.length cp1), (10, .int .i64 z2.2), (34, .tuple #[.slice ao2 z3.1.length cp2, .int .i64 z3.2])]) hf (by kernel_rfl)
      refine st tbOk 5 [0, 8, 9, 10, 11, 12] (L' := [(0, .slice ao_b b.length cp_b), (8, strV was_1), (9, .slice ao1 z2.1.length cp1), (10, .int .i64 z2.2), (11, .slice ao2 z3.1.length cp2), (12, .int .i64 z3.2)]) hf (by kernel_rfl) ?_
      clear hf; clear a; intro a hf
      refine wpList_nil ?_
      refine sq ?_
      refine ctj (fun (s1 : Bool) (a : Act) (w' : World) => Ext w w' ∧ Own w' w.heap.size mt 5 (tI .u8) (.slice ao1 z2.1.length cp1) z2.1 ∧ Fr 68 [(0, .slice ao_b b.length cp_b), (8, strV was_1), (9, .slice ao1 z2.1.length cp1), (13, .bool s1)] a) hS ?_ ?_
      · clear hS hf; clear a; clear hE; intro s1 a w4 hM hS
        obtain ⟨hE, ho1, hf⟩ := hM
        refine sq ?_
        refine sq ?_
        refine reg ?_
        refine st tbOk 1 [0, 8, 9, 13, 14] (L' := [(0, .slice ao_b b.length cp_b), (8, strV was_1), (9, .slice ao1 z2.1.length cp1), (13, .bool s1), (14, .int .i64 0)]) hf (by kernel_rfl) ?_
        clear hf; clear a; intro a hf
        refine wpList_nil ?_
        refine ctj (fun (s2 : Unit) (a : Act) (w' : World) => Ext w w' ∧ Fr 68 [(0, .slice ao_b b.length cp_b), (8, strV was_1), (13, .bool s1)] a) hS ?_ ?_
        · clear hS hf; clear a; clear hE; intro s2 a w7 hM hS
          obtain ⟨hE, hf⟩ := hM
          refine sq ?_
          refine ctj (fun (s4 : Bool) (a : Act) (w' : World) => Ext w w' ∧ Fr 68 [(6, .bool s4)] a) hS ?_ ?_
          · clear hS hf; clear a; clear hE; intro s4 a w8 hM hS
            obtain ⟨hE, hf⟩ := hM
            have hr := Option.some.inj hS; subst hr
            refine wp_ret ?_
            exact ret_ok hf (vs := [.bool s4]) (by kernel_rfl) ⟨rfl, hE⟩
          · clear hS; intro KK4 k3 hK4 hS
            refine reg ?_
            refine st tbOk 2 [0, 8, 62] (L' := [(0, .slice ao_b b.length cp_b), (8, strV was_1), (62, .bool s1)]) hf (by kernel_rfl) ?_
            clear hf; clear a; intro a hf
            rcases Bool.eq_false_or_eq_true (s1) with hb5 | hb5
            · replace hS := of_t hb5 hS
              replace hf := Fr.cast (L' := [(0, .slice ao_b b.length cp_b), (8, strV was_1), (62, .bool true)]) hf (by rw [hb5])
              refine st tbOk 1 [8, 62, 63] (L' := [(8, strV was_1), (62, .bool true), (63, .slice ao_b b.length cp_b)]) hf (by kernel_rfl) ?_
              clear hf; clear a; intro a hf
              refine b2s tbOk u22 u5 u9 h_b hE.le hf (by kernel_rfl) (by kernel_rfl) (by kernel_rfl) ?_
              clear hf; clear a; intro a hf
              replace hf := Fr.keep (ks := [8, 62, 64]) (L' := [(8, strV was_1), (62, .bool true), (64, strV (toStr b))]) hf (by kernel_rfl)
              refine st tbOk 4 [6] (L' := [(6, .bool ((toStr b) == was_1))]) hf (by kernel_rfl) ?_
              clear hf; clear a; intro a hf
              refine wpList_nil ?_
              exact hK4 ((toStr b) == was_1) _ _ ⟨hE, hf.keep (ks := [6]) (by kernel_rfl)⟩ hS
            · replace hS := of_f hb5 hS
              replace hf := Fr.cast (L' := [(0, .slice ao_b b.length cp_b), (8, strV was_1), (62, .bool false)]) hf (by rw [hb5])
              refine st tbOk 6 [6] (L' := [(6, .bool false)]) hf (by kernel_rfl) ?_
              clear hf; clear a; intro a hf
              refine wpList_nil ?_
              exact hK4 false _ _ ⟨hE, hf.keep (ks := [6]) (by kernel_rfl)⟩ hS
        · clear hS; intro KK2 k2 hK2 hS
          refine blk ?_
          refine lp (st := (z2.1, 0)) (fun (s3 : (List Int) × Int) (a : Act) (w' : World) => ∃ (ao3 : Option Addr) (cp3 : Nat), Ext w w' ∧ Own w' w.heap.size mt 5 (tI .u8) (.slice ao3 s3.1.length cp3) s3.1 ∧ Fr 68 [(0, .slice ao_b b.length cp_b), (8, strV was_1), (9, .slice ao3 s3.1.length cp3), (13, .bool s1), (14, .int .i64 s3.2)] a) ?_ ⟨ao1, cp1, hE, ho1, hf.keep (ks := [0, 8, 9, 13, 14]) (by kernel_rfl)⟩ hS
          clear hS hf; clear a; clear hE
          intro rec1 KK3 hK3 s3 a w5 hM hS
          obtain ⟨ao3, cp3, hE, ho3, hf⟩ := hM
          refine sq ?_
          refine sq ?_
          refine reg ?_
          refine st tbOk 4 [0, 8, 9, 13, 14, 50] (L' := [(0, .slice ao_b b.length cp_b), (8, strV was_1), (9, .slice ao3 s3.1.length cp3), (13, .bool s1), (14, .int .i64 s3.2), (50, .bool (decide (s3.2 < ((s3.1.length : Nat) : Int))))]) hf (by kernel_rfl) ?_
          clear hf; clear a; intro a hf
          refine wpList_nil ?_
          refine cnd (b := decide (s3.2 < ((s3.1.length : Nat) : Int))) hf (by kernel_rfl) (fun hb4 => ?_) (fun hb4 => ?_)
          · replace hS := of_t hb4 hS
            refine wp_skip ?_
            refine sq ?_
            refine blk ?_
            refine reg ?_
            refine st tbOk 4 [0, 8, 9, 13, 14, 53, 54, 55, 56] (L' := [(0, .slice ao_b b.length cp_b), (8, strV was_1), (9, .slice ao3 s3.1.length cp3), (13, .bool s1), (14, .int .i64 s3.2), (53, .slice ao3 s3.1.length cp3), (54, .int .i64 s3.2), (55, .slice ao3 s3.1.length cp3), (56, .int .i64 s3.2)]) hf (by kernel_rfl) ?_
            clear hf; clear a; intro a hf
            have hT := of_gd hS; clear hS; obtain ⟨hc1, hS⟩ := hT
            refine ix tbOk u22 i5 rfl rfl (ho3.ro (mt_le _)) (k := .i64) (n := s3.2) hc1 hf (by kernel_rfl) (by kernel_rfl) (by kernel_rfl) (by kernel_rfl) ?_
            clear hf; clear a; intro p1 c1 a hp1 hr1 hf
            obtain rfl : c1 = [.int .u8 (gt s3.1 s3.2)] := hr1
            replace hf := Fr.keep (ks := [0, 8, 9, 13, 14, 53, 54, 57]) (L' := [(0, .slice ao_b b.length cp_b), (8, strV was_1), (9, .slice ao3 s3.1.length cp3), (13, .bool s1), (14, .int .i64 s3.2), (53, .slice ao3 s3.1.length cp3), (54, .int .i64 s3.2), (57, .pointer (some p1))]) hf (by kernel_rfl)
            refine ld tbOk u5 rfl hp1 (LeH.refl _) hf (by kernel_rfl) (by kernel_rfl) (by kernel_rfl) ?_
            clear hf; clear a; intro a hf
            replace hf := Fr.keep (ks := [0, 8, 9, 13, 14, 53, 54, 58]) (L' := [(0, .slice ao_b b.length cp_b), (8, strV was_1), (9, .slice ao3 s3.1.length cp3), (13, .bool s1), (14, .int .i64 s3.2), (53, .slice ao3 s3.1.length cp3), (54, .int .i64 s3.2), (58, .int .u8 (gt s3.1 s3.2))]) hf (by kernel_rfl)
            refine st tbOk 1 [0, 8, 9, 13, 14, 53, 54, 59] (L' := [(0, .slice ao_b b.length cp_b), (8, strV was_1), (9, .slice ao3 s3.1.length cp3), (13, .bool s1), (14, .int .i64 s3.2), (53, .slice ao3 s3.1.length cp3), (54, .int .i64 s3.2), (59, .int .u8 (bxor .u8 (gt s3.1 s3.2) 255))]) hf (by kernel_rfl) ?_
            clear hf; clear a; intro a hf
            have hT := of_gd hS; clear hS; obtain ⟨hc2, hS⟩ := hT
            refine ixO tbOk u22 i5 ho3 (k := .i64) (n := s3.2) hc2 hf (by kernel_rfl) (by kernel_rfl) (by kernel_rfl) (by kernel_rfl) ?_
            clear hf; clear a; intro p2 a hp2 hf
            replace hf := Fr.keep (ks := [0, 8, 9, 13, 14, 59, 60]) (L' := [(0, .slice ao_b b.length cp_b), (8, strV was_1), (9, .slice ao3 s3.1.length cp3), (13, .bool s1), (14, .int .i64 s3.2), (59, .int .u8 (bxor .u8 (gt s3.1 s3.2) 255)), (60, .pointer (some p2))]) hf (by kernel_rfl)
            refine sto tbOk i5 rfl ho3 hc2 hp2 (u := .int .u8 (bxor .u8 (gt s3.1 s3.2) 255)) (yv := bxor .u8 (gt s3.1 s3.2) 255) rfl rfl hf (by kernel_rfl) (by kernel_rfl) (by kernel_rfl) ?_
            clear hf; clear a; intro w6 a hN hg hz hf
            replace hE := hE.grow hg (fun k hk => (ho3.lt k hk).1)
            replace ho3 : Own w6 w.heap.size mt 5 (tI .u8) (.slice ao3 (s3.1.set (s3.2).toNat (bxor .u8 (gt s3.1 s3.2) 255)).length cp3) (s3.1.set (s3.2).toNat (bxor .u8 (gt s3.1 s3.2) 255)) := by simpa only [List.length_set] using hN
            clear hN; replace hf := Fr.cast (L' := [(0, .slice ao_b b.length cp_b), (8, strV was_1), (9, .slice ao3 (s3.1.set (s3.2).toNat (bxor .u8 (gt s3.1 s3.2) 255)).length cp3), (13, .bool s1), (14, .int .i64 s3.2), (59, .int .u8 (bxor .u8 (gt s3.1 s3.2) 255)), (60, .pointer (some p2))]) hf (by simp only [List.length_set])
            replace hf := Fr.keep (ks := [0, 8, 9, 13, 14]) (L' := [(0, .slice ao_b b.length cp_b), (8, strV was_1), (9, .slice ao3 (s3.1.set (s3.2).toNat (bxor .u8 (gt s3.1 s3.2) 255)).length cp3), (13, .bool s1), (14, .int .i64 s3.2)]) hf (by kernel_rfl)
            refine wpList_nil ?_
            refine reg ?_
            have hT := of_let hS; clear hS; obtain ⟨i_1, hl3, hS⟩ := hT
            refine st tbOk 3 [0, 8, 9, 13, 14] (L' := [(0, .slice ao_b b.length cp_b), (8, strV was_1), (9, .slice ao3 (s3.1.set (s3.2).toNat (bxor .u8 (gt s3.1 s3.2) 255)).length cp3), (13, .bool s1), (14, .int .i64 i_1)]) hf (by subst hl3; kernel_rfl) ?_
            clear hf; clear a; intro a hf
            refine wpList_nil ?_
            exact hK3 ((s3.1.set (s3.2).toNat (bxor .u8 (gt s3.1 s3.2) 255)), i_1) _ _ ⟨ao3, cp3, hE, ho3, hf.keep (ks := [0, 8, 9, 13, 14]) (by kernel_rfl)⟩ hS
          · replace hS := of_f hb4 hS
            refine wp_exit ?_
            exact hK2 () _ _ ⟨hE, hf.keep (ks := [0, 8, 13]) (by kernel_rfl)⟩ hS
      · clear hS; intro KK1 k1 hK1 hS
        refine reg ?_
        refine st tbOk 4 [0, 8, 9, 11, 40] (L' := [(0, .slice ao_b b.length cp_b), (8, strV was_1), (9, .slice ao1 z2.1.length cp1), (11, .slice ao2 z3.1.length cp2), (40, .bool (z2.2 == z3.2))]) hf (by kernel_rfl) ?_
        clear hf; clear a; intro a hf
        rcases Bool.eq_false_or_eq_true (z2.2 == z3.2) with hb3 | hb3
        · replace hS := of_t hb3 hS
          replace hf := Fr.cast (L' := [(0, .slice ao_b b.length cp_b), (8, strV was_1), (9, .slice ao1 z2.1.length cp1), (11, .slice ao2 z3.1.length cp2), (40, .bool true)]) hf (by rw [hb3])
          refine st tbOk 1 [0, 8, 9, 11, 40, 41] (L' := [(0, .slice ao_b b.length cp_b), (8, strV was_1), (9, .slice ao1 z2.1.length cp1), (11, .slice ao2 z3.1.length cp2), (40, .bool true), (41, .slice ao1 z2.1.length cp1)]) hf (by kernel_rfl) ?_
          clear hf; clear a; intro a hf
          refine b2s tbOk u22 u5 u9 (ho1.ro (mt_le _)) (LeH.refl _) hf (by kernel_rfl) (by kernel_rfl) (by kernel_rfl) ?_
          clear hf; clear a; intro a hf
          replace hf := Fr.keep (ks := [0, 8, 9, 11, 40, 42]) (L' := [(0, .slice ao_b b.length cp_b), (8, strV was_1), (9, .slice ao1 z2.1.length cp1), (11, .slice ao2 z3.1.length cp2), (40, .bool true), (42, strV (toStr z2.1))]) hf (by kernel_rfl)
          refine st tbOk 1 [0, 8, 9, 40, 42, 43] (L' := [(0, .slice ao_b b.length cp_b), (8, strV was_1), (9, .slice ao1 z2.1.length cp1), (40, .bool true), (42, strV (toStr z2.1)), (43, .slice ao2 z3.1.length cp2)]) hf (by kernel_rfl) ?_
          clear hf; clear a; intro a hf
          refine b2s tbOk u22 u5 u9 (ho2.ro (mt_le _)) (LeH.refl _) hf (by kernel_rfl) (by kernel_rfl) (by kernel_rfl) ?_
          clear hf; clear a; intro a hf
          replace hf := Fr.keep (ks := [0, 8, 9, 40, 42, 44]) (L' := [(0, .slice ao_b b.length cp_b), (8, strV was_1), (9, .slice ao1 z2.1.length cp1), (40, .bool true), (42, strV (toStr z2.1)), (44, strV (toStr z3.1))]) hf (by kernel_rfl)
          have hT := of_let hS; clear hS; obtain ⟨one_1, hl2, hS⟩ := hT
          refine st tbOk 3 [0, 8, 9, 13] (L' := [(0, .slice ao_b b.length cp_b), (8, strV was_1), (9, .slice ao1 z2.1.length cp1), (13, .bool one_1)]) hf (by subst hl2; kernel_rfl) ?_
          clear hf; clear a; intro a hf
          refine wpList_nil ?_
          exact hK1 one_1 _ _ ⟨hE, ho1, hf.keep (ks := [0, 8, 9, 13]) (by kernel_rfl)⟩ hS
        · replace hS := of_f hb3 hS
          replace hf := Fr.cast (L' := [(0, .slice ao_b b.length cp_b), (8, strV was_1), (9, .slice ao1 z2.1.length cp1), (11, .slice ao2 z3.1.length cp2), (40, .bool false)]) hf (by rw [hb3])
          refine st tbOk 7 [0, 8, 9, 13] (L' := [(0, .slice ao_b b.length cp_b), (8, strV was_1), (9, .slice ao1 z2.1.length cp1), (13, .bool false)]) hf (by kernel_rfl) ?_
          clear hf; clear a; intro a hf
          refine wpList_nil ?_
          exact hK1 false _ _ ⟨hE, ho1, hf.keep (ks := [0, 8, 9, 13]) (by kernel_rfl)⟩ hS

theorem ref01_power_ok {w : World} {p_a : Int}  {r : Bool} (hS : ref01_power p_a = some r) :
    Calls Try.prog 29 #[.int .u64 p_a] w (Gives (fun u w' => u = .bool r ∧ Ext w w')) := by
  unfold ref01_power at hS
  refine fn_ok (vs := [.int .u64 p_a]) Try.func29 rfl 14 Try.ntmps29 (Nat.le_of_ble_eq_true rfl) ?_
  intro a hf
  replace hf := Fr.cast (L' := [(0, .int .u64 p_a)]) hf (by kernel_rfl)
  have hE := Ext.rfl' w
  refine sq ?_
  refine reg ?_
  refine st tbOk 1 [0] (L' := [(0, .int .u64 p_a)]) hf (by kernel_rfl) ?_
  clear hf; clear a; intro a hf
  refine wpList_nil ?_
  refine sq ?_
  refine ctj (fun (s1 : Int) (a : Act) (w' : World) => Ext w w' ∧ Fr 14 [(0, .int .u64 s1)] a) hS ?_ ?_
  · clear hS hf; clear a; clear hE; intro s1 a w3 hM hS
    obtain ⟨hE, hf⟩ := hM
    refine sq ?_
    refine reg ?_
    refine st tbOk 3 [2] (L' := [(2, .bool (s1 == 1))]) hf (by kernel_rfl) ?_
    clear hf; clear a; intro a hf
    refine wpList_nil ?_
    have hr := Option.some.inj hS; subst hr
    refine wp_ret ?_
    exact ret_ok hf (vs := [.bool (s1 == 1)]) (by kernel_rfl) ⟨rfl, hE⟩
  · clear hS; intro KK1 k1 hK1 hS
    refine blk ?_
    refine lp (st := p_a) (fun (s2 : Int) (a : Act) (w' : World) => Ext w w' ∧ Fr 14 [(0, .int .u64 s2)] a) ?_ ⟨hE, hf.keep (ks := [0]) (by kernel_rfl)⟩ hS
    clear hS hf; clear a; clear hE
    intro rec1 KK2 hK2 s2 a w1 hM hS
    obtain ⟨hE, hf⟩ := hM
    refine sq ?_
    refine sq ?_
    refine ctj (fun (s3 : Bool) (a : Act) (w' : World) => Ext w w' ∧ Fr 14 [(0, .int .u64 s2), (9, .bool s3)] a) hS ?_ ?_
    · clear hS hf; clear a; clear hE; intro s3 a w2 hM hS
      obtain ⟨hE, hf⟩ := hM
      refine cnd (b := s3) hf (by kernel_rfl) (fun hb2 => ?_) (fun hb2 => ?_)
      · replace hS := of_t hb2 hS
        refine wp_skip ?_
        refine blk ?_
        refine reg ?_
        have hT := of_let hS; clear hS; obtain ⟨a_1, hl1, hS⟩ := hT
        refine st tbOk 3 [0] (L' := [(0, .int .u64 a_1)]) hf (by subst hl1; kernel_rfl) ?_
        clear hf; clear a; intro a hf
        refine wpList_nil ?_
        exact hK2 a_1 _ _ ⟨hE, hf.keep (ks := [0]) (by kernel_rfl)⟩ hS
      · replace hS := of_f hb2 hS
        refine wp_exit ?_
        exact hK1 s2 _ _ ⟨hE, hf.keep (ks := [0]) (by kernel_rfl)⟩ hS
    · clear hS; intro KK3 k2 hK3 hS
      refine reg ?_
      refine st tbOk 3 [0, 5] (L' := [(0, .int .u64 s2), (5, .bool (decide (s2 > 1)))]) hf (by kernel_rfl) ?_
      clear hf; clear a; intro a hf
      rcases Bool.eq_false_or_eq_true (decide (s2 > 1)) with hb1 | hb1
      · replace hS := of_t hb1 hS
        replace hf := Fr.cast (L' := [(0, .int .u64 s2), (5, .bool true)]) hf (by rw [hb1])
        refine st tbOk 4 [0, 9] (L' := [(0, .int .u64 s2), (9, .bool ((Int.tmod s2 2) == 0))]) hf (by kernel_rfl) ?_
        clear hf; clear a; intro a hf
        refine wpList_nil ?_
        exact hK3 ((Int.tmod s2 2) == 0) _ _ ⟨hE, hf.keep (ks := [0, 9]) (by kernel_rfl)⟩ hS
      · replace hS := of_f hb1 hS
        replace hf := Fr.cast (L' := [(0, .int .u64 s2), (5, .bool false)]) hf (by rw [hb1])
        refine st tbOk 4 [0, 9] (L' := [(0, .int .u64 s2), (9, .bool false)]) hf (by kernel_rfl) ?_
        clear hf; clear a; intro a hf
        refine wpList_nil ?_
        exact hK3 false _ _ ⟨hE, hf.keep (ks := [0, 9]) (by kernel_rfl)⟩ hS

theorem ref01_Up_ok {w : World} {p_x : Int} {p_a : Int}  {r : Int × Int} (hS : ref01_Up p_x p_a = some r) :
    Calls Try.prog 19 #[.int .u64 p_x, .int .u64 p_a] w (Gives (fun u w' => u = .tuple #[.int .u64 r.1, .int .i64 r.2] ∧ Ext w w')) := by
  unfold ref01_Up at hS
  refine fn_ok (vs := [.int .u64 p_x, .int .u64 p_a]) Try.func19 rfl 28 Try.ntmps19 (Nat.le_of_ble_eq_true rfl) ?_
  intro a hf
  replace hf := Fr.cast (L' := [(0, .int .u64 p_x), (1, .int .u64 p_a)]) hf (by kernel_rfl)
  have hE := Ext.rfl' w
  refine sq ?_
  refine reg ?_
  refine st tbOk 2 [0, 1] (L' := [(0, .int .u64 p_x), (1, .int .u64 p_a)]) hf (by kernel_rfl) ?_
  clear hf; clear a; intro a hf
  refine wpList_nil ?_
  refine sq ?_
  refine reg ?_
  refine st tbOk 1 [0, 1, 7] (L' := [(0, .int .u64 p_x), (1, .int .u64 p_a), (7, .int .u64 p_a)]) hf (by kernel_rfl) ?_
  clear hf; clear a; intro a hf
  have hT := of_bd hS; clear hS; obtain ⟨z1, hz1, hS⟩ := hT
  refine cl ent29 (vs := [.int .u64 p_a]) hf (by kernel_rfl) (by kernel_rfl) (by kernel_rfl) (ref01_power_ok  hz1) ?_
  clear hf; clear a; intro v w1 a hT hf; obtain ⟨rfl, hx⟩ := hT
  replace hE := hE.tr hx
  replace hf := Fr.keep (ks := [0, 1, 8]) (L' := [(0, .int .u64 p_x), (1, .int .u64 p_a), (8, .bool z1)]) hf (by kernel_rfl)
  refine st tbOk 1 [0, 1, 6] (L' := [(0, .int .u64 p_x), (1, .int .u64 p_a), (6, .bool z1)]) hf (by kernel_rfl) ?_
  clear hf; clear a; intro a hf
  refine wpList_nil ?_
  refine sq ?_
  refine sq ?_
  refine reg ?_
  refine st tbOk 2 [0, 1, 10] (L' := [(0, .int .u64 p_x), (1, .int .u64 p_a), (10, .bool (!z1))]) hf (by kernel_rfl) ?_
  clear hf; clear a; intro a hf
  refine wpList_nil ?_
  refine cnd (b := !z1) hf (by kernel_rfl) (fun hb1 => ?_) (fun hb1 => ?_)
  · replace hS := of_t hb1 hS
    refine sq ?_
    refine reg ?_
    refine st tbOk 2 [4, 5] (L' := [(4, .int .u64 0), (5, .int .i64 1)]) hf (by kernel_rfl) ?_
    clear hf; clear a; intro a hf
    refine wpList_nil ?_
    have hr := Option.some.inj hS; subst hr
    refine wp_ret ?_
    exact ret_ok hf (vs := [.int .u64 0, .int .i64 1]) (by kernel_rfl) ⟨rfl, hE⟩
  · replace hS := of_f hb1 hS
    refine wp_skip ?_
    refine sq ?_
    refine sq ?_
    refine reg ?_
    refine st tbOk 2 [0, 1, 11, 12] (L' := [(0, .int .u64 p_x), (1, .int .u64 p_a), (11, .int .u64 p_x), (12, .int .u64 p_a)]) hf (by kernel_rfl) ?_
    clear hf; clear a; intro a hf
    have hT := of_gd hS; clear hS; obtain ⟨hc1, hS⟩ := hT
    refine bin (run_rem (k := .u64) (x := p_x) hc1 _) hf (by kernel_rfl) (by kernel_rfl) (by kernel_rfl) (by kernel_rfl) ?_
    clear hf; clear a; intro a hf
    replace hf := Fr.keep (ks := [0, 1, 13]) (L' := [(0, .int .u64 p_x), (1, .int .u64 p_a), (13, .int .u64 (Int.tmod p_x p_a))]) hf (by kernel_rfl)
    refine st tbOk 1 [0, 1, 14] (L' := [(0, .int .u64 p_x), (1, .int .u64 p_a), (14, .bool ((Int.tmod p_x p_a) == 0))]) hf (by kernel_rfl) ?_
    clear hf; clear a; intro a hf
    refine wpList_nil ?_
    refine cnd (b := (Int.tmod p_x p_a) == 0) hf (by kernel_rfl) (fun hb2 => ?_) (fun hb2 => ?_)
    · replace hS := of_t hb2 hS
      refine sq ?_
      refine reg ?_
      refine st tbOk 3 [4, 5] (L' := [(4, .int .u64 p_x), (5, .int .i64 0)]) hf (by kernel_rfl) ?_
      clear hf; clear a; intro a hf
      refine wpList_nil ?_
      have hr := Option.some.inj hS; subst hr
      refine wp_ret ?_
      exact ret_ok hf (vs := [.int .u64 p_x, .int .i64 0]) (by kernel_rfl) ⟨rfl, hE⟩
    · replace hS := of_f hb2 hS
      refine wp_skip ?_
      refine sq ?_
      refine sq ?_
      refine regQ mixed (by kernel_rfl) ?_
      refine stQ tbOk 2 [0, 1, 16, 17] (L' := [(0, .int .u64 p_x), (1, .int .u64 p_a), (16, .int .u64 p_x), (17, .int .u64 p_a)]) hf (by kernel_rfl) ?_
      clear hf; clear a; intro a hf
      have hT := of_gd hS; clear hS; obtain ⟨hc2, hS⟩ := hT
      refine binQ (run_quo (k := .u64) (x := p_x) hc2 _) hf (by kernel_rfl) (by kernel_rfl) (by kernel_rfl) (by kernel_rfl) ?_
      clear hf; clear a; intro a hf
      replace hf := Fr.keep (ks := [0, 1, 18]) (L' := [(0, .int .u64 p_x), (1, .int .u64 p_a), (18, .int .u64 (IntKind.u64.wrap (Int.tdiv p_x p_a)))]) hf (by kernel_rfl)
      refine stQ tbOk 1 [0, 1, 18, 19] (L' := [(0, .int .u64 p_x), (1, .int .u64 p_a), (18, .int .u64 (IntKind.u64.wrap (Int.tdiv p_x p_a))), (19, .int .u64 p_a)]) hf (by kernel_rfl) ?_
      clear hf; clear a; intro a hf
      have hT := of_gd hS; clear hS; obtain ⟨hc3, hS⟩ := hT
      refine binQ (run_quo (k := .u64) (x := 18446744073709551615) hc3 _) hf (by kernel_rfl) (by kernel_rfl) (by kernel_rfl) (by kernel_rfl) ?_
      clear hf; clear a; intro a hf
      replace hf := Fr.keep (ks := [0, 1, 18, 20]) (L' := [(0, .int .u64 p_x), (1, .int .u64 p_a), (18, .int .u64 (IntKind.u64.wrap (Int.tdiv p_x p_a))), (20, .int .u64 (IntKind.u64.wrap (Int.tdiv 18446744073709551615 p_a)))]) hf (by kernel_rfl)
      refine stQ tbOk 1 [0, 1, 21] (L' := [(0, .int .u64 p_x), (1, .int .u64 p_a), (21, .bool ((IntKind.u64.wrap (Int.tdiv p_x p_a)) == (IntKind.u64.wrap (Int.tdiv 18446744073709551615 p_a))))]) hf (by kernel_rfl) ?_
      clear hf; clear a; intro a hf
      refine wpQuiet_nil ?_
      intro w2 hx
      replace hE := hE.tr hx
      refine cnd (b := (IntKind.u64.wrap (Int.tdiv p_x p_a)) == (IntKind.u64.wrap (Int.tdiv 18446744073709551615 p_a))) hf (by kernel_rfl) (fun hb3 => ?_) (fun hb3 => ?_)
      · replace hS := of_t hb3 hS
        refine sq ?_
        refine reg ?_
        refine st tbOk 2 [4, 5] (L' := [(4, .int .u64 0), (5, .int .i64 10)]) hf (by kernel_rfl) ?_
        clear hf; clear a; intro a hf
        refine wpList_nil ?_
        have hr := Option.some.inj hS; subst hr
        refine wp_ret ?_
        exact ret_ok hf (vs := [.int .u64 0, .int .i64 10]) (by kernel_rfl) ⟨rfl, hE⟩
      · replace hS := of_f hb3 hS
        refine wp_skip ?_
        refine sq ?_
        refine reg ?_
        refine st tbOk 2 [1, 22, 23] (L' := [(1, .int .u64 p_a), (22, .int .u64 p_x), (23, .int .u64 p_a)]) hf (by kernel_rfl) ?_
        clear hf; clear a; intro a hf
        have hT := of_gd hS; clear hS; obtain ⟨hc4, hS⟩ := hT
        refine bin (run_quo (k := .u64) (x := p_x) hc4 _) hf (by kernel_rfl) (by kernel_rfl) (by kernel_rfl) (by kernel_rfl) ?_
        clear hf; clear a; intro a hf
        replace hf := Fr.keep (ks := [1, 24]) (L' := [(1, .int .u64 p_a), (24, .int .u64 (IntKind.u64.wrap (Int.tdiv p_x p_a)))]) hf (by kernel_rfl)
        refine st tbOk 5 [4, 5] (L' := [(4, .int .u64 (IntKind.u64.wrap ((IntKind.u64.wrap ((IntKind.u64.wrap (Int.tdiv p_x p_a)) + 1)) * p_a))), (5, .int .i64 0)]) hf (by kernel_rfl) ?_
        clear hf; clear a; intro a hf
        refine wpList_nil ?_
        have hr := Option.some.inj hS; subst hr
        refine wp_ret ?_
        exact ret_ok hf (vs := [.int .u64 (IntKind.u64.wrap ((IntKind.u64.wrap ((IntKind.u64.wrap (Int.tdiv p_x p_a)) + 1)) * p_a)), .int .i64 0]) (by kernel_rfl) ⟨rfl, hE⟩

theorem ref01_Down_ok {w : World} {p_x : Int} {p_a : Int}  {r : Int × Int} (hS : ref01_Down p_x p_a = some r) :
    Calls Try.prog 21 #[.int .u64 p_x, .int .u64 p_a] w (Gives (fun u w' => u = .tuple #[.int .u64 r.1, .int .i64 r.2] ∧ Ext w w')) := by
  unfold ref01_Down at hS
  refine fn_ok (vs := [.int .u64 p_x, .int .u64 p_a]) Try.func21 rfl 16 Try.ntmps21 (Nat.le_of_ble_eq_true rfl) ?_
  intro a hf
  replace hf := Fr.cast (L' := [(0, .int .u64 p_x), (1, .int .u64 p_a)]) hf (by kernel_rfl)
  have hE := Ext.rfl' w
  refine sq ?_
  refine reg ?_
  refine st tbOk 2 [0, 1] (L' := [(0, .int .u64 p_x), (1, .int .u64 p_a)]) hf (by kernel_rfl) ?_
  clear hf; clear a; intro a hf
  refine wpList_nil ?_
  refine sq ?_
  refine reg ?_
  refine st tbOk 1 [0, 1, 7] (L' := [(0, .int .u64 p_x), (1, .int .u64 p_a), (7, .int .u64 p_a)]) hf (by kernel_rfl) ?_
  clear hf; clear a; intro a hf
  have hT := of_bd hS; clear hS; obtain ⟨z1, hz1, hS⟩ := hT
  refine cl ent29 (vs := [.int .u64 p_a]) hf (by kernel_rfl) (by kernel_rfl) (by kernel_rfl) (ref01_power_ok  hz1) ?_
  clear hf; clear a; intro v w1 a hT hf; obtain ⟨rfl, hx⟩ := hT
  replace hE := hE.tr hx
  replace hf := Fr.keep (ks := [0, 1, 8]) (L' := [(0, .int .u64 p_x), (1, .int .u64 p_a), (8, .bool z1)]) hf (by kernel_rfl)
  refine st tbOk 1 [0, 1, 6] (L' := [(0, .int .u64 p_x), (1, .int .u64 p_a), (6, .bool z1)]) hf (by kernel_rfl) ?_
  clear hf; clear a; intro a hf
  refine wpList_nil ?_
  refine sq ?_
  refine sq ?_
  refine reg ?_
  refine st tbOk 2 [0, 1, 10] (L' := [(0, .int .u64 p_x), (1, .int .u64 p_a), (10, .bool (!z1))]) hf (by kernel_rfl) ?_
  clear hf; clear a; intro a hf
  refine wpList_nil ?_
  refine cnd (b := !z1) hf (by kernel_rfl) (fun hb1 => ?_) (fun hb1 => ?_)
  · replace hS := of_t hb1 hS
    refine sq ?_
    refine reg ?_
    refine st tbOk 2 [4, 5] (L' := [(4, .int .u64 0), (5, .int .i64 1)]) hf (by kernel_rfl) ?_
    clear hf; clear a; intro a hf
    refine wpList_nil ?_
    have hr := Option.some.inj hS; subst hr
    refine wp_ret ?_
    exact ret_ok hf (vs := [.int .u64 0, .int .i64 1]) (by kernel_rfl) ⟨rfl, hE⟩
  · replace hS := of_f hb1 hS
    refine wp_skip ?_
    refine sq ?_
    refine reg ?_
    refine st tbOk 2 [1, 11, 12] (L' := [(1, .int .u64 p_a), (11, .int .u64 p_x), (12, .int .u64 p_a)]) hf (by kernel_rfl) ?_
    clear hf; clear a; intro a hf
    have hT := of_gd hS; clear hS; obtain ⟨hc1, hS⟩ := hT
    refine bin (run_quo (k := .u64) (x := p_x) hc1 _) hf (by kernel_rfl) (by kernel_rfl) (by kernel_rfl) (by kernel_rfl) ?_
    clear hf; clear a; intro a hf
    replace hf := Fr.keep (ks := [1, 13]) (L' := [(1, .int .u64 p_a), (13, .int .u64 (IntKind.u64.wrap (Int.tdiv p_x p_a)))]) hf (by kernel_rfl)
    refine st tbOk 4 [4, 5] (L' := [(4, .int .u64 (IntKind.u64.wrap ((IntKind.u64.wrap (Int.tdiv p_x p_a)) * p_a))), (5, .int .i64 0)]) hf (by kernel_rfl) ?_
    clear hf; clear a; intro a hf
    refine wpList_nil ?_
    have hr := Option.some.inj hS; subst hr
    refine wp_ret ?_
    exact ret_ok hf (vs := [.int .u64 (IntKind.u64.wrap ((IntKind.u64.wrap (Int.tdiv p_x p_a)) * p_a)), .int .i64 0]) (by kernel_rfl) ⟨rfl, hE⟩

theorem law01_OctetsRounds_ok {w : World} {p_x : Int} {p_a : Int}  {r : Bool} (hS : law01_OctetsRounds p_x p_a = some r) :
    Calls Try.prog 6 #[.int .u64 p_x, .int .u64 p_a] w (Gives (fun u w' => u = .bool r ∧ Ext w w')) := by
  unfold law01_OctetsRounds at hS
  refine fn_ok (vs := [.int .u64 p_x, .int .u64 p_a]) Try.func6 rfl 59 Try.ntmps6 (Nat.le_of_ble_eq_true rfl) ?_
  intro a hf
  replace hf := Fr.cast (L' := [(0, .int .u64 p_x), (1, .int .u64 p_a)]) hf (by kernel_rfl)
  have hE := Ext.rfl' w
  refine sq ?_
  refine reg ?_
  refine st tbOk 1 [0, 1] (L' := [(0, .int .u64 p_x), (1, .int .u64 p_a)]) hf (by kernel_rfl) ?_
  clear hf; clear a; intro a hf
  refine wpList_nil ?_
  refine sq ?_
  refine reg ?_
  have hT := of_bd hS; clear hS; obtain ⟨z1, hz1, hS⟩ := hT
  refine cl ent11 (vs := []) hf (by kernel_rfl) (by kernel_rfl) (by kernel_rfl) (law01_awake_ok  hz1) ?_
  clear hf; clear a; intro v w1 a hT hf; obtain ⟨rfl, hx⟩ := hT
  replace hE := hE.tr hx
  replace hf := Fr.keep (ks := [0, 1, 14]) (L' := [(0, .int .u64 p_x), (1, .int .u64 p_a), (14, .bool z1)]) hf (by kernel_rfl)
  refine st tbOk 1 [0, 1, 5] (L' := [(0, .int .u64 p_x), (1, .int .u64 p_a), (5, .bool z1)]) hf (by kernel_rfl) ?_
  clear hf; clear a; intro a hf
  refine wpList_nil ?_
  refine sq ?_
  refine sq ?_
  refine reg ?_
  refine st tbOk 2 [0, 1, 16] (L' := [(0, .int .u64 p_x), (1, .int .u64 p_a), (16, .bool (!z1))]) hf (by kernel_rfl) ?_
  clear hf; clear a; intro a hf
  refine wpList_nil ?_
  refine cnd (b := !z1) hf (by kernel_rfl) (fun hb1 => ?_) (fun hb1 => ?_)
  · replace hS := of_t hb1 hS
    refine sq ?_
    refine reg ?_
    refine st tbOk 1 [4] (L' := [(4, .bool false)]) hf (by kernel_rfl) ?_
    clear hf; clear a; intro a hf
    refine wpList_nil ?_
    have hr := Option.some.inj hS; subst hr
    refine wp_ret ?_
    exact ret_ok hf (vs := [.bool false]) (by kernel_rfl) ⟨rfl, hE⟩
  · replace hS := of_f hb1 hS
    refine wp_skip ?_
    refine sq ?_
    refine reg ?_
    refine st tbOk 2 [0, 1, 18, 19] (L' := [(0, .int .u64 p_x), (1, .int .u64 p_a), (18, .int .u64 p_x), (19, .int .u64 p_a)]) hf (by kernel_rfl) ?_
    clear hf; clear a; intro a hf
    have hT := of_bd hS; clear hS; obtain ⟨z2, hz2, hS⟩ := hT
    refine cl ent18 (vs := [.int .u64 p_x, .int .u64 p_a]) hf (by kernel_rfl) (by kernel_rfl) (by kernel_rfl) (octets_Up_ok  hz2) ?_
    clear hf; clear a; intro v w2 a hT hf; obtain ⟨rfl, hx⟩ := hT
    replace hE := hE.tr hx
    replace hf := Fr.keep (ks := [0, 1, 20]) (L' := [(0, .int .u64 p_x), (1, .int .u64 p_a), (20, .tuple #[.int .u64 z2.1, .int .i64 z2.2])]) hf (by kernel_rfl)
    refine st tbOk 5 [0, 1, 6, 7] (L' := [(0, .int .u64 p_x), (1, .int .u64 p_a), (6, .int .u64 z2.1), (7, .int .i64 z2.2)]) hf (by kernel_rfl) ?_
    clear hf; clear a; intro a hf
    refine wpList_nil ?_
    refine sq ?_
    refine reg ?_
    refine st tbOk 2 [0, 1, 6, 7, 24, 25] (L' := [(0, .int .u64 p_x), (1, .int .u64 p_a), (6, .int .u64 z2.1), (7, .int .i64 z2.2), (24, .int .u64 p_x), (25, .int .u64 p_a)]) hf (by kernel_rfl) ?_
    clear hf; clear a; intro a hf
    have hT := of_bd hS; clear hS; obtain ⟨z3, hz3, hS⟩ := hT
    refine cl ent19 (vs := [.int .u64 p_x, .int .u64 p_a]) hf (by kernel_rfl) (by kernel_rfl) (by kernel_rfl) (ref01_Up_ok  hz3) ?_
    clear hf; clear a; intro v w3 a hT hf; obtain ⟨rfl, hx⟩ := hT
    replace hE := hE.tr hx
    replace hf := Fr.keep (ks := [0, 1, 6, 7, 26]) (L' := [(0, .int .u64 p_x), (1, .int .u64 p_a), (6, .int .u64 z2.1), (7, .int .i64 z2.2), (26, .tuple #[.int .u64 z3.1, .int .i64 z3.2])]) hf (by kernel_rfl)
    refine st tbOk 5 [0, 1, 6, 7, 8, 9] (L' := [(0, .int .u64 p_x), (1, .int .u64 p_a), (6, .int .u64 z2.1), (7, .int .i64 z2.2), (8, .int .u64 z3.1), (9, .int .i64 z3.2)]) hf (by kernel_rfl) ?_
    clear hf; clear a; intro a hf
    refine wpList_nil ?_
    refine sq ?_
    refine reg ?_
    refine st tbOk 2 [0, 1, 6, 7, 8, 9, 30, 31] (L' := [(0, .int .u64 p_x), (1, .int .u64 p_a), (6, .int .u64 z2.1), (7, .int .i64 z2.2), (8, .int .u64 z3.1), (9, .int .i64 z3.2), (30, .int .u64 p_x), (31, .int .u64 p_a)]) hf (by kernel_rfl) ?_
    clear hf; clear a; intro a hf
    have hT := of_bd hS; clear hS; obtain ⟨z4, hz4, hS⟩ := hT
    refine cl ent20 (vs := [.int .u64 p_x, .int .u64 p_a]) hf (by kernel_rfl) (by kernel_rfl) (by kernel_rfl) (octets_Down_ok  hz4) ?_
    clear hf; clear a; intro v w4 a hT hf; obtain ⟨rfl, hx⟩ := hT
    replace hE := hE.tr hx
    replace hf := Fr.keep (ks := [0, 1, 6, 7, 8, 9, 32]) (L' := [(0, .int .u64 p_x), (1, .int .u64 p_a), (6, .int .u64 z2.1), (7, .int .i64 z2.2), (8, .int .u64 z3.1), (9, .int .i64 z3.2), (32, .tuple #[.int .u64 z4.1, .int .i64 z4.2])]) hf (by kernel_rfl)
    refine st tbOk 5 [0, 1, 6, 7, 8, 9, 10, 11] (L' := [(0, .int .u64 p_x), (1, .int .u64 p_a), (6, .int .u64 z2.1), (7, .int .i64 z2.2), (8, .int .u64 z3.1), (9, .int .i64 z3.2), (10, .int .u64 z4.1), (11, .int .i64 z4.2)]) hf (by kernel_rfl) ?_
    clear hf; clear a; intro a hf
    refine wpList_nil ?_
    refine sq ?_
    refine reg ?_
    refine st tbOk 2 [6, 7, 8, 9, 10, 11, 36, 37] (L' := [(6, .int .u64 z2.1), (7, .int .i64 z2.2), (8, .int .u64 z3.1), (9, .int .i64 z3.2), (10, .int .u64 z4.1), (11, .int .i64 z4.2), (36, .int .u64 p_x), (37, .int .u64 p_a)]) hf (by kernel_rfl) ?_
    clear hf; clear a; intro a hf
    have hT := of_bd hS; clear hS; obtain ⟨z5, hz5, hS⟩ := hT
    refine cl ent21 (vs := [.int .u64 p_x, .int .u64 p_a]) hf (by kernel_rfl) (by kernel_rfl) (by kernel_rfl) (ref01_Down_ok  hz5) ?_
    clear hf; clear a; intro v w5 a hT hf; obtain ⟨rfl, hx⟩ := hT
    replace hE := hE.tr hx
    replace hf := Fr.keep (ks := [6, 7, 8, 9, 10, 11, 38]) (L' := [(6, .int .u64 z2.1), (7, .int .i64 z2.2), (8, .int .u64 z3.1), (9, .int .i64 z3.2), (10, .int .u64 z4.1), (11, .int .i64 z4.2), (38, .tuple #[.int .u64 z5.1, .int .i64 z5.2])]) hf (by kernel_rfl)
    refine st tbOk 5 [6, 7, 8, 9, 10, 11, 12, 13] (L' := [(6, .int .u64 z2.1), (7, .int .i64 z2.2), (8, .int .u64 z3.1), (9, .int .i64 z3.2), (10, .int .u64 z4.1), (11, .int .i64 z4.2), (12, .int .u64 z5.1), (13, .int .i64 z5.2)]) hf (by kernel_rfl) ?_
    clear hf; clear a; intro a hf
    refine wpList_nil ?_
    refine sq ?_
    refine ctj (fun (s1 : Bool) (a : Act) (w' : World) => Ext w w' ∧ Fr 59 [(4, .bool s1)] a) hS ?_ ?_
    · clear hS hf; clear a; clear hE; intro s1 a w6 hM hS
      obtain ⟨hE, hf⟩ := hM
      have hr := Option.some.inj hS; subst hr
      refine wp_ret ?_
      exact ret_ok hf (vs := [.bool s1]) (by kernel_rfl) ⟨rfl, hE⟩
    · clear hS; intro KK1 k1 hK1 hS
      refine reg ?_
      refine st tbOk 4 [7, 9, 10, 11, 12, 13, 44] (L' := [(7, .int .i64 z2.2), (9, .int .i64 z3.2), (10, .int .u64 z4.1), (11, .int .i64 z4.2), (12, .int .u64 z5.1), (13, .int .i64 z5.2), (44, .bool (z2.1 == z3.1))]) hf (by kernel_rfl) ?_
      clear hf; clear a; intro a hf
      rcases Bool.eq_false_or_eq_true (z2.1 == z3.1) with hb2 | hb2
      · replace hS := of_t hb2 hS
        replace hf := Fr.cast (L' := [(7, .int .i64 z2.2), (9, .int .i64 z3.2), (10, .int .u64 z4.1), (11, .int .i64 z4.2), (12, .int .u64 z5.1), (13, .int .i64 z5.2), (44, .bool true)]) hf (by rw [hb2])
        refine st tbOk 5 [10, 11, 12, 13, 49] (L' := [(10, .int .u64 z4.1), (11, .int .i64 z4.2), (12, .int .u64 z5.1), (13, .int .i64 z5.2), (49, .bool (z2.2 == z3.2))]) hf (by kernel_rfl) ?_
        clear hf; clear a; intro a hf
        rcases Bool.eq_false_or_eq_true (z2.2 == z3.2) with hb3 | hb3
        · replace hS := of_t hb3 hS
          replace hf := Fr.cast (L' := [(10, .int .u64 z4.1), (11, .int .i64 z4.2), (12, .int .u64 z5.1), (13, .int .i64 z5.2), (49, .bool true)]) hf (by rw [hb3])
          refine st tbOk 5 [11, 13, 54] (L' := [(11, .int .i64 z4.2), (13, .int .i64 z5.2), (54, .bool (z4.1 == z5.1))]) hf (by kernel_rfl) ?_
          clear hf; clear a; intro a hf
          rcases Bool.eq_false_or_eq_true (z4.1 == z5.1) with hb4 | hb4
          · replace hS := of_t hb4 hS
            replace hf := Fr.cast (L' := [(11, .int .i64 z4.2), (13, .int .i64 z5.2), (54, .bool true)]) hf (by rw [hb4])
            refine st tbOk 5 [4] (L' := [(4, .bool (z4.2 == z5.2))]) hf (by kernel_rfl) ?_
            clear hf; clear a; intro a hf
            refine wpList_nil ?_
            exact hK1 (z4.2 == z5.2) _ _ ⟨hE, hf.keep (ks := [4]) (by kernel_rfl)⟩ hS
          · replace hS := of_f hb4 hS
            replace hf := Fr.cast (L' := [(11, .int .i64 z4.2), (13, .int .i64 z5.2), (54, .bool false)]) hf (by rw [hb4])
            refine st tbOk 5 [4] (L' := [(4, .bool false)]) hf (by kernel_rfl) ?_
            clear hf; clear a; intro a hf
            refine wpList_nil ?_
            exact hK1 false _ _ ⟨hE, hf.keep (ks := [4]) (by kernel_rfl)⟩ hS
        · replace hS := of_f hb3 hS
          replace hf := Fr.cast (L' := [(10, .int .u64 z4.1), (11, .int .i64 z4.2), (12, .int .u64 z5.1), (13, .int .i64 z5.2), (49, .bool false)]) hf (by rw [hb3])
          refine st tbOk 10 [4] (L' := [(4, .bool false)]) hf (by kernel_rfl) ?_
          clear hf; clear a; intro a hf
          refine wpList_nil ?_
          exact hK1 false _ _ ⟨hE, hf.keep (ks := [4]) (by kernel_rfl)⟩ hS
      · replace hS := of_f hb2 hS
        replace hf := Fr.cast (L' := [(7, .int .i64 z2.2), (9, .int .i64 z3.2), (10, .int .u64 z4.1), (11, .int .i64 z4.2), (12, .int .u64 z5.1), (13, .int .i64 z5.2), (44, .bool false)]) hf (by rw [hb2])
        refine st tbOk 15 [4] (L' := [(4, .bool false)]) hf (by kernel_rfl) ?_
        clear hf; clear a; intro a hf
        refine wpList_nil ?_
        exact hK1 false _ _ ⟨hE, hf.keep (ks := [4]) (by kernel_rfl)⟩ hS

theorem ref01_Meet_ok {w : World} {p_a : Int} {m : Int} {b : Int} {n : Int}  {r : Bool} (hS : ref01_Meet p_a m b n = some r) :
    Calls Try.prog 22 #[.int .u64 p_a, .int .u64 m, .int .u64 b, .int .u64 n] w (Gives (fun u w' => u = .bool r ∧ Ext w w')) := by
  unfold ref01_Meet at hS
  refine fn_ok (vs := [.int .u64 p_a, .int .u64 m, .int .u64 b, .int .u64 n]) Try.func22 rfl 28 Try.ntmps22 (Nat.le_of_ble_eq_true rfl) ?_
  intro a hf
  replace hf := Fr.cast (L' := [(0, .int .u64 p_a), (1, .int .u64 m), (2, .int .u64 b), (3, .int .u64 n)]) hf (by kernel_rfl)
  have hE := Ext.rfl' w
  refine sq ?_
  refine reg ?_
  refine st tbOk 1 [0, 1, 2, 3] (L' := [(0, .int .u64 p_a), (1, .int .u64 m), (2, .int .u64 b), (3, .int .u64 n)]) hf (by kernel_rfl) ?_
  clear hf; clear a; intro a hf
  refine wpList_nil ?_
  refine sq ?_
  refine sq ?_
  refine ctj (fun (s1 : Bool) (a : Act) (w' : World) => Ext w w' ∧ Fr 28 [(0, .int .u64 p_a), (1, .int .u64 m), (2, .int .u64 b), (3, .int .u64 n), (14, .bool s1)] a) hS ?_ ?_
  · clear hS hf; clear a; clear hE; intro s1 a w1 hM hS
    obtain ⟨hE, hf⟩ := hM
    refine cnd (b := s1) hf (by kernel_rfl) (fun hb2 => ?_) (fun hb2 => ?_)
    · replace hS := of_t hb2 hS
      refine sq ?_
      refine reg ?_
      refine st tbOk 1 [8] (L' := [(8, .bool false)]) hf (by kernel_rfl) ?_
      clear hf; clear a; intro a hf
      refine wpList_nil ?_
      have hr := Option.some.inj hS; subst hr
      refine wp_ret ?_
      exact ret_ok hf (vs := [.bool false]) (by kernel_rfl) ⟨rfl, hE⟩
    · replace hS := of_f hb2 hS
      refine wp_skip ?_
      refine sq ?_
      refine sq ?_
      refine reg ?_
      refine st tbOk 3 [0, 1, 2, 3, 17] (L' := [(0, .int .u64 p_a), (1, .int .u64 m), (2, .int .u64 b), (3, .int .u64 n), (17, .bool (decide (p_a ≤ b)))]) hf (by kernel_rfl) ?_
      clear hf; clear a; intro a hf
      refine wpList_nil ?_
      refine cnd (b := decide (p_a ≤ b)) hf (by kernel_rfl) (fun hb3 => ?_) (fun hb3 => ?_)
      · replace hS := of_t hb3 hS
        refine sq ?_
        refine reg ?_
        refine st tbOk 6 [8] (L' := [(8, .bool (decide ((IntKind.u64.wrap (b - p_a)) < m)))]) hf (by kernel_rfl) ?_
        clear hf; clear a; intro a hf
        refine wpList_nil ?_
        have hr := Option.some.inj hS; subst hr
        refine wp_ret ?_
        exact ret_ok hf (vs := [.bool (decide ((IntKind.u64.wrap (b - p_a)) < m))]) (by kernel_rfl) ⟨rfl, hE⟩
      · replace hS := of_f hb3 hS
        refine wp_skip ?_
        refine sq ?_
        refine reg ?_
        refine st tbOk 6 [8] (L' := [(8, .bool (decide ((IntKind.u64.wrap (p_a - b)) < n)))]) hf (by kernel_rfl) ?_
        clear hf; clear a; intro a hf
        refine wpList_nil ?_
        have hr := Option.some.inj hS; subst hr
        refine wp_ret ?_
        exact ret_ok hf (vs := [.bool (decide ((IntKind.u64.wrap (p_a - b)) < n))]) (by kernel_rfl) ⟨rfl, hE⟩
  · clear hS; intro KK1 k1 hK1 hS
    refine reg ?_
    refine st tbOk 3 [0, 1, 2, 3, 11] (L' := [(0, .int .u64 p_a), (1, .int .u64 m), (2, .int .u64 b), (3, .int .u64 n), (11, .bool (m == 0))]) hf (by kernel_rfl) ?_
    clear hf; clear a; intro a hf
    rcases Bool.eq_false_or_eq_true (m == 0) with hb1 | hb1
    · replace hS := of_t hb1 hS
      replace hf := Fr.cast (L' := [(0, .int .u64 p_a), (1, .int .u64 m), (2, .int .u64 b), (3, .int .u64 n), (11, .bool true)]) hf (by rw [hb1])
      refine st tbOk 3 [0, 1, 2, 3, 14] (L' := [(0, .int .u64 p_a), (1, .int .u64 m), (2, .int .u64 b), (3, .int .u64 n), (14, .bool true)]) hf (by kernel_rfl) ?_
      clear hf; clear a; intro a hf
      refine wpList_nil ?_
      exact hK1 true _ _ ⟨hE, hf.keep (ks := [0, 1, 2, 3, 14]) (by kernel_rfl)⟩ hS
    · replace hS := of_f hb1 hS
      replace hf := Fr.cast (L' := [(0, .int .u64 p_a), (1, .int .u64 m), (2, .int .u64 b), (3, .int .u64 n), (11, .bool false)]) hf (by rw [hb1])
      refine st tbOk 3 [0, 1, 2, 3, 14] (L' := [(0, .int .u64 p_a), (1, .int .u64 m), (2, .int .u64 b), (3, .int .u64 n), (14, .bool (n == 0))]) hf (by kernel_rfl) ?_
      clear hf; clear a; intro a hf
      refine wpList_nil ?_
      exact hK1 (n == 0) _ _ ⟨hE, hf.keep (ks := [0, 1, 2, 3, 14]) (by kernel_rfl)⟩ hS

theorem law01_OctetsMeets_ok {w : World} {p_a : Int} {m : Int} {b : Int} {n : Int}  {r : Bool} (hS : law01_OctetsMeets p_a m b n = some r) :
    Calls Try.prog 7 #[.int .u64 p_a, .int .u64 m, .int .u64 b, .int .u64 n] w (Gives (fun u w' => u = .bool r ∧ Ext w w')) := by
  unfold law01_OctetsMeets at hS
  refine fn_ok (vs := [.int .u64 p_a, .int .u64 m, .int .u64 b, .int .u64 n]) Try.func7 rfl 35 Try.ntmps7 (Nat.le_of_ble_eq_true rfl) ?_
  intro a hf
  replace hf := Fr.cast (L' := [(0, .int .u64 p_a), (1, .int .u64 m), (2, .int .u64 b), (3, .int .u64 n)]) hf (by kernel_rfl)
  have hE := Ext.rfl' w
  refine sq ?_
  refine reg ?_
  refine st tbOk 1 [0, 1, 2, 3] (L' := [(0, .int .u64 p_a), (1, .int .u64 m), (2, .int .u64 b), (3, .int .u64 n)]) hf (by kernel_rfl) ?_
  clear hf; clear a; intro a hf
  refine wpList_nil ?_
  refine sq ?_
  refine reg ?_
  have hT := of_bd hS; clear hS; obtain ⟨z1, hz1, hS⟩ := hT
  refine cl ent11 (vs := []) hf (by kernel_rfl) (by kernel_rfl) (by kernel_rfl) (law01_awake_ok  hz1) ?_
  clear hf; clear a; intro v w1 a hT hf; obtain ⟨rfl, hx⟩ := hT
  replace hE := hE.tr hx
  replace hf := Fr.keep (ks := [0, 1, 2, 3, 11]) (L' := [(0, .int .u64 p_a), (1, .int .u64 m), (2, .int .u64 b), (3, .int .u64 n), (11, .bool z1)]) hf (by kernel_rfl)
  refine st tbOk 1 [0, 1, 2, 3, 9] (L' := [(0, .int .u64 p_a), (1, .int .u64 m), (2, .int .u64 b), (3, .int .u64 n), (9, .bool z1)]) hf (by kernel_rfl) ?_
  clear hf; clear a; intro a hf
  refine wpList_nil ?_
  refine sq ?_
  refine sq ?_
  refine reg ?_
  refine st tbOk 2 [0, 1, 2, 3, 13] (L' := [(0, .int .u64 p_a), (1, .int .u64 m), (2, .int .u64 b), (3, .int .u64 n), (13, .bool (!z1))]) hf (by kernel_rfl) ?_
  clear hf; clear a; intro a hf
  refine wpList_nil ?_
  refine cnd (b := !z1) hf (by kernel_rfl) (fun hb1 => ?_) (fun hb1 => ?_)
  · replace hS := of_t hb1 hS
    refine sq ?_
    refine reg ?_
    refine st tbOk 1 [8] (L' := [(8, .bool false)]) hf (by kernel_rfl) ?_
    clear hf; clear a; intro a hf
    refine wpList_nil ?_
    have hr := Option.some.inj hS; subst hr
    refine wp_ret ?_
    exact ret_ok hf (vs := [.bool false]) (by kernel_rfl) ⟨rfl, hE⟩
  · replace hS := of_f hb1 hS
    refine wp_skip ?_
    refine sq ?_
    refine reg ?_
    refine st tbOk 4 [0, 1, 2, 3, 14, 15, 16, 17] (L' := [(0, .int .u64 p_a), (1, .int .u64 m), (2, .int .u64 b), (3, .int .u64 n), (14, .int .u64 p_a), (15, .int .u64 m), (16, .int .u64 b), (17, .int .u64 n)]) hf (by kernel_rfl) ?_
    clear hf; clear a; intro a hf
    have hT := of_bd hS; clear hS; obtain ⟨z2, hz2, hS⟩ := hT
    refine cl ent22 (vs := [.int .u64 p_a, .int .u64 m, .int .u64 b, .int .u64 n]) hf (by kernel_rfl) (by kernel_rfl) (by kernel_rfl) (ref01_Meet_ok  hz2) ?_
    clear hf; clear a; intro v w2 a hT hf; obtain ⟨rfl, hx⟩ := hT
    replace hE := hE.tr hx
    replace hf := Fr.keep (ks := [0, 1, 2, 3, 18]) (L' := [(0, .int .u64 p_a), (1, .int .u64 m), (2, .int .u64 b), (3, .int .u64 n), (18, .bool z2)]) hf (by kernel_rfl)
    refine st tbOk 1 [0, 1, 2, 3, 10] (L' := [(0, .int .u64 p_a), (1, .int .u64 m), (2, .int .u64 b), (3, .int .u64 n), (10, .bool z2)]) hf (by kernel_rfl) ?_
    clear hf; clear a; intro a hf
    refine wpList_nil ?_
    refine sq ?_
    refine ctj (fun (s1 : Bool) (a : Act) (w' : World) => Ext w w' ∧ Fr 35 [(8, .bool s1)] a) hS ?_ ?_
    · clear hS hf; clear a; clear hE; intro s1 a w5 hM hS
      obtain ⟨hE, hf⟩ := hM
      have hr := Option.some.inj hS; subst hr
      refine wp_ret ?_
      exact ret_ok hf (vs := [.bool s1]) (by kernel_rfl) ⟨rfl, hE⟩
    · clear hS; intro KK1 k1 hK1 hS
      refine reg ?_
      refine st tbOk 4 [0, 1, 2, 3, 10, 19, 20, 21, 22] (L' := [(0, .int .u64 p_a), (1, .int .u64 m), (2, .int .u64 b), (3, .int .u64 n), (10, .bool z2), (19, .int .u64 p_a), (20, .int .u64 m), (21, .int .u64 b), (22, .int .u64 n)]) hf (by kernel_rfl) ?_
      clear hf; clear a; intro a hf
      have hT := of_bd hS; clear hS; obtain ⟨z3, hz3, hS⟩ := hT
      refine cl ent23 (vs := [.int .u64 p_a, .int .u64 m, .int .u64 b, .int .u64 n]) hf (by kernel_rfl) (by kernel_rfl) (by kernel_rfl) (octets_Meet_ok  hz3) ?_
      clear hf; clear a; intro v w3 a hT hf; obtain ⟨rfl, hx⟩ := hT
      replace hE := hE.tr hx
      replace hf := Fr.keep (ks := [0, 1, 2, 3, 10, 23]) (L' := [(0, .int .u64 p_a), (1, .int .u64 m), (2, .int .u64 b), (3, .int .u64 n), (10, .bool z2), (23, .bool z3)]) hf (by kernel_rfl)
      refine st tbOk 3 [0, 1, 2, 3, 10, 26] (L' := [(0, .int .u64 p_a), (1, .int .u64 m), (2, .int .u64 b), (3, .int .u64 n), (10, .bool z2), (26, .bool (z3 == z2))]) hf (by kernel_rfl) ?_
      clear hf; clear a; intro a hf
      rcases Bool.eq_false_or_eq_true (z3 == z2) with hb2 | hb2
      · replace hS := of_t hb2 hS
        replace hf := Fr.cast (L' := [(0, .int .u64 p_a), (1, .int .u64 m), (2, .int .u64 b), (3, .int .u64 n), (10, .bool z2), (26, .bool true)]) hf (by rw [hb2])
        refine st tbOk 4 [10, 26, 27, 28, 29, 30] (L' := [(10, .bool z2), (26, .bool true), (27, .int .u64 b), (28, .int .u64 n), (29, .int .u64 p_a), (30, .int .u64 m)]) hf (by kernel_rfl) ?_
        clear hf; clear a; intro a hf
        have hT := of_bd hS; clear hS; obtain ⟨z4, hz4, hS⟩ := hT
        refine cl ent23 (vs := [.int .u64 b, .int .u64 n, .int .u64 p_a, .int .u64 m]) hf (by kernel_rfl) (by kernel_rfl) (by kernel_rfl) (octets_Meet_ok  hz4) ?_
        clear hf; clear a; intro v w4 a hT hf; obtain ⟨rfl, hx⟩ := hT
        replace hE := hE.tr hx
        replace hf := Fr.keep (ks := [10, 26, 31]) (L' := [(10, .bool z2), (26, .bool true), (31, .bool z4)]) hf (by kernel_rfl)
        refine st tbOk 4 [8] (L' := [(8, .bool (z4 == z2))]) hf (by kernel_rfl) ?_
        clear hf; clear a; intro a hf
        refine wpList_nil ?_
        exact hK1 (z4 == z2) _ _ ⟨hE, hf.keep (ks := [8]) (by kernel_rfl)⟩ hS
      · replace hS := of_f hb2 hS
        replace hf := Fr.cast (L' := [(0, .int .u64 p_a), (1, .int .u64 m), (2, .int .u64 b), (3, .int .u64 n), (10, .bool z2), (26, .bool false)]) hf (by rw [hb2])
        refine st tbOk 9 [8] (L' := [(8, .bool false)]) hf (by kernel_rfl) ?_
        clear hf; clear a; intro a hf
        refine wpList_nil ?_
        exact hK1 false _ _ ⟨hE, hf.keep (ks := [8]) (by kernel_rfl)⟩ hS

theorem law01_OctetsBack_ok {w : World} {b : List Int} {p_at : Int} {p_which : Int} {p_x : Int} {v_b : Value} (h_b : RO (hp w) (tI .u8) v_b b) {r : Bool} (hS : law01_OctetsBack b p_at p_which p_x = some r) :
    Calls Try.prog 8 #[v_b, .int .i64 p_at, .int .i64 p_which, .int .u64 p_x] w (Gives (fun u w' => u = .bool r ∧ Ext w w')) := by
  obtain ⟨ao_b, cp_b, e_b⟩ := h_b.shape; subst e_b
  unfold law01_OctetsBack at hS
  refine fn_ok (vs := [.slice ao_b b.length cp_b, .int .i64 p_at, .int .i64 p_which, .int .u64 p_x]) Try.func8 rfl 164 Try.ntmps8 (Nat.le_of_ble_eq_true rfl) ?_
  intro a hf
  replace hf := Fr.cast (L' := [(0, .slice ao_b b.length cp_b), (1, .int .i64 p_at), (2, .int .i64 p_which), (3, .int .u64 p_x)]) hf (by kernel_rfl)
  have hE := Ext.rfl' w
  refine sq ?_
  refine reg ?_
  refine st tbOk 1 [0, 1, 2, 3] (L' := [(0, .slice ao_b b.length cp_b), (1, .int .i64 p_at), (2, .int .i64 p_which), (3, .int .u64 p_x)]) hf (by kernel_rfl) ?_
  clear hf; clear a; intro a hf
  refine wpList_nil ?_
  refine sq ?_
  refine reg ?_
  have hT := of_bd hS; clear hS; obtain ⟨z1, hz1, hS⟩ := hT
  refine cl ent11 (vs := []) hf (by kernel_rfl) (by kernel_rfl) (by kernel_rfl) (law01_awake_ok  hz1) ?_
  clear hf; clear a; intro v w1 a hT hf; obtain ⟨rfl, hx⟩ := hT
  replace hE := hE.tr hx
  replace hf := Fr.keep (ks := [0, 1, 2, 3, 21]) (L' := [(0, .slice ao_b b.length cp_b), (1, .int .i64 p_at), (2, .int .i64 p_which), (3, .int .u64 p_x), (21, .bool z1)]) hf (by kernel_rfl)
  refine st tbOk 1 [0, 1, 2, 3, 9] (L' := [(0, .slice ao_b b.length cp_b), (1, .int .i64 p_at), (2, .int .i64 p_which), (3, .int .u64 p_x), (9, .bool z1)]) hf (by kernel_rfl) ?_
  clear hf; clear a; intro a hf
  refine wpList_nil ?_
  refine sq ?_
  refine sq ?_
  refine reg ?_
  refine st tbOk 2 [0, 1, 2, 3, 23] (L' := [(0, .slice ao_b b.length cp_b), (1, .int .i64 p_at), (2, .int .i64 p_which), (3, .int .u64 p_x), (23, .bool (!z1))]) hf (by kernel_rfl) ?_
  clear hf; clear a; intro a hf
  refine wpList_nil ?_
  refine cnd (b := !z1) hf (by kernel_rfl) (fun hb1 => ?_) (fun hb1 => ?_)
  · replace hS := of_t hb1 hS
    refine sq ?_
    refine reg ?_
    refine st tbOk 1 [8] (L' := [(8, .bool false)]) hf (by kernel_rfl) ?_
    clear hf; clear a; intro a hf
    refine wpList_nil ?_
    have hr := Option.some.inj hS; subst hr
    refine wp_ret ?_
    exact ret_ok hf (vs := [.bool false]) (by kernel_rfl) ⟨rfl, hE⟩
  · replace hS := of_f hb1 hS
    refine wp_skip ?_
    refine sq ?_
    refine sq ?_
    refine ctj (fun (s1 : Bool) (a : Act) (w' : World) => Ext w w' ∧ Fr 164 [(0, .slice ao_b b.length cp_b), (1, .int .i64 p_at), (2, .int .i64 p_which), (3, .int .u64 p_x), (31, .bool s1)] a) hS ?_ ?_
    · clear hS hf; clear a; clear hE; intro s1 a w2 hM hS
      obtain ⟨hE, hf⟩ := hM
      refine cnd (b := s1) hf (by kernel_rfl) (fun hb3 => ?_) (fun hb3 => ?_)
      · replace hS := of_t hb3 hS
        refine sq ?_
        refine reg ?_
        refine st tbOk 1 [8] (L' := [(8, .bool true)]) hf (by kernel_rfl) ?_
        clear hf; clear a; intro a hf
        refine wpList_nil ?_
        have hr := Option.some.inj hS; subst hr
        refine wp_ret ?_
        exact ret_ok hf (vs := [.bool true]) (by kernel_rfl) ⟨rfl, hE⟩
      · replace hS := of_f hb3 hS
        refine wp_skip ?_
        refine sq ?_
        refine reg ?_
        refine bs tbOk u37 i3 rfl (t := (tI .i64)) (vs := [(0, .int .i64 1), (1, .int .i64 2), (2, .int .i64 4), (3, .int .i64 8)]) (cells := #[.int .i64 1, .int .i64 2, .int .i64 4, .int .i64 8]) ([1, 2, 4, 8] : List Int) hf (by kernel_rfl) (by kernel_rfl) (by kernel_rfl) rfl (by kernel_rfl) (reps_flat _) rfl ?_
        clear hf; clear a; intro w3 a ho1 hx hz hf
        replace ho1 := ho1.base hE.size
        replace hE := hE.tr hx
        replace hf := Fr.keep (ks := [0, 1, 2, 3, 32]) (L' := [(0, .slice ao_b b.length cp_b), (1, .int .i64 p_at), (2, .int .i64 p_which), (3, .int .u64 p_x), (32, .slice (some ⟨w2.heap.size, 0, none⟩) ([1, 2, 4, 8] : List Int).length ([1, 2, 4, 8] : List Int).length)]) hf (by kernel_rfl)
        refine st tbOk 2 [0, 1, 3, 32, 34] (L' := [(0, .slice ao_b b.length cp_b), (1, .int .i64 p_at), (3, .int .u64 p_x), (32, .slice (some ⟨w2.heap.size, 0, none⟩) ([1, 2, 4, 8] : List Int).length ([1, 2, 4, 8] : List Int).length), (34, .int .i64 (band .i64 p_which 3))]) hf (by kernel_rfl) ?_
        clear hf; clear a; intro a hf
        have hT := of_gd hS; clear hS; obtain ⟨hc1, hS⟩ := hT
        refine ix tbOk u37 i3 rfl rfl (ho1.ro (mt_le _)) (k := .i64) (n := band .i64 p_which 3) hc1 hf (by kernel_rfl) (by kernel_rfl) (by kernel_rfl) (by kernel_rfl) ?_
        clear hf; clear a; intro p1 c1 a hp1 hr1 hf
        obtain rfl : c1 = [.int .i64 (gt ([1, 2, 4, 8] : List Int) (band .i64 p_which 3))] := hr1
        replace hf := Fr.keep (ks := [0, 1, 3, 35]) (L' := [(0, .slice ao_b b.length cp_b), (1, .int .i64 p_at), (3, .int .u64 p_x), (35, .pointer (some p1))]) hf (by kernel_rfl)
        refine ld tbOk u3 rfl hp1 (LeH.refl _) hf (by kernel_rfl) (by kernel_rfl) (by kernel_rfl) ?_
        clear hf; clear a; intro a hf
        replace hf := Fr.keep (ks := [0, 1, 3, 36]) (L' := [(0, .slice ao_b b.length cp_b), (1, .int .i64 p_at), (3, .int .u64 p_x), (36, .int .i64 (gt ([1, 2, 4, 8] : List Int) (band .i64 p_which 3)))]) hf (by kernel_rfl)
        have hT := of_let hS; clear hS; obtain ⟨n_1, hl1, hS⟩ := hT
        refine st tbOk 1 [0, 1, 3, 10] (L' := [(0, .slice ao_b b.length cp_b), (1, .int .i64 p_at), (3, .int .u64 p_x), (10, .int .i64 n_1)]) hf (by subst hl1; kernel_rfl) ?_
        clear hf; clear a; intro a hf
        refine wpList_nil ?_
        refine sq ?_
        refine reg ?_
        refine st tbOk 7 [0, 3, 10, 38, 43] (L' := [(0, .slice ao_b b.length cp_b), (3, .int .u64 p_x), (10, .int .i64 n_1), (38, .int .i64 (band .i64 p_at 16777215)), (43, .int .i64 (IntKind.i64.wrap ((IntKind.i64.wrap (((b.length : Nat) : Int) - n_1)) + 1)))]) hf (by kernel_rfl) ?_
        clear hf; clear a; intro a hf
        have hT := of_gd hS; clear hS; obtain ⟨hc2, hS⟩ := hT
        refine bin (run_rem (k := .i64) (x := band .i64 p_at 16777215) hc2 _) hf (by kernel_rfl) (by kernel_rfl) (by kernel_rfl) (by kernel_rfl) ?_
        clear hf; clear a; intro a hf
        replace hf := Fr.keep (ks := [0, 3, 10, 44]) (L' := [(0, .slice ao_b b.length cp_b), (3, .int .u64 p_x), (10, .int .i64 n_1), (44, .int .i64 (Int.tmod (band .i64 p_at 16777215) (IntKind.i64.wrap ((IntKind.i64.wrap (((b.length : Nat) : Int) - n_1)) + 1))))]) hf (by kernel_rfl)
        have hT := of_let hS; clear hS; obtain ⟨k_1, hl2, hS⟩ := hT
        refine st tbOk 1 [0, 3, 10, 11] (L' := [(0, .slice ao_b b.length cp_b), (3, .int .u64 p_x), (10, .int .i64 n_1), (11, .int .i64 k_1)]) hf (by subst hl2; kernel_rfl) ?_
        clear hf; clear a; intro a hf
        refine wpList_nil ?_
        refine sq ?_
        refine reg ?_
        refine st tbOk 5 [0, 3, 10, 11, 46, 48, 49, 50] (L' := [(0, .slice ao_b b.length cp_b), (3, .int .u64 p_x), (10, .int .i64 n_1), (11, .int .i64 k_1), (46, .slice ao_b b.length cp_b), (48, .int .u64 (IntKind.u64.wrap k_1)), (49, .int .i64 n_1), (50, .int .u64 p_x)]) hf (by kernel_rfl) ?_
        clear hf; clear a; intro a hf
        have hT := of_bd hS; clear hS; obtain ⟨z2, hz2, hS⟩ := hT
        refine cl ent14 (vs := [.slice ao_b b.length cp_b, .int .u64 (IntKind.u64.wrap k_1), .int .i64 n_1, .int .u64 p_x]) hf (by kernel_rfl) (by kernel_rfl) (by kernel_rfl) (octets_Set_ok (h_b.mono hE.le) hz2) ?_
        clear hf; clear a; intro v w4 a hT hf; obtain ⟨ao1, cp1, rfl, hx, ho2⟩ := hT
        have dj1 := Dj.new ho1 ho2
        replace ho2 := ho2.base hE.size
        replace hE := hE.tr hx
        replace ho1 := ho1.ext hx
        replace hf := Fr.keep (ks := [0, 3, 10, 11, 51]) (L' := [(0, .slice ao_b b.length cp_b), (3, .int .u64 p_x), (10, .int .i64 n_1), (11, .int .i64 k_1), (51, .tuple #[.slice ao1 z2.1.length cp1, .int .i64 z2.2])]) hf (by kernel_rfl)
        refine st tbOk 5 [0, 3, 10, 11, 12, 13] (L' := [(0, .slice ao_b b.length cp_b), (3, .int .u64 p_x), (10, .int .i64 n_1), (11, .int .i64 k_1), (12, .slice ao1 z2.1.length cp1), (13, .int .i64 z2.2)]) hf (by kernel_rfl) ?_
        clear hf; clear a; intro a hf
        refine wpList_nil ?_
        refine sq ?_
        refine reg ?_
        refine st tbOk 4 [0, 3, 10, 11, 12, 13, 55, 57, 58] (L' := [(0, .slice ao_b b.length cp_b), (3, .int .u64 p_x), (10, .int .i64 n_1), (11, .int .i64 k_1), (12, .slice ao1 z2.1.length cp1), (13, .int .i64 z2.2), (55, .slice ao1 z2.1.length cp1), (57, .int .u64 (IntKind.u64.wrap k_1)), (58, .int .i64 n_1)]) hf (by kernel_rfl) ?_
        clear hf; clear a; intro a hf
        have hT := of_bd hS; clear hS; obtain ⟨z3, hz3, hS⟩ := hT
        refine cl ent12 (vs := [.slice ao1 z2.1.length cp1, .int .u64 (IntKind.u64.wrap k_1), .int .i64 n_1]) hf (by kernel_rfl) (by kernel_rfl) (by kernel_rfl) (octets_Get_ok (ho2.ro (mt_le _)) hz3) ?_
        clear hf; clear a; intro v w5 a hT hf; obtain ⟨rfl, hx⟩ := hT
        replace hE := hE.tr hx
        replace ho1 := ho1.ext hx
        replace ho2 := ho2.ext hx
        replace hf := Fr.keep (ks := [0, 3, 10, 11, 12, 13, 59]) (L' := [(0, .slice ao_b b.length cp_b), (3, .int .u64 p_x), (10, .int .i64 n_1), (11, .int .i64 k_1), (12, .slice ao1 z2.1.length cp1), (13, .int .i64 z2.2), (59, .tuple #[.int .u64 z3.1, .int .i64 z3.2])]) hf (by kernel_rfl)
        refine st tbOk 5 [0, 3, 10, 11, 12, 13, 14, 15] (L' := [(0, .slice ao_b b.length cp_b), (3, .int .u64 p_x), (10, .int .i64 n_1), (11, .int .i64 k_1), (12, .slice ao1 z2.1.length cp1), (13, .int .i64 z2.2), (14, .int .u64 z3.1), (15, .int .i64 z3.2)]) hf (by kernel_rfl) ?_
        clear hf; clear a; intro a hf
        refine wpList_nil ?_
        refine sq ?_
        refine reg ?_
        refine st tbOk 5 [0, 3, 10, 11, 12, 13, 14, 15, 63, 65, 67] (L' := [(0, .slice ao_b b.length cp_b), (3, .int .u64 p_x), (10, .int .i64 n_1), (11, .int .i64 k_1), (12, .slice ao1 z2.1.length cp1), (13, .int .i64 z2.2), (14, .int .u64 z3.1), (15, .int .i64 z3.2), (63, .slice ao1 z2.1.length cp1), (65, .int .u64 (IntKind.u64.wrap k_1)), (67, .int .u64 (IntKind.u64.wrap n_1))]) hf (by kernel_rfl) ?_
        clear hf; clear a; intro a hf
        have hT := of_bd hS; clear hS; obtain ⟨z4, hz4, hS⟩ := hT
        refine cl ent16 (vs := [.slice ao1 z2.1.length cp1, .int .u64 (IntKind.u64.wrap k_1), .int .u64 (IntKind.u64.wrap n_1)]) hf (by kernel_rfl) (by kernel_rfl) (by kernel_rfl) (octets_Cut_ok (ho2.ro (mt_le _)) hz4) ?_
        clear hf; clear a; intro v w6 a hT hf; obtain ⟨ao2, cp2, rfl, hx, ho3⟩ := hT
        have dj2 := Dj.new ho1 ho3
        have dj3 := Dj.new ho2 ho3
        replace ho3 := ho3.base hE.size
        replace hE := hE.tr hx
        replace ho1 := ho1.ext hx
        replace ho2 := ho2.ext hx
        replace hf := Fr.keep (ks := [0, 3, 10, 11, 12, 13, 14, 15, 68]) (L' := [(0, .slice ao_b b.length cp_b), (3, .int .u64 p_x), (10, .int .i64 n_1), (11, .int .i64 k_1), (12, .slice ao1 z2.1.length cp1), (13, .int .i64 z2.2), (14, .int .u64 z3.1), (15, .int .i64 z3.2), (68, .tuple #[.slice ao2 z4.1.length cp2, .int .i64 z4.2])]) hf (by kernel_rfl)
        refine st tbOk 5 [0, 3, 10, 11, 12, 13, 14, 15, 16, 17] (L' := [(0, .slice ao_b b.length cp_b), (3, .int .u64 p_x), (10, .int .i64 n_1), (11, .int .i64 k_1), (12, .slice ao1 z2.1.length cp1), (13, .int .i64 z2.2), (14, .int .u64 z3.1), (15, .int .i64 z3.2), (16, .slice ao2 z4.1.length cp2), (17, .int .i64 z4.2)]) hf (by kernel_rfl) ?_
        clear hf; clear a; intro a hf
        refine wpList_nil ?_
        refine sq ?_
        refine sq ?_
        refine ctj (fun (s2 : Bool) (a : Act) (w' : World) => Ext w w' ∧ Own w' w.heap.size mt 5 (tI .u8) (.slice ao1 z2.1.length cp1) z2.1 ∧ Own w' w.heap.size mt 5 (tI .u8) (.slice ao2 z4.1.length cp2) z4.1 ∧ Fr 164 [(0, .slice ao_b b.length cp_b), (3, .int .u64 p_x), (10, .int .i64 n_1), (11, .int .i64 k_1), (12, .slice ao1 z2.1.length cp1), (14, .int .u64 z3.1), (16, .slice ao2 z4.1.length cp2), (93, .bool s2)] a) hS ?_ ?_
        · clear hS hf; clear a; clear hE; intro s2 a w7 hM hS
          obtain ⟨hE, ho2, ho3, hf⟩ := hM
          refine cnd (b := s2) hf (by kernel_rfl) (fun hb8 => ?_) (fun hb8 => ?_)
          · replace hS := of_t hb8 hS
            refine sq ?_
            refine reg ?_
            refine st tbOk 1 [8] (L' := [(8, .bool false)]) hf (by kernel_rfl) ?_
            clear hf; clear a; intro a hf
            refine wpList_nil ?_
            have hr := Option.some.inj hS; subst hr
            refine wp_ret ?_
            exact ret_ok hf (vs := [.bool false]) (by kernel_rfl) ⟨rfl, hE⟩
          · replace hS := of_f hb8 hS
            refine wp_skip ?_
            refine sq ?_
            refine sq ?_
            refine reg ?_
            refine st tbOk 1 [0, 3, 10, 11, 12, 14, 16, 18] (L' := [(0, .slice ao_b b.length cp_b), (3, .int .u64 p_x), (10, .int .i64 n_1), (11, .int .i64 k_1), (12, .slice ao1 z2.1.length cp1), (14, .int .u64 z3.1), (16, .slice ao2 z4.1.length cp2), (18, .int .i64 0)]) hf (by kernel_rfl) ?_
            clear hf; clear a; intro a hf
            refine wpList_nil ?_
            refine ctj (fun (s3 : Unit) (a : Act) (w' : World) => Ext w w' ∧ Own w' w.heap.size mt 5 (tI .u8) (.slice ao2 z4.1.length cp2) z4.1 ∧ Fr 164 [(3, .int .u64 p_x), (10, .int .i64 n_1), (14, .int .u64 z3.1), (16, .slice ao2 z4.1.length cp2)] a) hS ?_ ?_
            · clear hS hf; clear a; clear hE; intro s3 a w13 hM hS
              obtain ⟨hE, ho3, hf⟩ := hM
              refine sq ?_
              refine reg ?_
              refine st tbOk 1 [3, 10, 14, 16, 19] (L' := [(3, .int .u64 p_x), (10, .int .i64 n_1), (14, .int .u64 z3.1), (16, .slice ao2 z4.1.length cp2), (19, .int .u64 0)]) hf (by kernel_rfl) ?_
              clear hf; clear a; intro a hf
              refine wpList_nil ?_
              refine sq ?_
              refine sq ?_
              refine reg ?_
              refine st tbOk 1 [3, 10, 14, 16, 19, 20] (L' := [(3, .int .u64 p_x), (10, .int .i64 n_1), (14, .int .u64 z3.1), (16, .slice ao2 z4.1.length cp2), (19, .int .u64 0), (20, .int .i64 0)]) hf (by kernel_rfl) ?_
              clear hf; clear a; intro a hf
              refine wpList_nil ?_
              refine ctj (fun (s6 : Int) (a : Act) (w' : World) => Ext w w' ∧ Fr 164 [(3, .int .u64 p_x), (10, .int .i64 n_1), (14, .int .u64 z3.1), (19, .int .u64 s6)] a) hS ?_ ?_
              · clear hS hf; clear a; clear hE; intro s6 a w15 hM hS
                obtain ⟨hE, hf⟩ := hM
                refine sq ?_
                refine ctj (fun (s8 : Bool) (a : Act) (w' : World) => Ext w w' ∧ Fr 164 [(8, .bool s8)] a) hS ?_ ?_
                · clear hS hf; clear a; clear hE; intro s8 a w16 hM hS
                  obtain ⟨hE, hf⟩ := hM
                  have hr := Option.some.inj hS; subst hr
                  refine wp_ret ?_
                  exact ret_ok hf (vs := [.bool s8]) (by kernel_rfl) ⟨rfl, hE⟩
                · clear hS; intro KK8 k6 hK8 hS
                  refine reg ?_
                  refine st tbOk 4 [3, 10, 14, 140] (L' := [(3, .int .u64 p_x), (10, .int .i64 n_1), (14, .int .u64 z3.1), (140, .bool (z3.1 == s6))]) hf (by kernel_rfl) ?_
                  clear hf; clear a; intro a hf
                  rcases Bool.eq_false_or_eq_true (z3.1 == s6) with hb14 | hb14
                  · replace hS := of_t hb14 hS
                    replace hf := Fr.cast (L' := [(3, .int .u64 p_x), (10, .int .i64 n_1), (14, .int .u64 z3.1), (140, .bool true)]) hf (by rw [hb14])
                    refine st tbOk 3 [3, 10, 14, 140, 143] (L' := [(3, .int .u64 p_x), (10, .int .i64 n_1), (14, .int .u64 z3.1), (140, .bool true), (143, .bool (n_1 == 8))]) hf (by kernel_rfl) ?_
                    clear hf; clear a; intro a hf
                    rcases Bool.eq_false_or_eq_true (n_1 == 8) with hb15 | hb15
                    · replace hS := of_t hb15 hS
                      replace hf := Fr.cast (L' := [(3, .int .u64 p_x), (10, .int .i64 n_1), (14, .int .u64 z3.1), (140, .bool true), (143, .bool true)]) hf (by rw [hb15])
                      refine st tbOk 5 [3, 10, 14, 140, 148] (L' := [(3, .int .u64 p_x), (10, .int .i64 n_1), (14, .int .u64 z3.1), (140, .bool true), (148, .bool (z3.1 == p_x))]) hf (by kernel_rfl) ?_
                      clear hf; clear a; intro a hf
                      rcases Bool.eq_false_or_eq_true (z3.1 == p_x) with hb16 | hb16
                      · replace hS := of_t hb16 hS
                        replace hf := Fr.cast (L' := [(3, .int .u64 p_x), (10, .int .i64 n_1), (14, .int .u64 z3.1), (140, .bool true), (148, .bool true)]) hf (by rw [hb16])
                        refine st tbOk 16 [8] (L' := [(8, .bool true)]) hf (by kernel_rfl) ?_
                        clear hf; clear a; intro a hf
                        refine wpList_nil ?_
                        exact hK8 true _ _ ⟨hE, hf.keep (ks := [8]) (by kernel_rfl)⟩ hS
                      · replace hS := of_f hb16 hS
                        replace hf := Fr.cast (L' := [(3, .int .u64 p_x), (10, .int .i64 n_1), (14, .int .u64 z3.1), (140, .bool true), (148, .bool false)]) hf (by rw [hb16])
                        refine st tbOk 3 [3, 10, 14, 140, 148, 151] (L' := [(3, .int .u64 p_x), (10, .int .i64 n_1), (14, .int .u64 z3.1), (140, .bool true), (148, .bool false), (151, .bool (decide (n_1 < 8)))]) hf (by kernel_rfl) ?_
                        clear hf; clear a; intro a hf
                        rcases Bool.eq_false_or_eq_true (decide (n_1 < 8)) with hb17 | hb17
                        · replace hS := of_t hb17 hS
                          replace hf := Fr.cast (L' := [(3, .int .u64 p_x), (10, .int .i64 n_1), (14, .int .u64 z3.1), (140, .bool true), (148, .bool false), (151, .bool true)]) hf (by rw [hb17])
                          refine st tbOk 5 [140, 148, 151, 152, 153, 156] (L' := [(140, .bool true), (148, .bool false), (151, .bool true), (152, .int .u64 z3.1), (153, .int .u64 p_x), (156, .int .u64 (IntKind.u64.wrap (IntKind.i64.wrap (8 * n_1))))]) hf (by kernel_rfl) ?_
                          clear hf; clear a; intro a hf
                          have hT := of_gd hS; clear hS; obtain ⟨hc9, hS⟩ := hT
                          refine bin (run_shl (k := .u64) (k' := .u64) (x := 1) hc9 _) hf (by kernel_rfl) (by kernel_rfl) (by kernel_rfl) (by kernel_rfl) ?_
                          clear hf; clear a; intro a hf
                          replace hf := Fr.keep (ks := [140, 148, 151, 152, 153, 157]) (L' := [(140, .bool true), (148, .bool false), (151, .bool true), (152, .int .u64 z3.1), (153, .int .u64 p_x), (157, .int .u64 (shl .u64 1 (IntKind.u64.wrap (IntKind.i64.wrap (8 * n_1)))))]) hf (by kernel_rfl)
                          refine st tbOk 7 [8] (L' := [(8, .bool (z3.1 == (band .u64 p_x (IntKind.u64.wrap ((shl .u64 1 (IntKind.u64.wrap (IntKind.i64.wrap (8 * n_1)))) - 1)))))]) hf (by kernel_rfl) ?_
                          clear hf; clear a; intro a hf
                          refine wpList_nil ?_
                          exact hK8 (z3.1 == (band .u64 p_x (IntKind.u64.wrap ((shl .u64 1 (IntKind.u64.wrap (IntKind.i64.wrap (8 * n_1)))) - 1)))) _ _ ⟨hE, hf.keep (ks := [8]) (by kernel_rfl)⟩ hS
                        · replace hS := of_f hb17 hS
                          replace hf := Fr.cast (L' := [(3, .int .u64 p_x), (10, .int .i64 n_1), (14, .int .u64 z3.1), (140, .bool true), (148, .bool false), (151, .bool false)]) hf (by rw [hb17])
                          refine st tbOk 13 [8] (L' := [(8, .bool false)]) hf (by kernel_rfl) ?_
                          clear hf; clear a; intro a hf
                          refine wpList_nil ?_
                          exact hK8 false _ _ ⟨hE, hf.keep (ks := [8]) (by kernel_rfl)⟩ hS
                    · replace hS := of_f hb15 hS
                      replace hf := Fr.cast (L' := [(3, .int .u64 p_x), (10, .int .i64 n_1), (14, .int .u64 z3.1), (140, .bool true), (143, .bool false)]) hf (by rw [hb15])
                      refine st tbOk 8 [3, 10, 14, 140, 148, 151] (L' := [(3, .int .u64 p_x), (10, .int .i64 n_1), (14, .int .u64 z3.1), (140, .bool true), (148, .bool false), (151, .bool (decide (n_1 < 8)))]) hf (by kernel_rfl) ?_
                      clear hf; clear a; intro a hf
                      rcases Bool.eq_false_or_eq_true (decide (n_1 < 8)) with hb18 | hb18
                      · replace hS := of_t hb18 hS
                        replace hf := Fr.cast (L' := [(3, .int .u64 p_x), (10, .int .i64 n_1), (14, .int .u64 z3.1), (140, .bool true), (148, .bool false), (151, .bool true)]) hf (by rw [hb18])
                        refine st tbOk 5 [140, 148, 151, 152, 153, 156] (L' := [(140, .bool true), (148, .bool false), (151, .bool true), (152, .int .u64 z3.1), (153, .int .u64 p_x), (156, .int .u64 (IntKind.u64.wrap (IntKind.i64.wrap (8 * n_1))))]) hf (by kernel_rfl) ?_
                        clear hf; clear a; intro a hf
                        have hT := of_gd hS; clear hS; obtain ⟨hc10, hS⟩ := hT
                        refine bin (run_shl (k := .u64) (k' := .u64) (x := 1) hc10 _) hf (by kernel_rfl) (by kernel_rfl) (by kernel_rfl) (by kernel_rfl) ?_
                        clear hf; clear a; intro a hf
                        replace hf := Fr.keep (ks := [140, 148, 151, 152, 153, 157]) (L' := [(140, .bool true), (148, .bool false), (151, .bool true), (152, .int .u64 z3.1), (153, .int .u64 p_x), (157, .int .u64 (shl .u64 1 (IntKind.u64.wrap (IntKind.i64.wrap (8 * n_1)))))]) hf (by kernel_rfl)
                        refine st tbOk 7 [8] (L' := [(8, .bool (z3.1 == (band .u64 p_x (IntKind.u64.wrap ((shl .u64 1 (IntKind.u64.wrap (IntKind.i64.wrap (8 * n_1)))) - 1)))))]) hf (by kernel_rfl) ?_
                        clear hf; clear a; intro a hf
                        refine wpList_nil ?_
                        exact hK8 (z3.1 == (band .u64 p_x (IntKind.u64.wrap ((shl .u64 1 (IntKind.u64.wrap (IntKind.i64.wrap (8 * n_1)))) - 1)))) _ _ ⟨hE, hf.keep (ks := [8]) (by kernel_rfl)⟩ hS
                      · replace hS := of_f hb18 hS
                        replace hf := Fr.cast (L' := [(3, .int .u64 p_x), (10, .int .i64 n_1), (14, .int .u64 z3.1), (140, .bool true), (148, .bool false), (151, .bool false)]) hf (by rw [hb18])
                        refine st tbOk 13 [8] (L' := [(8, .bool false)]) hf (by kernel_rfl) ?_
                        clear hf; clear a; intro a hf
                        refine wpList_nil ?_
                        exact hK8 false _ _ ⟨hE, hf.keep (ks := [8]) (by kernel_rfl)⟩ hS
                  · replace hS := of_f hb14 hS
                    replace hf := Fr.cast (L' := [(3, .int .u64 p_x), (10, .int .i64 n_1), (14, .int .u64 z3.1), (140, .bool false)]) hf (by rw [hb14])
                    refine st tbOk 24 [8] (L' := [(8, .bool false)]) hf (by kernel_rfl) ?_
                    clear hf; clear a; intro a hf
                    refine wpList_nil ?_
                    exact hK8 false _ _ ⟨hE, hf.keep (ks := [8]) (by kernel_rfl)⟩ hS
              · clear hS; intro KK6 k5 hK6 hS
                refine blk ?_
                refine lp (st := (0, 0)) (fun (s7 : Int × Int) (a : Act) (w' : World) => Ext w w' ∧ Own w' w.heap.size mt 5 (tI .u8) (.slice ao2 z4.1.length cp2) z4.1 ∧ Fr 164 [(3, .int .u64 p_x), (10, .int .i64 n_1), (14, .int .u64 z3.1), (16, .slice ao2 z4.1.length cp2), (19, .int .u64 s7.1), (20, .int .i64 s7.2)] a) ?_ ⟨hE, ho3, hf.keep (ks := [3, 10, 14, 16, 19, 20]) (by kernel_rfl)⟩ hS
                clear hS hf; clear a; clear hE
                intro rec2 KK7 hK7 s7 a w14 hM hS
                obtain ⟨hE, ho3, hf⟩ := hM
                refine sq ?_
                refine sq ?_
                refine reg ?_
                refine st tbOk 3 [3, 10, 14, 16, 19, 20, 123] (L' := [(3, .int .u64 p_x), (10, .int .i64 n_1), (14, .int .u64 z3.1), (16, .slice ao2 z4.1.length cp2), (19, .int .u64 s7.1), (20, .int .i64 s7.2), (123, .bool (decide (s7.2 < n_1)))]) hf (by kernel_rfl) ?_
                clear hf; clear a; intro a hf
                refine wpList_nil ?_
                refine cnd (b := decide (s7.2 < n_1)) hf (by kernel_rfl) (fun hb13 => ?_) (fun hb13 => ?_)
                · replace hS := of_t hb13 hS
                  refine wp_skip ?_
                  refine sq ?_
                  refine blk ?_
                  refine reg ?_
                  refine st tbOk 3 [3, 10, 14, 16, 20, 126, 127, 128] (L' := [(3, .int .u64 p_x), (10, .int .i64 n_1), (14, .int .u64 z3.1), (16, .slice ao2 z4.1.length cp2), (20, .int .i64 s7.2), (126, .int .u64 s7.1), (127, .slice ao2 z4.1.length cp2), (128, .int .i64 s7.2)]) hf (by kernel_rfl) ?_
                  clear hf; clear a; intro a hf
                  have hT := of_gd hS; clear hS; obtain ⟨hc7, hS⟩ := hT
                  refine ix tbOk u22 i5 rfl rfl (ho3.ro (mt_le _)) (k := .i64) (n := s7.2) hc7 hf (by kernel_rfl) (by kernel_rfl) (by kernel_rfl) (by kernel_rfl) ?_
                  clear hf; clear a; intro p6 c6 a hp6 hr6 hf
                  obtain rfl : c6 = [.int .u8 (gt z4.1 s7.2)] := hr6
                  replace hf := Fr.keep (ks := [3, 10, 14, 16, 20, 126, 129]) (L' := [(3, .int .u64 p_x), (10, .int .i64 n_1), (14, .int .u64 z3.1), (16, .slice ao2 z4.1.length cp2), (20, .int .i64 s7.2), (126, .int .u64 s7.1), (129, .pointer (some p6))]) hf (by kernel_rfl)
                  refine ld tbOk u5 rfl hp6 (LeH.refl _) hf (by kernel_rfl) (by kernel_rfl) (by kernel_rfl) ?_
                  clear hf; clear a; intro a hf
                  replace hf := Fr.keep (ks := [3, 10, 14, 16, 20, 126, 130]) (L' := [(3, .int .u64 p_x), (10, .int .i64 n_1), (14, .int .u64 z3.1), (16, .slice ao2 z4.1.length cp2), (20, .int .i64 s7.2), (126, .int .u64 s7.1), (130, .int .u8 (gt z4.1 s7.2))]) hf (by kernel_rfl)
                  refine st tbOk 4 [3, 10, 14, 16, 20, 126, 131, 134] (L' := [(3, .int .u64 p_x), (10, .int .i64 n_1), (14, .int .u64 z3.1), (16, .slice ao2 z4.1.length cp2), (20, .int .i64 s7.2), (126, .int .u64 s7.1), (131, .int .u64 (IntKind.u64.wrap (gt z4.1 s7.2))), (134, .int .u64 (IntKind.u64.wrap (IntKind.i64.wrap (8 * s7.2))))]) hf (by kernel_rfl) ?_
                  clear hf; clear a; intro a hf
                  have hT := of_gd hS; clear hS; obtain ⟨hc8, hS⟩ := hT
                  refine bin (run_shl (k := .u64) (k' := .u64) (x := IntKind.u64.wrap (gt z4.1 s7.2)) hc8 _) hf (by kernel_rfl) (by kernel_rfl) (by kernel_rfl) (by kernel_rfl) ?_
                  clear hf; clear a; intro a hf
                  replace hf := Fr.keep (ks := [3, 10, 14, 16, 20, 126, 135]) (L' := [(3, .int .u64 p_x), (10, .int .i64 n_1), (14, .int .u64 z3.1), (16, .slice ao2 z4.1.length cp2), (20, .int .i64 s7.2), (126, .int .u64 s7.1), (135, .int .u64 (shl .u64 (IntKind.u64.wrap (gt z4.1 s7.2)) (IntKind.u64.wrap (IntKind.i64.wrap (8 * s7.2)))))]) hf (by kernel_rfl)
                  have hT := of_let hS; clear hS; obtain ⟨z_1, hl4, hS⟩ := hT
                  refine st tbOk 2 [3, 10, 14, 16, 19, 20] (L' := [(3, .int .u64 p_x), (10, .int .i64 n_1), (14, .int .u64 z3.1), (16, .slice ao2 z4.1.length cp2), (19, .int .u64 z_1), (20, .int .i64 s7.2)]) hf (by subst hl4; kernel_rfl) ?_
                  clear hf; clear a; intro a hf
                  refine wpList_nil ?_
                  refine reg ?_
                  have hT := of_let hS; clear hS; obtain ⟨i_2, hl5, hS⟩ := hT
                  refine st tbOk 3 [3, 10, 14, 16, 19, 20] (L' := [(3, .int .u64 p_x), (10, .int .i64 n_1), (14, .int .u64 z3.1), (16, .slice ao2 z4.1.length cp2), (19, .int .u64 z_1), (20, .int .i64 i_2)]) hf (by subst hl5; kernel_rfl) ?_
                  clear hf; clear a; intro a hf
                  refine wpList_nil ?_
                  exact hK7 (z_1, i_2) _ _ ⟨hE, ho3, hf.keep (ks := [3, 10, 14, 16, 19, 20]) (by kernel_rfl)⟩ hS
                · replace hS := of_f hb13 hS
                  refine wp_exit ?_
                  exact hK6 s7.1 _ _ ⟨hE, hf.keep (ks := [3, 10, 14, 19]) (by kernel_rfl)⟩ hS
            · clear hS; intro KK3 k3 hK3 hS
              refine blk ?_
              refine lp (st := 0) (fun (s4 : Int) (a : Act) (w' : World) => Ext w w' ∧ Own w' w.heap.size mt 5 (tI .u8) (.slice ao1 z2.1.length cp1) z2.1 ∧ Own w' w.heap.size mt 5 (tI .u8) (.slice ao2 z4.1.length cp2) z4.1 ∧ Fr 164 [(0, .slice ao_b b.length cp_b), (3, .int .u64 p_x), (10, .int .i64 n_1), (11, .int .i64 k_1), (12, .slice ao1 z2.1.length cp1), (14, .int .u64 z3.1), (16, .slice ao2 z4.1.length cp2), (18, .int .i64 s4)] a) ?_ ⟨hE, ho2, ho3, hf.keep (ks := [0, 3, 10, 11, 12, 14, 16, 18]) (by kernel_rfl)⟩ hS
              clear hS hf; clear a; clear hE
              intro rec1 KK4 hK4 s4 a w8 hM hS
              obtain ⟨hE, ho2, ho3, hf⟩ := hM
              refine sq ?_
              refine sq ?_
              refine reg ?_
              refine st tbOk 4 [0, 3, 10, 11, 12, 14, 16, 18, 97] (L' := [(0, .slice ao_b b.length cp_b), (3, .int .u64 p_x), (10, .int .i64 n_1), (11, .int .i64 k_1), (12, .slice ao1 z2.1.length cp1), (14, .int .u64 z3.1), (16, .slice ao2 z4.1.length cp2), (18, .int .i64 s4), (97, .bool (decide (s4 < ((b.length : Nat) : Int))))]) hf (by kernel_rfl) ?_
              clear hf; clear a; intro a hf
              refine wpList_nil ?_
              refine cnd (b := decide (s4 < ((b.length : Nat) : Int))) hf (by kernel_rfl) (fun hb9 => ?_) (fun hb9 => ?_)
              · replace hS := of_t hb9 hS
                refine wp_skip ?_
                refine sq ?_
                refine blk ?_
                refine sq ?_
                refine ctj (fun (s5 : Bool) (a : Act) (w' : World) => Ext w w' ∧ Own w' w.heap.size mt 5 (tI .u8) (.slice ao1 z2.1.length cp1) z2.1 ∧ Own w' w.heap.size mt 5 (tI .u8) (.slice ao2 z4.1.length cp2) z4.1 ∧ Fr 164 [(0, .slice ao_b b.length cp_b), (3, .int .u64 p_x), (10, .int .i64 n_1), (11, .int .i64 k_1), (12, .slice ao1 z2.1.length cp1), (14, .int .u64 z3.1), (16, .slice ao2 z4.1.length cp2), (18, .int .i64 s4), (120, .bool s5)] a) hS ?_ ?_
                · clear hS hf; clear a; clear hE; intro s5 a w12 hM hS
                  obtain ⟨hE, ho2, ho3, hf⟩ := hM
                  refine cnd (b := s5) hf (by kernel_rfl) (fun hb12 => ?_) (fun hb12 => ?_)
                  · replace hS := of_t hb12 hS
                    refine sq ?_
                    refine reg ?_
                    refine st tbOk 1 [8] (L' := [(8, .bool false)]) hf (by kernel_rfl) ?_
                    clear hf; clear a; intro a hf
                    refine wpList_nil ?_
                    have hr := Option.some.inj hS; subst hr
                    refine wp_ret ?_
                    exact ret_ok hf (vs := [.bool false]) (by kernel_rfl) ⟨rfl, hE⟩
                  · replace hS := of_f hb12 hS
                    refine wp_skip ?_
                    refine reg ?_
                    have hT := of_let hS; clear hS; obtain ⟨i_1, hl3, hS⟩ := hT
                    refine st tbOk 3 [0, 3, 10, 11, 12, 14, 16, 18] (L' := [(0, .slice ao_b b.length cp_b), (3, .int .u64 p_x), (10, .int .i64 n_1), (11, .int .i64 k_1), (12, .slice ao1 z2.1.length cp1), (14, .int .u64 z3.1), (16, .slice ao2 z4.1.length cp2), (18, .int .i64 i_1)]) hf (by subst hl3; kernel_rfl) ?_
                    clear hf; clear a; intro a hf
                    refine wpList_nil ?_
                    exact hK4 i_1 _ _ ⟨hE, ho2, ho3, hf.keep (ks := [0, 3, 10, 11, 12, 14, 16, 18]) (by kernel_rfl)⟩ hS
                · clear hS; intro KK5 k4 hK5 hS
                  refine regQ mixed (by kernel_rfl) ?_
                  refine stQ tbOk 4 [0, 3, 10, 11, 12, 14, 16, 18, 103] (L' := [(0, .slice ao_b b.length cp_b), (3, .int .u64 p_x), (10, .int .i64 n_1), (11, .int .i64 k_1), (12, .slice ao1 z2.1.length cp1), (14, .int .u64 z3.1), (16, .slice ao2 z4.1.length cp2), (18, .int .i64 s4), (103, .bool (decide (s4 < k_1)))]) hf (by kernel_rfl) ?_
                  clear hf; clear a; intro a hf
                  rcases Bool.eq_false_or_eq_true (decide (s4 < k_1)) with hb10 | hb10
                  · replace hS := of_t hb10 hS
                    replace hf := Fr.cast (L' := [(0, .slice ao_b b.length cp_b), (3, .int .u64 p_x), (10, .int .i64 n_1), (11, .int .i64 k_1), (12, .slice ao1 z2.1.length cp1), (14, .int .u64 z3.1), (16, .slice ao2 z4.1.length cp2), (18, .int .i64 s4), (103, .bool true)]) hf (by rw [hb10])
                    refine stQ tbOk 9 [0, 3, 10, 11, 12, 14, 16, 18, 110, 111, 112] (L' := [(0, .slice ao_b b.length cp_b), (3, .int .u64 p_x), (10, .int .i64 n_1), (11, .int .i64 k_1), (12, .slice ao1 z2.1.length cp1), (14, .int .u64 z3.1), (16, .slice ao2 z4.1.length cp2), (18, .int .i64 s4), (110, .bool true), (111, .slice ao1 z2.1.length cp1), (112, .int .i64 s4)]) hf (by kernel_rfl) ?_
                    clear hf; clear a; intro a hf
                    have hT := of_gd hS; clear hS; obtain ⟨hc3, hS⟩ := hT
                    refine ixQ tbOk u22 i5 rfl rfl (ho2.ro (mt_le _)) (k := .i64) (n := s4) hc3 hf (by kernel_rfl) (by kernel_rfl) (by kernel_rfl) (by kernel_rfl) ?_
                    clear hf; clear a; intro p2 c2 a hp2 hr2 hf
                    obtain rfl : c2 = [.int .u8 (gt z2.1 s4)] := hr2
                    replace hf := Fr.keep (ks := [0, 3, 10, 11, 12, 14, 16, 18, 110, 113]) (L' := [(0, .slice ao_b b.length cp_b), (3, .int .u64 p_x), (10, .int .i64 n_1), (11, .int .i64 k_1), (12, .slice ao1 z2.1.length cp1), (14, .int .u64 z3.1), (16, .slice ao2 z4.1.length cp2), (18, .int .i64 s4), (110, .bool true), (113, .pointer (some p2))]) hf (by kernel_rfl)
                    refine ldQ tbOk u5 rfl hp2 (LeH.refl _) hf (by kernel_rfl) (by kernel_rfl) (by kernel_rfl) ?_
                    clear hf; clear a; intro a hf
                    replace hf := Fr.keep (ks := [0, 3, 10, 11, 12, 14, 16, 18, 110, 114]) (L' := [(0, .slice ao_b b.length cp_b), (3, .int .u64 p_x), (10, .int .i64 n_1), (11, .int .i64 k_1), (12, .slice ao1 z2.1.length cp1), (14, .int .u64 z3.1), (16, .slice ao2 z4.1.length cp2), (18, .int .i64 s4), (110, .bool true), (114, .int .u8 (gt z2.1 s4))]) hf (by kernel_rfl)
                    refine stQ tbOk 2 [0, 3, 10, 11, 12, 14, 16, 18, 110, 114, 115, 116] (L' := [(0, .slice ao_b b.length cp_b), (3, .int .u64 p_x), (10, .int .i64 n_1), (11, .int .i64 k_1), (12, .slice ao1 z2.1.length cp1), (14, .int .u64 z3.1), (16, .slice ao2 z4.1.length cp2), (18, .int .i64 s4), (110, .bool true), (114, .int .u8 (gt z2.1 s4)), (115, .slice ao_b b.length cp_b), (116, .int .i64 s4)]) hf (by kernel_rfl) ?_
                    clear hf; clear a; intro a hf
                    have hT := of_gd hS; clear hS; obtain ⟨hc4, hS⟩ := hT
                    refine ixQ tbOk u22 i5 rfl rfl h_b (k := .i64) (n := s4) hc4 hf (by kernel_rfl) (by kernel_rfl) (by kernel_rfl) (by kernel_rfl) ?_
                    clear hf; clear a; intro p3 c3 a hp3 hr3 hf
                    obtain rfl : c3 = [.int .u8 (gt b s4)] := hr3
                    replace hf := Fr.keep (ks := [0, 3, 10, 11, 12, 14, 16, 18, 110, 114, 117]) (L' := [(0, .slice ao_b b.length cp_b), (3, .int .u64 p_x), (10, .int .i64 n_1), (11, .int .i64 k_1), (12, .slice ao1 z2.1.length cp1), (14, .int .u64 z3.1), (16, .slice ao2 z4.1.length cp2), (18, .int .i64 s4), (110, .bool true), (114, .int .u8 (gt z2.1 s4)), (117, .pointer (some p3))]) hf (by kernel_rfl)
                    refine ldQ tbOk u5 rfl hp3 hE.le hf (by kernel_rfl) (by kernel_rfl) (by kernel_rfl) ?_
                    clear hf; clear a; intro a hf
                    replace hf := Fr.keep (ks := [0, 3, 10, 11, 12, 14, 16, 18, 110, 114, 118]) (L' := [(0, .slice ao_b b.length cp_b), (3, .int .u64 p_x), (10, .int .i64 n_1), (11, .int .i64 k_1), (12, .slice ao1 z2.1.length cp1), (14, .int .u64 z3.1), (16, .slice ao2 z4.1.length cp2), (18, .int .i64 s4), (110, .bool true), (114, .int .u8 (gt z2.1 s4)), (118, .int .u8 (gt b s4))]) hf (by kernel_rfl)
                    refine stQ tbOk 2 [0, 3, 10, 11, 12, 14, 16, 18, 120] (L' := [(0, .slice ao_b b.length cp_b), (3, .int .u64 p_x), (10, .int .i64 n_1), (11, .int .i64 k_1), (12, .slice ao1 z2.1.length cp1), (14, .int .u64 z3.1), (16, .slice ao2 z4.1.length cp2), (18, .int .i64 s4), (120, .bool ((gt z2.1 s4) != (gt b s4)))]) hf (by kernel_rfl) ?_
                    clear hf; clear a; intro a hf
                    refine wpQuiet_nil ?_
                    intro w9 hx
                    replace hE := hE.tr hx
                    replace ho2 := ho2.ext hx
                    replace ho3 := ho3.ext hx
                    exact hK5 ((gt z2.1 s4) != (gt b s4)) _ _ ⟨hE, ho2, ho3, hf.keep (ks := [0, 3, 10, 11, 12, 14, 16, 18, 120]) (by kernel_rfl)⟩ hS
                  · replace hS := of_f hb10 hS
                    replace hf := Fr.cast (L' := [(0, .slice ao_b b.length cp_b), (3, .int .u64 p_x), (10, .int .i64 n_1), (11, .int .i64 k_1), (12, .slice ao1 z2.1.length cp1), (14, .int .u64 z3.1), (16, .slice ao2 z4.1.length cp2), (18, .int .i64 s4), (103, .bool false)]) hf (by rw [hb10])
                    refine stQ tbOk 7 [0, 3, 10, 11, 12, 14, 16, 18, 110] (L' := [(0, .slice ao_b b.length cp_b), (3, .int .u64 p_x), (10, .int .i64 n_1), (11, .int .i64 k_1), (12, .slice ao1 z2.1.length cp1), (14, .int .u64 z3.1), (16, .slice ao2 z4.1.length cp2), (18, .int .i64 s4), (110, .bool (decide (s4 ≥ (IntKind.i64.wrap (k_1 + n_1)))))]) hf (by kernel_rfl) ?_
                    clear hf; clear a; intro a hf
                    rcases Bool.eq_false_or_eq_true (decide (s4 ≥ (IntKind.i64.wrap (k_1 + n_1)))) with hb11 | hb11
                    · replace hS := of_t hb11 hS
                      replace hf := Fr.cast (L' := [(0, .slice ao_b b.length cp_b), (3, .int .u64 p_x), (10, .int .i64 n_1), (11, .int .i64 k_1), (12, .slice ao1 z2.1.length cp1), (14, .int .u64 z3.1), (16, .slice ao2 z4.1.length cp2), (18, .int .i64 s4), (110, .bool true)]) hf (by rw [hb11])
                      refine stQ tbOk 2 [0, 3, 10, 11, 12, 14, 16, 18, 110, 111, 112] (L' := [(0, .slice ao_b b.length cp_b), (3, .int .u64 p_x), (10, .int .i64 n_1), (11, .int .i64 k_1), (12, .slice ao1 z2.1.length cp1), (14, .int .u64 z3.1), (16, .slice ao2 z4.1.length cp2), (18, .int .i64 s4), (110, .bool true), (111, .slice ao1 z2.1.length cp1), (112, .int .i64 s4)]) hf (by kernel_rfl) ?_
                      clear hf; clear a; intro a hf
                      have hT := of_gd hS; clear hS; obtain ⟨hc5, hS⟩ := hT
                      refine ixQ tbOk u22 i5 rfl rfl (ho2.ro (mt_le _)) (k := .i64) (n := s4) hc5 hf (by kernel_rfl) (by kernel_rfl) (by kernel_rfl) (by kernel_rfl) ?_
                      clear hf; clear a; intro p4 c4 a hp4 hr4 hf
                      obtain rfl : c4 = [.int .u8 (gt z2.1 s4)] := hr4
                      replace hf := Fr.keep (ks := [0, 3, 10, 11, 12, 14, 16, 18, 110, 113]) (L' := [(0, .slice ao_b b.length cp_b), (3, .int .u64 p_x), (10, .int .i64 n_1), (11, .int .i64 k_1), (12, .slice ao1 z2.1.length cp1), (14, .int .u64 z3.1), (16, .slice ao2 z4.1.length cp2), (18, .int .i64 s4), (110, .bool true), (113, .pointer (some p4))]) hf (by kernel_rfl)
                      refine ldQ tbOk u5 rfl hp4 (LeH.refl _) hf (by kernel_rfl) (by kernel_rfl) (by kernel_rfl) ?_
                      clear hf; clear a; intro a hf
                      replace hf := Fr.keep (ks := [0, 3, 10, 11, 12, 14, 16, 18, 110, 114]) (L' := [(0, .slice ao_b b.length cp_b), (3, .int .u64 p_x), (10, .int .i64 n_1), (11, .int .i64 k_1), (12, .slice ao1 z2.1.length cp1), (14, .int .u64 z3.1), (16, .slice ao2 z4.1.length cp2), (18, .int .i64 s4), (110, .bool true), (114, .int .u8 (gt z2.1 s4))]) hf (by kernel_rfl)
                      refine stQ tbOk 2 [0, 3, 10, 11, 12, 14, 16, 18, 110, 114, 115, 116] (L' := [(0, .slice ao_b b.length cp_b), (3, .int .u64 p_x), (10, .int .i64 n_1), (11, .int .i64 k_1), (12, .slice ao1 z2.1.length cp1), (14, .int .u64 z3.1), (16, .slice ao2 z4.1.length cp2), (18, .int .i64 s4), (110, .bool true), (114, .int .u8 (gt z2.1 s4)), (115, .slice ao_b b.length cp_b), (116, .int .i64 s4)]) hf (by kernel_rfl) ?_
                      clear hf; clear a; intro a hf
                      have hT := of_gd hS; clear hS; obtain ⟨hc6, hS⟩ := hT
                      refine ixQ tbOk u22 i5 rfl rfl h_b (k := .i64) (n := s4) hc6 hf (by kernel_rfl) (by kernel_rfl) (by kernel_rfl) (by kernel_rfl) ?_
                      clear hf; clear a; intro p5 c5 a hp5 hr5 hf
                      obtain rfl : c5 = [.int .u8 (gt b s4)] := hr5
                      replace hf := Fr.keep (ks := [0, 3, 10, 11, 12, 14, 16, 18, 110, 114, 117]) (L' := [(0, .slice ao_b b.length cp_b), (3, .int .u64 p_x), (10, .int .i64 n_1), (11, .int .i64 k_1), (12, .slice ao1 z2.1.length cp1), (14, .int .u64 z3.1), (16, .slice ao2 z4.1.length cp2), (18, .int .i64 s4), (110, .bool true), (114, .int .u8 (gt z2.1 s4)), (117, .pointer (some p5))]) hf (by kernel_rfl)
                      refine ldQ tbOk u5 rfl hp5 hE.le hf (by kernel_rfl) (by kernel_rfl) (by kernel_rfl) ?_
                      clear hf; clear a; intro a hf
                      replace hf := Fr.keep (ks := [0, 3, 10, 11, 12, 14, 16, 18, 110, 114, 118]) (L' := [(0, .slice ao_b b.length cp_b), (3, .int .u64 p_x), (10, .int .i64 n_1), (11, .int .i64 k_1), (12, .slice ao1 z2.1.length cp1), (14, .int .u64 z3.1), (16, .slice ao2 z4.1.length cp2), (18, .int .i64 s4), (110, .bool true), (114, .int .u8 (gt z2.1 s4)), (118, .int .u8 (gt b s4))]) hf (by kernel_rfl)
                      refine stQ tbOk 2 [0, 3, 10, 11, 12, 14, 16, 18, 120] (L' := [(0, .slice ao_b b.length cp_b), (3, .int .u64 p_x), (10, .int .i64 n_1), (11, .int .i64 k_1), (12, .slice ao1 z2.1.length cp1), (14, .int .u64 z3.1), (16, .slice ao2 z4.1.length cp2), (18, .int .i64 s4), (120, .bool ((gt z2.1 s4) != (gt b s4)))]) hf (by kernel_rfl) ?_
                      clear hf; clear a; intro a hf
                      refine wpQuiet_nil ?_
                      intro w10 hx
                      replace hE := hE.tr hx
                      replace ho2 := ho2.ext hx
                      replace ho3 := ho3.ext hx
                      exact hK5 ((gt z2.1 s4) != (gt b s4)) _ _ ⟨hE, ho2, ho3, hf.keep (ks := [0, 3, 10, 11, 12, 14, 16, 18, 120]) (by kernel_rfl)⟩ hS
                    · replace hS := of_f hb11 hS
                      replace hf := Fr.cast (L' := [(0, .slice ao_b b.length cp_b), (3, .int .u64 p_x), (10, .int .i64 n_1), (11, .int .i64 k_1), (12, .slice ao1 z2.1.length cp1), (14, .int .u64 z3.1), (16, .slice ao2 z4.1.length cp2), (18, .int .i64 s4), (110, .bool false)]) hf (by rw [hb11])
                      refine stQ tbOk 10 [0, 3, 10, 11, 12, 14, 16, 18, 120] (L' := [(0, .slice ao_b b.length cp_b), (3, .int .u64 p_x), (10, .int .i64 n_1), (11, .int .i64 k_1), (12, .slice ao1 z2.1.length cp1), (14, .int .u64 z3.1), (16, .slice ao2 z4.1.length cp2), (18, .int .i64 s4), (120, .bool false)]) hf (by kernel_rfl) ?_
                      clear hf; clear a; intro a hf
                      refine wpQuiet_nil ?_
                      intro w11 hx
                      replace hE := hE.tr hx
                      replace ho2 := ho2.ext hx
                      replace ho3 := ho3.ext hx
                      exact hK5 false _ _ ⟨hE, ho2, ho3, hf.keep (ks := [0, 3, 10, 11, 12, 14, 16, 18, 120]) (by kernel_rfl)⟩ hS
              · replace hS := of_f hb9 hS
                refine wp_exit ?_
                exact hK3 () _ _ ⟨hE, ho3, hf.keep (ks := [3, 10, 14, 16]) (by kernel_rfl)⟩ hS
        · clear hS; intro KK2 k2 hK2 hS
          refine reg ?_
          refine st tbOk 3 [0, 3, 10, 11, 12, 14, 15, 16, 17, 73] (L' := [(0, .slice ao_b b.length cp_b), (3, .int .u64 p_x), (10, .int .i64 n_1), (11, .int .i64 k_1), (12, .slice ao1 z2.1.length cp1), (14, .int .u64 z3.1), (15, .int .i64 z3.2), (16, .slice ao2 z4.1.length cp2), (17, .int .i64 z4.2), (73, .bool (z2.2 != 0))]) hf (by kernel_rfl) ?_
          clear hf; clear a; intro a hf
          rcases Bool.eq_false_or_eq_true (z2.2 != 0) with hb4 | hb4
          · replace hS := of_t hb4 hS
            replace hf := Fr.cast (L' := [(0, .slice ao_b b.length cp_b), (3, .int .u64 p_x), (10, .int .i64 n_1), (11, .int .i64 k_1), (12, .slice ao1 z2.1.length cp1), (14, .int .u64 z3.1), (15, .int .i64 z3.2), (16, .slice ao2 z4.1.length cp2), (17, .int .i64 z4.2), (73, .bool true)]) hf (by rw [hb4])
            refine st tbOk 20 [0, 3, 10, 11, 12, 14, 16, 93] (L' := [(0, .slice ao_b b.length cp_b), (3, .int .u64 p_x), (10, .int .i64 n_1), (11, .int .i64 k_1), (12, .slice ao1 z2.1.length cp1), (14, .int .u64 z3.1), (16, .slice ao2 z4.1.length cp2), (93, .bool true)]) hf (by kernel_rfl) ?_
            clear hf; clear a; intro a hf
            refine wpList_nil ?_
            exact hK2 true _ _ ⟨hE, ho2, ho3, hf.keep (ks := [0, 3, 10, 11, 12, 14, 16, 93]) (by kernel_rfl)⟩ hS
          · replace hS := of_f hb4 hS
            replace hf := Fr.cast (L' := [(0, .slice ao_b b.length cp_b), (3, .int .u64 p_x), (10, .int .i64 n_1), (11, .int .i64 k_1), (12, .slice ao1 z2.1.length cp1), (14, .int .u64 z3.1), (15, .int .i64 z3.2), (16, .slice ao2 z4.1.length cp2), (17, .int .i64 z4.2), (73, .bool false)]) hf (by rw [hb4])
            refine st tbOk 4 [0, 3, 10, 11, 12, 14, 16, 17, 77] (L' := [(0, .slice ao_b b.length cp_b), (3, .int .u64 p_x), (10, .int .i64 n_1), (11, .int .i64 k_1), (12, .slice ao1 z2.1.length cp1), (14, .int .u64 z3.1), (16, .slice ao2 z4.1.length cp2), (17, .int .i64 z4.2), (77, .bool (z3.2 != 0))]) hf (by kernel_rfl) ?_
            clear hf; clear a; intro a hf
            rcases Bool.eq_false_or_eq_true (z3.2 != 0) with hb5 | hb5
            · replace hS := of_t hb5 hS
              replace hf := Fr.cast (L' := [(0, .slice ao_b b.length cp_b), (3, .int .u64 p_x), (10, .int .i64 n_1), (11, .int .i64 k_1), (12, .slice ao1 z2.1.length cp1), (14, .int .u64 z3.1), (16, .slice ao2 z4.1.length cp2), (17, .int .i64 z4.2), (77, .bool true)]) hf (by rw [hb5])
              refine st tbOk 16 [0, 3, 10, 11, 12, 14, 16, 93] (L' := [(0, .slice ao_b b.length cp_b), (3, .int .u64 p_x), (10, .int .i64 n_1), (11, .int .i64 k_1), (12, .slice ao1 z2.1.length cp1), (14, .int .u64 z3.1), (16, .slice ao2 z4.1.length cp2), (93, .bool true)]) hf (by kernel_rfl) ?_
              clear hf; clear a; intro a hf
              refine wpList_nil ?_
              exact hK2 true _ _ ⟨hE, ho2, ho3, hf.keep (ks := [0, 3, 10, 11, 12, 14, 16, 93]) (by kernel_rfl)⟩ hS
            · replace hS := of_f hb5 hS
              replace hf := Fr.cast (L' := [(0, .slice ao_b b.length cp_b), (3, .int .u64 p_x), (10, .int .i64 n_1), (11, .int .i64 k_1), (12, .slice ao1 z2.1.length cp1), (14, .int .u64 z3.1), (16, .slice ao2 z4.1.length cp2), (17, .int .i64 z4.2), (77, .bool false)]) hf (by rw [hb5])
              refine st tbOk 4 [0, 3, 10, 11, 12, 14, 16, 81] (L' := [(0, .slice ao_b b.length cp_b), (3, .int .u64 p_x), (10, .int .i64 n_1), (11, .int .i64 k_1), (12, .slice ao1 z2.1.length cp1), (14, .int .u64 z3.1), (16, .slice ao2 z4.1.length cp2), (81, .bool (z4.2 != 0))]) hf (by kernel_rfl) ?_
              clear hf; clear a; intro a hf
              rcases Bool.eq_false_or_eq_true (z4.2 != 0) with hb6 | hb6
              · replace hS := of_t hb6 hS
                replace hf := Fr.cast (L' := [(0, .slice ao_b b.length cp_b), (3, .int .u64 p_x), (10, .int .i64 n_1), (11, .int .i64 k_1), (12, .slice ao1 z2.1.length cp1), (14, .int .u64 z3.1), (16, .slice ao2 z4.1.length cp2), (81, .bool true)]) hf (by rw [hb6])
                refine st tbOk 12 [0, 3, 10, 11, 12, 14, 16, 93] (L' := [(0, .slice ao_b b.length cp_b), (3, .int .u64 p_x), (10, .int .i64 n_1), (11, .int .i64 k_1), (12, .slice ao1 z2.1.length cp1), (14, .int .u64 z3.1), (16, .slice ao2 z4.1.length cp2), (93, .bool true)]) hf (by kernel_rfl) ?_
                clear hf; clear a; intro a hf
                refine wpList_nil ?_
                exact hK2 true _ _ ⟨hE, ho2, ho3, hf.keep (ks := [0, 3, 10, 11, 12, 14, 16, 93]) (by kernel_rfl)⟩ hS
              · replace hS := of_f hb6 hS
                replace hf := Fr.cast (L' := [(0, .slice ao_b b.length cp_b), (3, .int .u64 p_x), (10, .int .i64 n_1), (11, .int .i64 k_1), (12, .slice ao1 z2.1.length cp1), (14, .int .u64 z3.1), (16, .slice ao2 z4.1.length cp2), (81, .bool false)]) hf (by rw [hb6])
                refine st tbOk 7 [0, 3, 10, 11, 12, 14, 16, 88] (L' := [(0, .slice ao_b b.length cp_b), (3, .int .u64 p_x), (10, .int .i64 n_1), (11, .int .i64 k_1), (12, .slice ao1 z2.1.length cp1), (14, .int .u64 z3.1), (16, .slice ao2 z4.1.length cp2), (88, .bool (((z2.1.length : Nat) : Int) != ((b.length : Nat) : Int)))]) hf (by kernel_rfl) ?_
                clear hf; clear a; intro a hf
                rcases Bool.eq_false_or_eq_true (((z2.1.length : Nat) : Int) != ((b.length : Nat) : Int)) with hb7 | hb7
                · replace hS := of_t hb7 hS
                  replace hf := Fr.cast (L' := [(0, .slice ao_b b.length cp_b), (3, .int .u64 p_x), (10, .int .i64 n_1), (11, .int .i64 k_1), (12, .slice ao1 z2.1.length cp1), (14, .int .u64 z3.1), (16, .slice ao2 z4.1.length cp2), (88, .bool true)]) hf (by rw [hb7])
                  refine st tbOk 5 [0, 3, 10, 11, 12, 14, 16, 93] (L' := [(0, .slice ao_b b.length cp_b), (3, .int .u64 p_x), (10, .int .i64 n_1), (11, .int .i64 k_1), (12, .slice ao1 z2.1.length cp1), (14, .int .u64 z3.1), (16, .slice ao2 z4.1.length cp2), (93, .bool true)]) hf (by kernel_rfl) ?_
                  clear hf; clear a; intro a hf
                  refine wpList_nil ?_
                  exact hK2 true _ _ ⟨hE, ho2, ho3, hf.keep (ks := [0, 3, 10, 11, 12, 14, 16, 93]) (by kernel_rfl)⟩ hS
                · replace hS := of_f hb7 hS
                  replace hf := Fr.cast (L' := [(0, .slice ao_b b.length cp_b), (3, .int .u64 p_x), (10, .int .i64 n_1), (11, .int .i64 k_1), (12, .slice ao1 z2.1.length cp1), (14, .int .u64 z3.1), (16, .slice ao2 z4.1.length cp2), (88, .bool false)]) hf (by rw [hb7])
                  refine st tbOk 5 [0, 3, 10, 11, 12, 14, 16, 93] (L' := [(0, .slice ao_b b.length cp_b), (3, .int .u64 p_x), (10, .int .i64 n_1), (11, .int .i64 k_1), (12, .slice ao1 z2.1.length cp1), (14, .int .u64 z3.1), (16, .slice ao2 z4.1.length cp2), (93, .bool (((z4.1.length : Nat) : Int) != n_1))]) hf (by kernel_rfl) ?_
                  clear hf; clear a; intro a hf
                  refine wpList_nil ?_
                  exact hK2 (((z4.1.length : Nat) : Int) != n_1) _ _ ⟨hE, ho2, ho3, hf.keep (ks := [0, 3, 10, 11, 12, 14, 16, 93]) (by kernel_rfl)⟩ hS
    · clear hS; intro KK1 k1 hK1 hS
      refine reg ?_
      refine st tbOk 4 [0, 1, 2, 3, 27] (L' := [(0, .slice ao_b b.length cp_b), (1, .int .i64 p_at), (2, .int .i64 p_which), (3, .int .u64 p_x), (27, .bool (decide (((b.length : Nat) : Int) < 8)))]) hf (by kernel_rfl) ?_
      clear hf; clear a; intro a hf
      rcases Bool.eq_false_or_eq_true (decide (((b.length : Nat) : Int) < 8)) with hb2 | hb2
      · replace hS := of_t hb2 hS
        replace hf := Fr.cast (L' := [(0, .slice ao_b b.length cp_b), (1, .int .i64 p_at), (2, .int .i64 p_which), (3, .int .u64 p_x), (27, .bool true)]) hf (by rw [hb2])
        refine st tbOk 4 [0, 1, 2, 3, 31] (L' := [(0, .slice ao_b b.length cp_b), (1, .int .i64 p_at), (2, .int .i64 p_which), (3, .int .u64 p_x), (31, .bool true)]) hf (by kernel_rfl) ?_
        clear hf; clear a; intro a hf
        refine wpList_nil ?_
        exact hK1 true _ _ ⟨hE, hf.keep (ks := [0, 1, 2, 3, 31]) (by kernel_rfl)⟩ hS
      · replace hS := of_f hb2 hS
        replace hf := Fr.cast (L' := [(0, .slice ao_b b.length cp_b), (1, .int .i64 p_at), (2, .int .i64 p_which), (3, .int .u64 p_x), (27, .bool false)]) hf (by rw [hb2])
        refine st tbOk 4 [0, 1, 2, 3, 31] (L' := [(0, .slice ao_b b.length cp_b), (1, .int .i64 p_at), (2, .int .i64 p_which), (3, .int .u64 p_x), (31, .bool (decide (((b.length : Nat) : Int) > 2000)))]) hf (by kernel_rfl) ?_
        clear hf; clear a; intro a hf
        refine wpList_nil ?_
        exact hK1 (decide (((b.length : Nat) : Int) > 2000)) _ _ ⟨hE, hf.keep (ks := [0, 1, 2, 3, 31]) (by kernel_rfl)⟩ hS

theorem law01_OctetsEnds_ok {w : World} {n : Int} {p_which : Int}  {r : Bool} (hS : law01_OctetsEnds n p_which = some r) :
    Calls Try.prog 10 #[.int .i64 n, .int .i64 p_which] w (Gives (fun u w' => u = .bool r ∧ Ext w w')) := by
  unfold law01_OctetsEnds at hS
  refine fn_ok (vs := [.int .i64 n, .int .i64 p_which]) Try.func10 rfl 111 Try.ntmps10 (Nat.le_of_ble_eq_true rfl) ?_
  intro a hf
  replace hf := Fr.cast (L' := [(0, .int .i64 n), (1, .int .i64 p_which)]) hf (by kernel_rfl)
  have hE := Ext.rfl' w
  refine sq ?_
  refine reg ?_
  refine st tbOk 1 [0, 1] (L' := [(0, .int .i64 n), (1, .int .i64 p_which)]) hf (by kernel_rfl) ?_
  clear hf; clear a; intro a hf
  refine wpList_nil ?_
  refine sq ?_
  refine reg ?_
  have hT := of_bd hS; clear hS; obtain ⟨z1, hz1, hS⟩ := hT
  refine cl ent11 (vs := []) hf (by kernel_rfl) (by kernel_rfl) (by kernel_rfl) (law01_awake_ok  hz1) ?_
  clear hf; clear a; intro v w1 a hT hf; obtain ⟨rfl, hx⟩ := hT
  replace hE := hE.tr hx
  replace hf := Fr.keep (ks := [0, 1, 21]) (L' := [(0, .int .i64 n), (1, .int .i64 p_which), (21, .bool z1)]) hf (by kernel_rfl)
  refine st tbOk 1 [0, 1, 5] (L' := [(0, .int .i64 n), (1, .int .i64 p_which), (5, .bool z1)]) hf (by kernel_rfl) ?_
  clear hf; clear a; intro a hf
  refine wpList_nil ?_
  refine sq ?_
  refine sq ?_
  refine reg ?_
  refine st tbOk 2 [0, 1, 23] (L' := [(0, .int .i64 n), (1, .int .i64 p_which), (23, .bool (!z1))]) hf (by kernel_rfl) ?_
  clear hf; clear a; intro a hf
  refine wpList_nil ?_
  refine cnd (b := !z1) hf (by kernel_rfl) (fun hb1 => ?_) (fun hb1 => ?_)
  · replace hS := of_t hb1 hS
    refine sq ?_
    refine reg ?_
    refine st tbOk 1 [4] (L' := [(4, .bool false)]) hf (by kernel_rfl) ?_
    clear hf; clear a; intro a hf
    refine wpList_nil ?_
    have hr := Option.some.inj hS; subst hr
    refine wp_ret ?_
    exact ret_ok hf (vs := [.bool false]) (by kernel_rfl) ⟨rfl, hE⟩
  · replace hS := of_f hb1 hS
    refine wp_skip ?_
    refine sq ?_
    refine reg ?_
    refine bs tbOk u37 i3 rfl (t := (tI .i64)) (vs := [(0, .int .i64 1), (1, .int .i64 2), (2, .int .i64 4), (3, .int .i64 8)]) (cells := #[.int .i64 1, .int .i64 2, .int .i64 4, .int .i64 8]) ([1, 2, 4, 8] : List Int) hf (by kernel_rfl) (by kernel_rfl) (by kernel_rfl) rfl (by kernel_rfl) (reps_flat _) rfl ?_
    clear hf; clear a; intro w2 a ho1 hx hz hf
    replace ho1 := ho1.base hE.size
    replace hE := hE.tr hx
    replace hf := Fr.keep (ks := [0, 1, 24]) (L' := [(0, .int .i64 n), (1, .int .i64 p_which), (24, .slice (some ⟨w1.heap.size, 0, none⟩) ([1, 2, 4, 8] : List Int).length ([1, 2, 4, 8] : List Int).length)]) hf (by kernel_rfl)
    refine st tbOk 2 [0, 24, 26] (L' := [(0, .int .i64 n), (24, .slice (some ⟨w1.heap.size, 0, none⟩) ([1, 2, 4, 8] : List Int).length ([1, 2, 4, 8] : List Int).length), (26, .int .i64 (band .i64 p_which 3))]) hf (by kernel_rfl) ?_
    clear hf; clear a; intro a hf
    have hT := of_gd hS; clear hS; obtain ⟨hc1, hS⟩ := hT
    refine ix tbOk u37 i3 rfl rfl (ho1.ro (mt_le _)) (k := .i64) (n := band .i64 p_which 3) hc1 hf (by kernel_rfl) (by kernel_rfl) (by kernel_rfl) (by kernel_rfl) ?_
    clear hf; clear a; intro p1 c1 a hp1 hr1 hf
    obtain rfl : c1 = [.int .i64 (gt ([1, 2, 4, 8] : List Int) (band .i64 p_which 3))] := hr1
    replace hf := Fr.keep (ks := [0, 27]) (L' := [(0, .int .i64 n), (27, .pointer (some p1))]) hf (by kernel_rfl)
    refine ld tbOk u3 rfl hp1 (LeH.refl _) hf (by kernel_rfl) (by kernel_rfl) (by kernel_rfl) ?_
    clear hf; clear a; intro a hf
    replace hf := Fr.keep (ks := [0, 28]) (L' := [(0, .int .i64 n), (28, .int .i64 (gt ([1, 2, 4, 8] : List Int) (band .i64 p_which 3)))]) hf (by kernel_rfl)
    have hT := of_let hS; clear hS; obtain ⟨k_1, hl1, hS⟩ := hT
    refine st tbOk 1 [0, 6] (L' := [(0, .int .i64 n), (6, .int .i64 k_1)]) hf (by subst hl1; kernel_rfl) ?_
    clear hf; clear a; intro a hf
    refine wpList_nil ?_
    refine sq ?_
    refine reg ?_
    refine st tbOk 4 [6, 32] (L' := [(6, .int .i64 k_1), (32, .int .i64 (IntKind.i64.wrap (k_1 + (band .i64 n 255))))]) hf (by kernel_rfl) ?_
    clear hf; clear a; intro a hf
    have hT := of_gd hS; clear hS; obtain ⟨hc2, hS⟩ := hT
    refine mk tbOk u22 i5 rfl (t := (tI .u8)) rfl (0 : Int) rfl rfl (k := .i64) (k' := .i64) (n := IntKind.i64.wrap (k_1 + (band .i64 n 255))) hc2 hf (by kernel_rfl) (by kernel_rfl) (by kernel_rfl) (by kernel_rfl) ?_
    clear hf; clear a; intro w3 a ho2 hx hz hf
    have dj1 := Dj.new ho1 ho2
    replace ho2 := ho2.base hE.size
    replace hE := hE.tr hx
    replace ho1 := ho1.ext hx
    replace hf := Fr.keep (ks := [6, 33]) (L' := [(6, .int .i64 k_1), (33, .slice (some ⟨w2.heap.size, 0, none⟩) (List.replicate (IntKind.i64.wrap (k_1 + (band .i64 n 255))).toNat (0 : Int)).length (IntKind.i64.wrap (k_1 + (band .i64 n 255))).toNat)]) hf (by kernel_rfl)
    refine st tbOk 1 [6, 7] (L' := [(6, .int .i64 k_1), (7, .slice (some ⟨w2.heap.size, 0, none⟩) (List.replicate (IntKind.i64.wrap (k_1 + (band .i64 n 255))).toNat (0 : Int)).length (IntKind.i64.wrap (k_1 + (band .i64 n 255))).toNat)]) hf (by kernel_rfl) ?_
    clear hf; clear a; intro a hf
    refine wpList_nil ?_
    refine sq ?_
    refine reg ?_
    have hT := of_let hS; clear hS; obtain ⟨at_1, hl2, hS⟩ := hT
    refine st tbOk 6 [6, 7, 8] (L' := [(6, .int .i64 k_1), (7, .slice (some ⟨w2.heap.size, 0, none⟩) (List.replicate (IntKind.i64.wrap (k_1 + (band .i64 n 255))).toNat (0 : Int)).length (IntKind.i64.wrap (k_1 + (band .i64 n 255))).toNat), (8, .int .u64 at_1)]) hf (by subst hl2; kernel_rfl) ?_
    clear hf; clear a; intro a hf
    refine wpList_nil ?_
    refine sq ?_
    refine reg ?_
    refine st tbOk 3 [6, 7, 8, 40, 41, 42] (L' := [(6, .int .i64 k_1), (7, .slice (some ⟨w2.heap.size, 0, none⟩) (List.replicate (IntKind.i64.wrap (k_1 + (band .i64 n 255))).toNat (0 : Int)).length (IntKind.i64.wrap (k_1 + (band .i64 n 255))).toNat), (8, .int .u64 at_1), (40, .slice (some ⟨w2.heap.size, 0, none⟩) (List.replicate (IntKind.i64.wrap (k_1 + (band .i64 n 255))).toNat (0 : Int)).length (IntKind.i64.wrap (k_1 + (band .i64 n 255))).toNat), (41, .int .u64 at_1), (42, .int .i64 k_1)]) hf (by kernel_rfl) ?_
    clear hf; clear a; intro a hf
    have hT := of_bd hS; clear hS; obtain ⟨z2, hz2, hS⟩ := hT
    refine cl ent12 (vs := [.slice (some ⟨w2.heap.size, 0, none⟩) (List.replicate (IntKind.i64.wrap (k_1 + (band .i64 n 255))).toNat (0 : Int)).length (IntKind.i64.wrap (k_1 + (band .i64 n 255))).toNat, .int .u64 at_1, .int .i64 k_1]) hf (by kernel_rfl) (by kernel_rfl) (by kernel_rfl) (octets_Get_ok (ho2.ro (mt_le _)) hz2) ?_
    clear hf; clear a; intro v w4 a hT hf; obtain ⟨rfl, hx⟩ := hT
    replace hE := hE.tr hx
    replace ho1 := ho1.ext hx
    replace ho2 := ho2.ext hx
    replace hf := Fr.keep (ks := [6, 7, 8, 43]) (L' := [(6, .int .i64 k_1), (7, .slice (some ⟨w2.heap.size, 0, none⟩) (List.replicate (IntKind.i64.wrap (k_1 + (band .i64 n 255))).toNat (0 : Int)).length (IntKind.i64.wrap (k_1 + (band .i64 n 255))).toNat), (8, .int .u64 at_1), (43, .tuple #[.int .u64 z2.1, .int .i64 z2.2])]) hf (by kernel_rfl)
    refine st tbOk 5 [6, 7, 8, 10] (L' := [(6, .int .i64 k_1), (7, .slice (some ⟨w2.heap.size, 0, none⟩) (List.replicate (IntKind.i64.wrap (k_1 + (band .i64 n 255))).toNat (0 : Int)).length (IntKind.i64.wrap (k_1 + (band .i64 n 255))).toNat), (8, .int .u64 at_1), (10, .int .i64 z2.2)]) hf (by kernel_rfl) ?_
    clear hf; clear a; intro a hf
    refine wpList_nil ?_
    refine sq ?_
    refine reg ?_
    refine st tbOk 4 [7, 10, 47, 49, 50] (L' := [(7, .slice (some ⟨w2.heap.size, 0, none⟩) (List.replicate (IntKind.i64.wrap (k_1 + (band .i64 n 255))).toNat (0 : Int)).length (IntKind.i64.wrap (k_1 + (band .i64 n 255))).toNat), (10, .int .i64 z2.2), (47, .slice (some ⟨w2.heap.size, 0, none⟩) (List.replicate (IntKind.i64.wrap (k_1 + (band .i64 n 255))).toNat (0 : Int)).length (IntKind.i64.wrap (k_1 + (band .i64 n 255))).toNat), (49, .int .u64 (IntKind.u64.wrap (at_1 + 1))), (50, .int .i64 k_1)]) hf (by kernel_rfl) ?_
    clear hf; clear a; intro a hf
    have hT := of_bd hS; clear hS; obtain ⟨z3, hz3, hS⟩ := hT
    refine cl ent12 (vs := [.slice (some ⟨w2.heap.size, 0, none⟩) (List.replicate (IntKind.i64.wrap (k_1 + (band .i64 n 255))).toNat (0 : Int)).length (IntKind.i64.wrap (k_1 + (band .i64 n 255))).toNat, .int .u64 (IntKind.u64.wrap (at_1 + 1)), .int .i64 k_1]) hf (by kernel_rfl) (by kernel_rfl) (by kernel_rfl) (octets_Get_ok (ho2.ro (mt_le _)) hz3) ?_
    clear hf; clear a; intro v w5 a hT hf; obtain ⟨rfl, hx⟩ := hT
    replace hE := hE.tr hx
    replace ho1 := ho1.ext hx
    replace ho2 := ho2.ext hx
    replace hf := Fr.keep (ks := [7, 10, 51]) (L' := [(7, .slice (some ⟨w2.heap.size, 0, none⟩) (List.replicate (IntKind.i64.wrap (k_1 + (band .i64 n 255))).toNat (0 : Int)).length (IntKind.i64.wrap (k_1 + (band .i64 n 255))).toNat), (10, .int .i64 z2.2), (51, .tuple #[.int .u64 z3.1, .int .i64 z3.2])]) hf (by kernel_rfl)
    refine st tbOk 5 [7, 10, 12] (L' := [(7, .slice (some ⟨w2.heap.size, 0, none⟩) (List.replicate (IntKind.i64.wrap (k_1 + (band .i64 n 255))).toNat (0 : Int)).length (IntKind.i64.wrap (k_1 + (band .i64 n 255))).toNat), (10, .int .i64 z2.2), (12, .int .i64 z3.2)]) hf (by kernel_rfl) ?_
    clear hf; clear a; intro a hf
    refine wpList_nil ?_
    refine sq ?_
    refine reg ?_
    refine st tbOk 4 [7, 10, 12, 55, 58] (L' := [(7, .slice (some ⟨w2.heap.size, 0, none⟩) (List.replicate (IntKind.i64.wrap (k_1 + (band .i64 n 255))).toNat (0 : Int)).length (IntKind.i64.wrap (k_1 + (band .i64 n 255))).toNat), (10, .int .i64 z2.2), (12, .int .i64 z3.2), (55, .slice (some ⟨w2.heap.size, 0, none⟩) (List.replicate (IntKind.i64.wrap (k_1 + (band .i64 n 255))).toNat (0 : Int)).length (IntKind.i64.wrap (k_1 + (band .i64 n 255))).toNat), (58, .int .u64 (IntKind.u64.wrap (((List.replicate (IntKind.i64.wrap (k_1 + (band .i64 n 255))).toNat (0 : Int)).length : Nat) : Int)))]) hf (by kernel_rfl) ?_
    clear hf; clear a; intro a hf
    have hT := of_bd hS; clear hS; obtain ⟨z4, hz4, hS⟩ := hT
    refine cl ent16 (vs := [.slice (some ⟨w2.heap.size, 0, none⟩) (List.replicate (IntKind.i64.wrap (k_1 + (band .i64 n 255))).toNat (0 : Int)).length (IntKind.i64.wrap (k_1 + (band .i64 n 255))).toNat, .int .u64 (IntKind.u64.wrap (((List.replicate (IntKind.i64.wrap (k_1 + (band .i64 n 255))).toNat (0 : Int)).length : Nat) : Int)), .int .u64 0]) hf (by kernel_rfl) (by kernel_rfl) (by kernel_rfl) (octets_Cut_ok (ho2.ro (mt_le _)) hz4) ?_
    clear hf; clear a; intro v w6 a hT hf; obtain ⟨ao1, cp1, rfl, hx, ho3⟩ := hT
    have dj2 := Dj.new ho1 ho3
    have dj3 := Dj.new ho2 ho3
    replace ho3 := ho3.base hE.size
    replace hE := hE.tr hx
    replace ho1 := ho1.ext hx
    replace ho2 := ho2.ext hx
    replace hf := Fr.keep (ks := [7, 10, 12, 59]) (L' := [(7, .slice (some ⟨w2.heap.size, 0, none⟩) (List.replicate (IntKind.i64.wrap (k_1 + (band .i64 n 255))).toNat (0 : Int)).length (IntKind.i64.wrap (k_1 + (band .i64 n 255))).toNat), (10, .int .i64 z2.2), (12, .int .i64 z3.2), (59, .tuple #[.slice ao1 z4.1.length cp1, .int .i64 z4.2])]) hf (by kernel_rfl)
    refine st tbOk 5 [7, 10, 12, 13, 14] (L' := [(7, .slice (some ⟨w2.heap.size, 0, none⟩) (List.replicate (IntKind.i64.wrap (k_1 + (band .i64 n 255))).toNat (0 : Int)).length (IntKind.i64.wrap (k_1 + (band .i64 n 255))).toNat), (10, .int .i64 z2.2), (12, .int .i64 z3.2), (13, .slice ao1 z4.1.length cp1), (14, .int .i64 z4.2)]) hf (by kernel_rfl) ?_
    clear hf; clear a; intro a hf
    refine wpList_nil ?_
    refine sq ?_
    refine reg ?_
    refine st tbOk 4 [7, 10, 12, 13, 14, 63, 66] (L' := [(7, .slice (some ⟨w2.heap.size, 0, none⟩) (List.replicate (IntKind.i64.wrap (k_1 + (band .i64 n 255))).toNat (0 : Int)).length (IntKind.i64.wrap (k_1 + (band .i64 n 255))).toNat), (10, .int .i64 z2.2), (12, .int .i64 z3.2), (13, .slice ao1 z4.1.length cp1), (14, .int .i64 z4.2), (63, .slice (some ⟨w2.heap.size, 0, none⟩) (List.replicate (IntKind.i64.wrap (k_1 + (band .i64 n 255))).toNat (0 : Int)).length (IntKind.i64.wrap (k_1 + (band .i64 n 255))).toNat), (66, .int .u64 (IntKind.u64.wrap (((List.replicate (IntKind.i64.wrap (k_1 + (band .i64 n 255))).toNat (0 : Int)).length : Nat) : Int)))]) hf (by kernel_rfl) ?_
    clear hf; clear a; intro a hf
    have hT := of_bd hS; clear hS; obtain ⟨z5, hz5, hS⟩ := hT
    refine cl ent16 (vs := [.slice (some ⟨w2.heap.size, 0, none⟩) (List.replicate (IntKind.i64.wrap (k_1 + (band .i64 n 255))).toNat (0 : Int)).length (IntKind.i64.wrap (k_1 + (band .i64 n 255))).toNat, .int .u64 (IntKind.u64.wrap (((List.replicate (IntKind.i64.wrap (k_1 + (band .i64 n 255))).toNat (0 : Int)).length : Nat) : Int)), .int .u64 1]) hf (by kernel_rfl) (by kernel_rfl) (by kernel_rfl) (octets_Cut_ok (ho2.ro (mt_le _)) hz5) ?_
    clear hf; clear a; intro v w7 a hT hf; obtain ⟨ao2, cp2, rfl, hx, ho4⟩ := hT
    have dj4 := Dj.new ho1 ho4
    have dj5 := Dj.new ho2 ho4
    have dj6 := Dj.new ho3 ho4
    replace ho4 := ho4.base hE.size
    replace hE := hE.tr hx
    replace ho1 := ho1.ext hx
    replace ho2 := ho2.ext hx
    replace ho3 := ho3.ext hx
    replace hf := Fr.keep (ks := [7, 10, 12, 13, 14, 67]) (L' := [(7, .slice (some ⟨w2.heap.size, 0, none⟩) (List.replicate (IntKind.i64.wrap (k_1 + (band .i64 n 255))).toNat (0 : Int)).length (IntKind.i64.wrap (k_1 + (band .i64 n 255))).toNat), (10, .int .i64 z2.2), (12, .int .i64 z3.2), (13, .slice ao1 z4.1.length cp1), (14, .int .i64 z4.2), (67, .tuple #[.slice ao2 z5.1.length cp2, .int .i64 z5.2])]) hf (by kernel_rfl)
    refine st tbOk 5 [7, 10, 12, 13, 14, 16] (L' := [(7, .slice (some ⟨w2.heap.size, 0, none⟩) (List.replicate (IntKind.i64.wrap (k_1 + (band .i64 n 255))).toNat (0 : Int)).length (IntKind.i64.wrap (k_1 + (band .i64 n 255))).toNat), (10, .int .i64 z2.2), (12, .int .i64 z3.2), (13, .slice ao1 z4.1.length cp1), (14, .int .i64 z4.2), (16, .int .i64 z5.2)]) hf (by kernel_rfl) ?_
    clear hf; clear a; intro a hf
    refine wpList_nil ?_
    refine sq ?_
    refine reg ?_
    refine st tbOk 5 [7, 10, 12, 13, 14, 16, 71, 75] (L' := [(7, .slice (some ⟨w2.heap.size, 0, none⟩) (List.replicate (IntKind.i64.wrap (k_1 + (band .i64 n 255))).toNat (0 : Int)).length (IntKind.i64.wrap (k_1 + (band .i64 n 255))).toNat), (10, .int .i64 z2.2), (12, .int .i64 z3.2), (13, .slice ao1 z4.1.length cp1), (14, .int .i64 z4.2), (16, .int .i64 z5.2), (71, .slice (some ⟨w2.heap.size, 0, none⟩) (List.replicate (IntKind.i64.wrap (k_1 + (band .i64 n 255))).toNat (0 : Int)).length (IntKind.i64.wrap (k_1 + (band .i64 n 255))).toNat), (75, .int .u64 (IntKind.u64.wrap ((IntKind.u64.wrap (((List.replicate (IntKind.i64.wrap (k_1 + (band .i64 n 255))).toNat (0 : Int)).length : Nat) : Int)) + 1)))]) hf (by kernel_rfl) ?_
    clear hf; clear a; intro a hf
    have hT := of_bd hS; clear hS; obtain ⟨z6, hz6, hS⟩ := hT
    refine cl ent16 (vs := [.slice (some ⟨w2.heap.size, 0, none⟩) (List.replicate (IntKind.i64.wrap (k_1 + (band .i64 n 255))).toNat (0 : Int)).length (IntKind.i64.wrap (k_1 + (band .i64 n 255))).toNat, .int .u64 (IntKind.u64.wrap ((IntKind.u64.wrap (((List.replicate (IntKind.i64.wrap (k_1 + (band .i64 n 255))).toNat (0 : Int)).length : Nat) : Int)) + 1)), .int .u64 0]) hf (by kernel_rfl) (by kernel_rfl) (by kernel_rfl) (octets_Cut_ok (ho2.ro (mt_le _)) hz6) ?_
    clear hf; clear a; intro v w8 a hT hf; obtain ⟨ao3, cp3, rfl, hx, ho5⟩ := hT
    have dj7 := Dj.new ho1 ho5
    have dj8 := Dj.new ho2 ho5
    have dj9 := Dj.new ho3 ho5
    have dj10 := Dj.new ho4 ho5
    replace ho5 := ho5.base hE.size
    replace hE := hE.tr hx
    replace ho1 := ho1.ext hx
    replace ho2 := ho2.ext hx
    replace ho3 := ho3.ext hx
    replace ho4 := ho4.ext hx
    replace hf := Fr.keep (ks := [7, 10, 12, 13, 14, 16, 76]) (L' := [(7, .slice (some ⟨w2.heap.size, 0, none⟩) (List.replicate (IntKind.i64.wrap (k_1 + (band .i64 n 255))).toNat (0 : Int)).length (IntKind.i64.wrap (k_1 + (band .i64 n 255))).toNat), (10, .int .i64 z2.2), (12, .int .i64 z3.2), (13, .slice ao1 z4.1.length cp1), (14, .int .i64 z4.2), (16, .int .i64 z5.2), (76, .tuple #[.slice ao3 z6.1.length cp3, .int .i64 z6.2])]) hf (by kernel_rfl)
    refine st tbOk 5 [7, 10, 12, 13, 14, 16, 18] (L' := [(7, .slice (some ⟨w2.heap.size, 0, none⟩) (List.replicate (IntKind.i64.wrap (k_1 + (band .i64 n 255))).toNat (0 : Int)).length (IntKind.i64.wrap (k_1 + (band .i64 n 255))).toNat), (10, .int .i64 z2.2), (12, .int .i64 z3.2), (13, .slice ao1 z4.1.length cp1), (14, .int .i64 z4.2), (16, .int .i64 z5.2), (18, .int .i64 z6.2)]) hf (by kernel_rfl) ?_
    clear hf; clear a; intro a hf
    refine wpList_nil ?_
    refine sq ?_
    refine reg ?_
    refine st tbOk 1 [10, 12, 13, 14, 16, 18, 80] (L' := [(10, .int .i64 z2.2), (12, .int .i64 z3.2), (13, .slice ao1 z4.1.length cp1), (14, .int .i64 z4.2), (16, .int .i64 z5.2), (18, .int .i64 z6.2), (80, .slice (some ⟨w2.heap.size, 0, none⟩) (List.replicate (IntKind.i64.wrap (k_1 + (band .i64 n 255))).toNat (0 : Int)).length (IntKind.i64.wrap (k_1 + (band .i64 n 255))).toNat)]) hf (by kernel_rfl) ?_
    clear hf; clear a; intro a hf
    have hT := of_bd hS; clear hS; obtain ⟨z7, hz7, hS⟩ := hT
    refine cl ent16 (vs := [.slice (some ⟨w2.heap.size, 0, none⟩) (List.replicate (IntKind.i64.wrap (k_1 + (band .i64 n 255))).toNat (0 : Int)).length (IntKind.i64.wrap (k_1 + (band .i64 n 255))).toNat, .int .u64 18446744073709551615, .int .u64 2]) hf (by kernel_rfl) (by kernel_rfl) (by kernel_rfl) (octets_Cut_ok (ho2.ro (mt_le _)) hz7) ?_
    clear hf; clear a; intro v w9 a hT hf; obtain ⟨ao4, cp4, rfl, hx, ho6⟩ := hT
    have dj11 := Dj.new ho1 ho6
    have dj12 := Dj.new ho2 ho6
    have dj13 := Dj.new ho3 ho6
    have dj14 := Dj.new ho4 ho6
    have dj15 := Dj.new ho5 ho6
    replace ho6 := ho6.base hE.size
    replace hE := hE.tr hx
    replace ho1 := ho1.ext hx
    replace ho2 := ho2.ext hx
    replace ho3 := ho3.ext hx
    replace ho4 := ho4.ext hx
    replace ho5 := ho5.ext hx
    replace hf := Fr.keep (ks := [10, 12, 13, 14, 16, 18, 81]) (L' := [(10, .int .i64 z2.2), (12, .int .i64 z3.2), (13, .slice ao1 z4.1.length cp1), (14, .int .i64 z4.2), (16, .int .i64 z5.2), (18, .int .i64 z6.2), (81, .tuple #[.slice ao4 z7.1.length cp4, .int .i64 z7.2])]) hf (by kernel_rfl)
    refine st tbOk 5 [10, 12, 13, 14, 16, 18, 20] (L' := [(10, .int .i64 z2.2), (12, .int .i64 z3.2), (13, .slice ao1 z4.1.length cp1), (14, .int .i64 z4.2), (16, .int .i64 z5.2), (18, .int .i64 z6.2), (20, .int .i64 z7.2)]) hf (by kernel_rfl) ?_
    clear hf; clear a; intro a hf
    refine wpList_nil ?_
    refine sq ?_
    refine ctj (fun (s1 : Bool) (a : Act) (w' : World) => Ext w w' ∧ Fr 111 [(4, .bool s1)] a) hS ?_ ?_
    · clear hS hf; clear a; clear hE; intro s1 a w10 hM hS
      obtain ⟨hE, hf⟩ := hM
      have hr := Option.some.inj hS; subst hr
      refine wp_ret ?_
      exact ret_ok hf (vs := [.bool s1]) (by kernel_rfl) ⟨rfl, hE⟩
    · clear hS; intro KK1 k1 hK1 hS
      refine reg ?_
      refine st tbOk 3 [12, 13, 14, 16, 18, 20, 86] (L' := [(12, .int .i64 z3.2), (13, .slice ao1 z4.1.length cp1), (14, .int .i64 z4.2), (16, .int .i64 z5.2), (18, .int .i64 z6.2), (20, .int .i64 z7.2), (86, .bool (z2.2 == 0))]) hf (by kernel_rfl) ?_
      clear hf; clear a; intro a hf
      rcases Bool.eq_false_or_eq_true (z2.2 == 0) with hb2 | hb2
      · replace hS := of_t hb2 hS
        replace hf := Fr.cast (L' := [(12, .int .i64 z3.2), (13, .slice ao1 z4.1.length cp1), (14, .int .i64 z4.2), (16, .int .i64 z5.2), (18, .int .i64 z6.2), (20, .int .i64 z7.2), (86, .bool true)]) hf (by rw [hb2])
        refine st tbOk 4 [13, 14, 16, 18, 20, 90] (L' := [(13, .slice ao1 z4.1.length cp1), (14, .int .i64 z4.2), (16, .int .i64 z5.2), (18, .int .i64 z6.2), (20, .int .i64 z7.2), (90, .bool (z3.2 == 10))]) hf (by kernel_rfl) ?_
        clear hf; clear a; intro a hf
        rcases Bool.eq_false_or_eq_true (z3.2 == 10) with hb3 | hb3
        · replace hS := of_t hb3 hS
          replace hf := Fr.cast (L' := [(13, .slice ao1 z4.1.length cp1), (14, .int .i64 z4.2), (16, .int .i64 z5.2), (18, .int .i64 z6.2), (20, .int .i64 z7.2), (90, .bool true)]) hf (by rw [hb3])
          refine st tbOk 4 [13, 16, 18, 20, 94] (L' := [(13, .slice ao1 z4.1.length cp1), (16, .int .i64 z5.2), (18, .int .i64 z6.2), (20, .int .i64 z7.2), (94, .bool (z4.2 == 0))]) hf (by kernel_rfl) ?_
          clear hf; clear a; intro a hf
          rcases Bool.eq_false_or_eq_true (z4.2 == 0) with hb4 | hb4
          · replace hS := of_t hb4 hS
            replace hf := Fr.cast (L' := [(13, .slice ao1 z4.1.length cp1), (16, .int .i64 z5.2), (18, .int .i64 z6.2), (20, .int .i64 z7.2), (94, .bool true)]) hf (by rw [hb4])
            refine st tbOk 5 [16, 18, 20, 99] (L' := [(16, .int .i64 z5.2), (18, .int .i64 z6.2), (20, .int .i64 z7.2), (99, .bool (((z4.1.length : Nat) : Int) == 0))]) hf (by kernel_rfl) ?_
            clear hf; clear a; intro a hf
            rcases Bool.eq_false_or_eq_true (((z4.1.length : Nat) : Int) == 0) with hb5 | hb5
            · replace hS := of_t hb5 hS
              replace hf := Fr.cast (L' := [(16, .int .i64 z5.2), (18, .int .i64 z6.2), (20, .int .i64 z7.2), (99, .bool true)]) hf (by rw [hb5])
              refine st tbOk 4 [18, 20, 103] (L' := [(18, .int .i64 z6.2), (20, .int .i64 z7.2), (103, .bool (z5.2 == 10))]) hf (by kernel_rfl) ?_
              clear hf; clear a; intro a hf
              rcases Bool.eq_false_or_eq_true (z5.2 == 10) with hb6 | hb6
              · replace hS := of_t hb6 hS
                replace hf := Fr.cast (L' := [(18, .int .i64 z6.2), (20, .int .i64 z7.2), (103, .bool true)]) hf (by rw [hb6])
                refine st tbOk 4 [20, 107] (L' := [(20, .int .i64 z7.2), (107, .bool (z6.2 == 10))]) hf (by kernel_rfl) ?_
                clear hf; clear a; intro a hf
                rcases Bool.eq_false_or_eq_true (z6.2 == 10) with hb7 | hb7
                · replace hS := of_t hb7 hS
                  replace hf := Fr.cast (L' := [(20, .int .i64 z7.2), (107, .bool true)]) hf (by rw [hb7])
                  refine st tbOk 4 [4] (L' := [(4, .bool (z7.2 == 10))]) hf (by kernel_rfl) ?_
                  clear hf; clear a; intro a hf
                  refine wpList_nil ?_
                  exact hK1 (z7.2 == 10) _ _ ⟨hE, hf.keep (ks := [4]) (by kernel_rfl)⟩ hS
                · replace hS := of_f hb7 hS
                  replace hf := Fr.cast (L' := [(20, .int .i64 z7.2), (107, .bool false)]) hf (by rw [hb7])
                  refine st tbOk 4 [4] (L' := [(4, .bool false)]) hf (by kernel_rfl) ?_
                  clear hf; clear a; intro a hf
                  refine wpList_nil ?_
                  exact hK1 false _ _ ⟨hE, hf.keep (ks := [4]) (by kernel_rfl)⟩ hS
              · replace hS := of_f hb6 hS
                replace hf := Fr.cast (L' := [(18, .int .i64 z6.2), (20, .int .i64 z7.2), (103, .bool false)]) hf (by rw [hb6])
                refine st tbOk 8 [4] (L' := [(4, .bool false)]) hf (by kernel_rfl) ?_
                clear hf; clear a; intro a hf
                refine wpList_nil ?_
                exact hK1 false _ _ ⟨hE, hf.keep (ks := [4]) (by kernel_rfl)⟩ hS
            · replace hS := of_f hb5 hS
              replace hf := Fr.cast (L' := [(16, .int .i64 z5.2), (18, .int .i64 z6.2), (20, .int .i64 z7.2), (99, .bool false)]) hf (by rw [hb5])
              refine st tbOk 12 [4] (L' := [(4, .bool false)]) hf (by kernel_rfl) ?_
              clear hf; clear a; intro a hf
              refine wpList_nil ?_
              exact hK1 false _ _ ⟨hE, hf.keep (ks := [4]) (by kernel_rfl)⟩ hS
          · replace hS := of_f hb4 hS
            replace hf := Fr.cast (L' := [(13, .slice ao1 z4.1.length cp1), (16, .int .i64 z5.2), (18, .int .i64 z6.2), (20, .int .i64 z7.2), (94, .bool false)]) hf (by rw [hb4])
            refine st tbOk 17 [4] (L' := [(4, .bool false)]) hf (by kernel_rfl) ?_
            clear hf; clear a; intro a hf
            refine wpList_nil ?_
            exact hK1 false _ _ ⟨hE, hf.keep (ks := [4]) (by kernel_rfl)⟩ hS
        · replace hS := of_f hb3 hS
          replace hf := Fr.cast (L' := [(13, .slice ao1 z4.1.length cp1), (14, .int .i64 z4.2), (16, .int .i64 z5.2), (18, .int .i64 z6.2), (20, .int .i64 z7.2), (90, .bool false)]) hf (by rw [hb3])
          refine st tbOk 21 [4] (L' := [(4, .bool false)]) hf (by kernel_rfl) ?_
          clear hf; clear a; intro a hf
          refine wpList_nil ?_
          exact hK1 false _ _ ⟨hE, hf.keep (ks := [4]) (by kernel_rfl)⟩ hS
      · replace hS := of_f hb2 hS
        replace hf := Fr.cast (L' := [(12, .int .i64 z3.2), (13, .slice ao1 z4.1.length cp1), (14, .int .i64 z4.2), (16, .int .i64 z5.2), (18, .int .i64 z6.2), (20, .int .i64 z7.2), (86, .bool false)]) hf (by rw [hb2])
        refine st tbOk 25 [4] (L' := [(4, .bool false)]) hf (by kernel_rfl) ?_
        clear hf; clear a; intro a hf
        refine wpList_nil ?_
        exact hK1 false _ _ ⟨hE, hf.keep (ks := [4]) (by kernel_rfl)⟩ hS

end Dm
