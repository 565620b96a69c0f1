/-
  The walks: a call of each Go function gives what its shallow form gives, where that form gives something; printed by a program of this repo. No condition.
-/
import Derived.Test.YtmlghbdlhjinaaaWT
import Derived.Test.YtmlghbdlhjinaaaW0
namespace Dm
open Go Go.RowKit Go.Proofs

set_option maxHeartbeats 4000000 in
theorem octets_width_ok {w : World} {F : SH} {n : Int}  (hs : Sep w F (blks []) w F []) {r : Bool} (hS : octets_width n = some r) :
    Calls Try.prog 54 [.int .i64 n].toArray w (Gives (fun u w' => ∃ (F' : SH), u = .bool r ∧ Sep w F (blks []) w' F' [])) := by
  generalize (blks []) = R at hs ⊢
  unfold octets_width at hS
  refine fn_ok (vs := [.int .i64 n]) Try.func54 rfl 17 Try.ntmps54 (Nat.le_of_ble_eq_true rfl) ?_
  intro a hf
  replace hf := Fr.cast (L' := [(0, .int .i64 n)]) hf (by kernel_rfl)
  refine sq ?_
  refine reg ?_
  refine st tbOk 1 [0] (L' := [(0, .int .i64 n)]) hf (by kernel_rfl) ?_
  clear hf; clear a; intro a hf
  refine wpList_nil ?_
  refine sq ?_
  refine ctj (fun (s1 : Bool) (a : Act) (w' : World) => ∃ (F1 : SH), Sep w F R w' F1 [] ∧ Fr 17 [(2, .bool s1)] a) hS ?_ ?_
  · clear hS hf hs; clear a; intro s1 a w1 hM hS
    obtain ⟨F1, hs, hf⟩ := hM
    have hr := Option.some.inj hS; subst hr
    refine wp_ret ?_
    exact ret_ok hf (vs := [.bool s1]) (by kernel_rfl) ⟨_, rfl, hs.sel [] rfl rfl⟩
  · clear hS; intro KK1 k1 hK1 hS
    refine reg ?_
    refine st tbOk 3 [0, 5] (L' := [(0, .int .i64 n), (5, .bool (n == 1))]) hf (by kernel_rfl) ?_
    clear hf; clear a; intro a hf
    rcases Bool.eq_false_or_eq_true (n == 1) with hb1 | hb1
    · replace hS := of_t hb1 hS
      replace hf := Fr.cast (L' := [(0, .int .i64 n), (5, .bool true)]) hf (by rw [hb1])
      refine st tbOk 12 [2] (L' := [(2, .bool true)]) hf (by kernel_rfl) ?_
      clear hf; clear a; intro a hf
      refine wpList_nil ?_
      exact hK1 true _ _ ⟨_, hs.sel [] rfl rfl, hf.keep (ks := [2]) (by kernel_rfl)⟩ hS
    · replace hS := of_f hb1 hS
      replace hf := Fr.cast (L' := [(0, .int .i64 n), (5, .bool false)]) hf (by rw [hb1])
      refine st tbOk 4 [0, 9] (L' := [(0, .int .i64 n), (9, .bool (n == 2))]) hf (by kernel_rfl) ?_
      clear hf; clear a; intro a hf
      rcases Bool.eq_false_or_eq_true (n == 2) with hb2 | hb2
      · replace hS := of_t hb2 hS
        replace hf := Fr.cast (L' := [(0, .int .i64 n), (9, .bool true)]) hf (by rw [hb2])
        refine st tbOk 8 [2] (L' := [(2, .bool true)]) hf (by kernel_rfl) ?_
        clear hf; clear a; intro a hf
        refine wpList_nil ?_
        exact hK1 true _ _ ⟨_, hs.sel [] rfl rfl, hf.keep (ks := [2]) (by kernel_rfl)⟩ hS
      · replace hS := of_f hb2 hS
        replace hf := Fr.cast (L' := [(0, .int .i64 n), (9, .bool false)]) hf (by rw [hb2])
        refine st tbOk 4 [0, 13] (L' := [(0, .int .i64 n), (13, .bool (n == 4))]) hf (by kernel_rfl) ?_
        clear hf; clear a; intro a hf
        rcases Bool.eq_false_or_eq_true (n == 4) with hb3 | hb3
        · replace hS := of_t hb3 hS
          replace hf := Fr.cast (L' := [(0, .int .i64 n), (13, .bool true)]) hf (by rw [hb3])
          refine st tbOk 4 [2] (L' := [(2, .bool true)]) hf (by kernel_rfl) ?_
          clear hf; clear a; intro a hf
          refine wpList_nil ?_
          exact hK1 true _ _ ⟨_, hs.sel [] rfl rfl, hf.keep (ks := [2]) (by kernel_rfl)⟩ hS
        · replace hS := of_f hb3 hS
          replace hf := Fr.cast (L' := [(0, .int .i64 n), (13, .bool false)]) hf (by rw [hb3])
          refine st tbOk 4 [2] (L' := [(2, .bool (n == 8))]) hf (by kernel_rfl) ?_
          clear hf; clear a; intro a hf
          refine wpList_nil ?_
          exact hK1 (n == 8) _ _ ⟨_, hs.sel [] rfl rfl, hf.keep (ks := [2]) (by kernel_rfl)⟩ hS

set_option maxHeartbeats 4000000 in
theorem octets_has_ok {w : World} {F : SH} {p_many : Int} {p_at : Int} {size : Int}  (hs : Sep w F (blks []) w F []) {r : Bool} (hS : octets_has p_many p_at size = some r) :
    Calls Try.prog 55 [.int .i64 p_many, .int .u64 p_at, .int .u64 size].toArray w (Gives (fun u w' => ∃ (F' : SH), u = .bool r ∧ Sep w F (blks []) w' F' [])) := by
  generalize (blks []) = R at hs ⊢
  unfold octets_has at hS
  refine fn_ok (vs := [.int .i64 p_many, .int .u64 p_at, .int .u64 size]) Try.func55 rfl 20 Try.ntmps55 (Nat.le_of_ble_eq_true rfl) ?_
  intro a hf
  replace hf := Fr.cast (L' := [(0, .int .i64 p_many), (1, .int .u64 p_at), (2, .int .u64 size)]) hf (by kernel_rfl)
  refine sq ?_
  refine reg ?_
  refine st tbOk 1 [0, 1, 2] (L' := [(0, .int .i64 p_many), (1, .int .u64 p_at), (2, .int .u64 size)]) hf (by kernel_rfl) ?_
  clear hf; clear a; intro a hf
  refine wpList_nil ?_
  refine sq ?_
  refine reg ?_
  have hT := of_let hS; clear hS; obtain ⟨all_1, hl1, hS⟩ := hT
  refine st tbOk 3 [1, 2, 7] (L' := [(1, .int .u64 p_at), (2, .int .u64 size), (7, .int .u64 all_1)]) hf (by subst hl1; kernel_rfl) ?_
  clear hf; clear a; intro a hf
  refine wpList_nil ?_
  refine sq ?_
  refine ctj (fun (s1 : Bool) (a : Act) (w' : World) => ∃ (F1 : SH), Sep w F R w' F1 [] ∧ Fr 20 [(6, .bool s1)] a) hS ?_ ?_
  · clear hS hf hs; clear a; intro s1 a w1 hM hS
    obtain ⟨F1, hs, hf⟩ := hM
    have hr := Option.some.inj hS; subst hr
    refine wp_ret ?_
    exact ret_ok hf (vs := [.bool s1]) (by kernel_rfl) ⟨_, rfl, hs.sel [] rfl rfl⟩
  · clear hS; intro KK1 k1 hK1 hS
    refine reg ?_
    refine st tbOk 4 [1, 2, 7, 13] (L' := [(1, .int .u64 p_at), (2, .int .u64 size), (7, .int .u64 all_1), (13, .bool (decide (p_at ≤ all_1)))]) hf (by kernel_rfl) ?_
    clear hf; clear a; intro a hf
    rcases Bool.eq_false_or_eq_true (decide (p_at ≤ all_1)) with hb1 | hb1
    · replace hS := of_t hb1 hS
      replace hf := Fr.cast (L' := [(1, .int .u64 p_at), (2, .int .u64 size), (7, .int .u64 all_1), (13, .bool true)]) hf (by rw [hb1])
      refine st tbOk 7 [6] (L' := [(6, .bool (decide (size ≤ (IntKind.u64.wrap (all_1 - p_at)))))]) hf (by kernel_rfl) ?_
      clear hf; clear a; intro a hf
      refine wpList_nil ?_
      exact hK1 (decide (size ≤ (IntKind.u64.wrap (all_1 - p_at)))) _ _ ⟨_, hs.sel [] rfl rfl, hf.keep (ks := [6]) (by kernel_rfl)⟩ hS
    · replace hS := of_f hb1 hS
      replace hf := Fr.cast (L' := [(1, .int .u64 p_at), (2, .int .u64 size), (7, .int .u64 all_1), (13, .bool false)]) hf (by rw [hb1])
      refine st tbOk 7 [6] (L' := [(6, .bool false)]) hf (by kernel_rfl) ?_
      clear hf; clear a; intro a hf
      refine wpList_nil ?_
      exact hK1 false _ _ ⟨_, hs.sel [] rfl rfl, hf.keep (ks := [6]) (by kernel_rfl)⟩ hS

set_option maxHeartbeats 4000000 in
theorem octets_fits_ok {w : World} {F : SH} {b : List Int} {p_at : Int} {n : Int} {ao1 : Option Addr} {cp1 : Nat} (hs : Sep w F (blks [.ro (tI .u8) (.slice ao1 b.length cp1) b]) w F [.ro (tI .u8) (.slice ao1 b.length cp1) b]) {r : Int} (hS : octets_fits b p_at n = some r) :
    Calls Try.prog 50 [.slice ao1 b.length cp1, .int .u64 p_at, .int .i64 n].toArray w (Gives (fun u w' => ∃ (F' : SH), u = .int .i64 r ∧ Sep w F (blks [.ro (tI .u8) (.slice ao1 b.length cp1) b]) w' F' [])) := by
  generalize (blks [.ro (tI .u8) (.slice ao1 b.length cp1) b]) = R at hs ⊢
  unfold octets_fits at hS
  refine fn_ok (vs := [.slice ao1 b.length cp1, .int .u64 p_at, .int .i64 n]) Try.func50 rfl 19 Try.ntmps50 (Nat.le_of_ble_eq_true rfl) ?_
  intro a hf
  replace hf := Fr.cast (L' := [(0, .slice ao1 b.length cp1), (1, .int .u64 p_at), (2, .int .i64 n)]) hf (by kernel_rfl)
  refine sq ?_
  refine reg ?_
  refine st tbOk 1 [0, 1, 2] (L' := [(0, .slice ao1 b.length cp1), (1, .int .u64 p_at), (2, .int .i64 n)]) hf (by kernel_rfl) ?_
  clear hf; clear a; intro a hf
  refine wpList_nil ?_
  refine sq ?_
  refine blk ?_
  refine sq ?_
  refine reg ?_
  refine st tbOk 1 [0, 1, 2, 8] (L' := [(0, .slice ao1 b.length cp1), (1, .int .u64 p_at), (2, .int .i64 n), (8, .int .i64 n)]) hf (by kernel_rfl) ?_
  clear hf; clear a; intro a hf
  have hT := of_bd hS; clear hS; obtain ⟨z1, hz1, hS⟩ := hT
  refine clV ent54 (vs := [.int .i64 n]) (caps := []) hf (by kernel_rfl) (by kernel_rfl) (by kernel_rfl) (by kernel_rfl) (octets_width_ok (n := n) (hs.enter [] rfl rfl) hz1) ?_
  clear hf; clear a; intro v w1 a hT hf; obtain ⟨F1, rfl, hr⟩ := hT
  replace hs : Sep w F R w1 F1 [.ro (tI .u8) (.slice ao1 b.length cp1) b] := hs.back [] [0] rfl rfl rfl rfl hr
  clear hr
  replace hf := Fr.keep (ks := [0, 1, 2, 9]) (L' := [(0, .slice ao1 b.length cp1), (1, .int .u64 p_at), (2, .int .i64 n), (9, .bool z1)]) hf (by kernel_rfl)
  refine st tbOk 2 [0, 1, 2, 7] (L' := [(0, .slice ao1 b.length cp1), (1, .int .u64 p_at), (2, .int .i64 n), (7, .bool (!z1))]) hf (by kernel_rfl) ?_
  clear hf; clear a; intro a hf
  refine wpList_nil ?_
  refine cnd (b := !z1) hf (by kernel_rfl) (fun hb1 => ?_) (fun hb1 => ?_)
  · replace hS := of_t hb1 hS
    refine sq ?_
    refine reg ?_
    refine st tbOk 1 [6] (L' := [(6, .int .i64 1)]) hf (by kernel_rfl) ?_
    clear hf; clear a; intro a hf
    refine wpList_nil ?_
    have hr := Option.some.inj hS; subst hr
    refine wp_ret ?_
    exact ret_ok hf (vs := [.int .i64 1]) (by kernel_rfl) ⟨_, rfl, hs.sel [] rfl rfl⟩
  · replace hS := of_f hb1 hS
    refine sq ?_
    refine reg ?_
    refine st tbOk 5 [13, 14, 16] (L' := [(13, .int .i64 ((b.length : Nat) : Int)), (14, .int .u64 p_at), (16, .int .u64 (IntKind.u64.wrap n))]) hf (by kernel_rfl) ?_
    clear hf; clear a; intro a hf
    have hT := of_bd hS; clear hS; obtain ⟨z2, hz2, hS⟩ := hT
    refine clV ent55 (vs := [.int .i64 ((b.length : Nat) : Int), .int .u64 p_at, .int .u64 (IntKind.u64.wrap n)]) (caps := []) hf (by kernel_rfl) (by kernel_rfl) (by kernel_rfl) (by kernel_rfl) (octets_has_ok (p_many := ((b.length : Nat) : Int)) (p_at := p_at) (size := IntKind.u64.wrap n) (hs.enter [] rfl rfl) hz2) ?_
    clear hf; clear a; intro v w2 a hT hf; obtain ⟨F2, rfl, hr⟩ := hT
    replace hs : Sep w F R w2 F2 [.ro (tI .u8) (.slice ao1 b.length cp1) b] := hs.back [] [0] rfl rfl rfl rfl hr
    clear hr
    replace hs : Sep w F R w2 F2 [] := hs.sel [] rfl rfl
    replace hf := Fr.keep (ks := [17]) (L' := [(17, .bool z2)]) hf (by kernel_rfl)
    refine st tbOk 2 [11] (L' := [(11, .bool (!z2))]) hf (by kernel_rfl) ?_
    clear hf; clear a; intro a hf
    refine wpList_nil ?_
    refine cnd (b := !z2) hf (by kernel_rfl) (fun hb2 => ?_) (fun hb2 => ?_)
    · replace hS := of_t hb2 hS
      refine sq ?_
      refine reg ?_
      refine st tbOk 1 [6] (L' := [(6, .int .i64 10)]) hf (by kernel_rfl) ?_
      clear hf; clear a; intro a hf
      refine wpList_nil ?_
      have hr := Option.some.inj hS; subst hr
      refine wp_ret ?_
      exact ret_ok hf (vs := [.int .i64 10]) (by kernel_rfl) ⟨_, rfl, hs.sel [] rfl rfl⟩
    · replace hS := of_f hb2 hS
      refine wp_skip ?_
      refine sq ?_
      refine reg ?_
      refine st tbOk 1 [6] (L' := [(6, .int .i64 0)]) hf (by kernel_rfl) ?_
      clear hf; clear a; intro a hf
      refine wpList_nil ?_
      have hr := Option.some.inj hS; subst hr
      refine wp_ret ?_
      exact ret_ok hf (vs := [.int .i64 0]) (by kernel_rfl) ⟨_, rfl, hs.sel [] rfl rfl⟩

theorem slices_Clone_byte_byte_ok {w : World} {F : SH} {s : List Int} {ao : Option Addr} {cp : Nat} (hs : Sep w F (blks [.ro (tI .u8) (.slice ao s.length cp) s]) w F [.ro (tI .u8) (.slice ao s.length cp) s]) {r : List Int} (hS : slices_Clone_byte_byte s = some r) :
    Calls Try.prog 39 [.slice ao s.length cp].toArray w (Gives (fun u w' => ∃ (ao1 : Option Addr) (cp1 : Nat) (F' : SH), u = .slice ao1 r.length cp1 ∧ Sep w F (blks [.ro (tI .u8) (.slice ao s.length cp) s]) w' F' [.row 5 (tI .u8) (.slice ao1 r.length cp1) r])) := by
  generalize blks [.ro (tI .u8) (.slice ao s.length cp) s] = R at hs ⊢
  unfold slices_Clone_byte_byte at hS
  obtain ⟨hc1, hS⟩ := of_gd hS
  have hr := Option.some.inj hS; subst hr
  refine fn_ok (vs := [.slice ao s.length cp]) Try.func39 rfl 8 Try.ntmps39 (Nat.le_of_ble_eq_true rfl) ?_
  intro a hf
  replace hf := Fr.cast (L' := [(0, .slice ao s.length cp)]) hf (by kernel_rfl)
  refine sq ?_
  refine reg ?_
  refine st tbOk 1 [0] (L' := [(0, .slice ao s.length cp)]) hf (by kernel_rfl) ?_
  clear hf; clear a; intro a hf
  refine wpList_nil ?_
  refine sq ?_
  refine sq ?_
  refine reg ?_
  refine st tbOk 1 [0, 3] (L' := [(0, .slice ao s.length cp), (3, .slice ao s.length cp)]) hf (by kernel_rfl) ?_
  clear hf; clear a; intro a hf
  refine eqnil tbOk u22 (ao := ao) (n := s.length) (c := cp) hf (by kernel_rfl) (by kernel_rfl) (by kernel_rfl) ?_
  clear hf; clear a; intro a hf
  refine wpList_nil ?_
  refine cnd (b := ao.isNone) hf (by kernel_rfl) (fun hb => ?_) (fun hb => ?_)
  · have hao : ao = none := by simpa using hb
    subst hao
    have hnil := (hs.ro 0 rfl).none_nil (Nat.le_of_ble_eq_true rfl)
    subst hnil
    refine sq ?_
    refine reg ?_
    refine st tbOk 1 [2] (L' := [(2, .slice none 0 0)]) hf (by kernel_rfl) ?_
    clear hf; clear a; intro a hf
    refine wpList_nil ?_
    refine wp_ret ?_
    replace hs := hs.addNil 5 (tI .u8)
    exact ret_ok hf (vs := [.slice none 0 0]) (by kernel_rfl) ⟨none, 0, _, rfl, hs.sel [0] rfl rfl⟩
  · refine wp_skip ?_
    refine sq ?_
    refine reg ?_
    refine bsR tbOk u22 i5 rfl (t := (tI .u8)) (vs := []) (cells := #[]) ([] : List Int) hs.le hf (by kernel_rfl) (by kernel_rfl) (by kernel_rfl) rfl (by kernel_rfl) rfl rfl ?_
    clear hf; clear a; intro w1 a ho hx hf
    replace hs := hs.newRow ho hx
    clear ho hx
    refine st tbOk 1 [5, 6] (L' := [(5, .slice (some ⟨w.heap.size, 0, none⟩) ([] : List Int).length ([] : List Int).length), (6, .slice ao s.length cp)]) hf (by kernel_rfl) ?_
    clear hf; clear a; intro a hf
    refine apR tbOk u22 i5 rfl rfl rfl rfl hs.le (hs.own 0 rfl) (hs.raR 1 rfl) (by simpa using hc1) hf (by kernel_rfl) (by kernel_rfl) (by kernel_rfl) (by kernel_rfl) ?_
    clear hf; clear a; intro ao2 cp2 w2 a ho hg hl hf
    replace hs := hs.updRow 0 rfl ho hg hl
    clear ho hg hl
    refine st tbOk 1 [2] (L' := [(2, .slice ao2 s.length cp2)]) hf (by kernel_rfl) ?_
    clear hf; clear a; intro a hf
    refine wpList_nil ?_
    refine wp_ret ?_
    exact ret_ok hf (vs := [.slice ao2 s.length cp2]) (by kernel_rfl) ⟨ao2, cp2, _, rfl, hs.sel [0] rfl rfl⟩

set_option maxHeartbeats 4000000 in
theorem octets_Set_ok {w : World} {F : SH} {b : List Int} {p_at : Int} {n : Int} {p_x : Int} {ao1 : Option Addr} {cp1 : Nat} (hs : Sep w F (blks [.ro (tI .u8) (.slice ao1 b.length cp1) b]) w F [.ro (tI .u8) (.slice ao1 b.length cp1) b]) {r : (List Int) × Int} (hS : octets_Set b p_at n p_x = some r) :
    Calls Try.prog 47 [.slice ao1 b.length cp1, .int .u64 p_at, .int .i64 n, .int .u64 p_x].toArray w (Gives (fun u w' => ∃ (ao5 : Option Addr) (cp5 : Nat) (F' : SH), u = .tuple #[.slice ao5 r.1.length cp5, .int .i64 r.2] ∧ Sep w F (blks [.ro (tI .u8) (.slice ao1 b.length cp1) b]) w' F' [.row 5 (tI .u8) (.slice ao5 r.1.length cp5) r.1])) := by
  generalize (blks [.ro (tI .u8) (.slice ao1 b.length cp1) b]) = R at hs ⊢
  unfold octets_Set at hS
  refine fn_ok (vs := [.slice ao1 b.length cp1, .int .u64 p_at, .int .i64 n, .int .u64 p_x]) Try.func47 rfl 40 Try.ntmps47 (Nat.le_of_ble_eq_true rfl) ?_
  intro a hf
  replace hf := Fr.cast (L' := [(0, .slice ao1 b.length cp1), (1, .int .u64 p_at), (2, .int .i64 n), (3, .int .u64 p_x)]) hf (by kernel_rfl)
  refine sq ?_
  refine reg ?_
  refine st tbOk 2 [0, 1, 2, 3] (L' := [(0, .slice ao1 b.length cp1), (1, .int .u64 p_at), (2, .int .i64 n), (3, .int .u64 p_x)]) hf (by kernel_rfl) ?_
  clear hf; clear a; intro a hf
  refine wpList_nil ?_
  refine sq ?_
  refine sq ?_
  refine reg ?_
  refine st tbOk 3 [0, 1, 2, 3, 13, 14, 15] (L' := [(0, .slice ao1 b.length cp1), (1, .int .u64 p_at), (2, .int .i64 n), (3, .int .u64 p_x), (13, .slice ao1 b.length cp1), (14, .int .u64 p_at), (15, .int .i64 n)]) hf (by kernel_rfl) ?_
  clear hf; clear a; intro a hf
  have hT := of_bd hS; clear hS; obtain ⟨z1, hz1, hS⟩ := hT
  refine clV ent50 (vs := [.slice ao1 b.length cp1, .int .u64 p_at, .int .i64 n]) (caps := []) hf (by kernel_rfl) (by kernel_rfl) (by kernel_rfl) (by kernel_rfl) (octets_fits_ok (b := b) (p_at := p_at) (n := n) (hs.enter [0] rfl rfl) hz1) ?_
  clear hf; clear a; intro v w1 a hT hf; obtain ⟨F1, rfl, hr⟩ := hT
  replace hs : Sep w F R w1 F1 [.ro (tI .u8) (.slice ao1 b.length cp1) b] := hs.back [0] [0] rfl rfl rfl rfl hr
  clear hr
  replace hf := Fr.keep (ks := [0, 1, 2, 3, 16]) (L' := [(0, .slice ao1 b.length cp1), (1, .int .u64 p_at), (2, .int .i64 n), (3, .int .u64 p_x), (16, .int .i64 z1)]) hf (by kernel_rfl)
  refine st tbOk 1 [0, 1, 2, 3, 10] (L' := [(0, .slice ao1 b.length cp1), (1, .int .u64 p_at), (2, .int .i64 n), (3, .int .u64 p_x), (10, .int .i64 z1)]) hf (by kernel_rfl) ?_
  clear hf; clear a; intro a hf
  refine wpList_nil ?_
  refine sq ?_
  refine reg ?_
  refine st tbOk 2 [0, 1, 2, 3, 10, 18] (L' := [(0, .slice ao1 b.length cp1), (1, .int .u64 p_at), (2, .int .i64 n), (3, .int .u64 p_x), (10, .int .i64 z1), (18, .bool (z1 != 0))]) hf (by kernel_rfl) ?_
  clear hf; clear a; intro a hf
  refine wpList_nil ?_
  refine cnd (b := z1 != 0) hf (by kernel_rfl) (fun hb1 => ?_) (fun hb1 => ?_)
  · replace hS := of_t hb1 hS
    refine sq ?_
    refine reg ?_
    refine st tbOk 3 [8, 9] (L' := [(8, .slice none 0 0), (9, .int .i64 z1)]) hf (by kernel_rfl) ?_
    clear hf; clear a; intro a hf
    refine wpList_nil ?_
    have hr := Option.some.inj hS; subst hr
    refine wp_ret ?_
    replace hs : Sep w F R w1 F1 [.row 5 (tI .u8) (.slice none 0 0) ([] : List Int), .ro (tI .u8) (.slice ao1 b.length cp1) b] := hs.addNil 5 (tI .u8)
    exact ret_ok hf (vs := [.slice none 0 0, .int .i64 z1]) (by kernel_rfl) ⟨none, 0, _, rfl, hs.sel [0] rfl rfl⟩
  · replace hS := of_f hb1 hS
    refine wp_skip ?_
    refine sq ?_
    refine reg ?_
    refine st tbOk 1 [1, 2, 3, 20] (L' := [(1, .int .u64 p_at), (2, .int .i64 n), (3, .int .u64 p_x), (20, .slice ao1 b.length cp1)]) hf (by kernel_rfl) ?_
    clear hf; clear a; intro a hf
    have hT := of_bd hS; clear hS; obtain ⟨z2, hz2, hS⟩ := hT
    refine clV ent39 (vs := [.slice ao1 b.length cp1]) (caps := []) hf (by kernel_rfl) (by kernel_rfl) (by kernel_rfl) (by kernel_rfl) (slices_Clone_byte_byte_ok (s := b) (hs.enter [0] rfl rfl) hz2) ?_
    clear hf; clear a; intro v w2 a hT hf; obtain ⟨ao2, cp2, F2, rfl, hr⟩ := hT
    replace hs : Sep w F R w2 F2 [.row 5 (tI .u8) (.slice ao2 z2.length cp2) z2, .ro (tI .u8) (.slice ao1 b.length cp1) b] := hs.back [0] [0] rfl rfl rfl rfl hr
    clear hr
    replace hs : Sep w F R w2 F2 [.row 5 (tI .u8) (.slice ao2 z2.length cp2) z2] := hs.sel [0] rfl rfl
    replace hf := Fr.keep (ks := [1, 2, 3, 21]) (L' := [(1, .int .u64 p_at), (2, .int .i64 n), (3, .int .u64 p_x), (21, .slice ao2 z2.length cp2)]) hf (by kernel_rfl)
    refine st tbOk 1 [1, 2, 3, 11] (L' := [(1, .int .u64 p_at), (2, .int .i64 n), (3, .int .u64 p_x), (11, .slice ao2 z2.length cp2)]) hf (by kernel_rfl) ?_
    clear hf; clear a; intro a hf
    refine wpList_nil ?_
    refine sq ?_
    refine sq ?_
    refine reg ?_
    refine st tbOk 2 [1, 3, 11, 22, 23] (L' := [(1, .int .u64 p_at), (3, .int .u64 p_x), (11, .slice ao2 z2.length cp2), (22, .int .i64 n), (23, .int .i64 0)]) hf (by kernel_rfl) ?_
    clear hf; clear a; intro a hf
    refine wpList_nil ?_
    refine ctj (fun (s1 : List Int) (a : Act) (w' : World) => ∃ (ao3 : Option Addr) (cp3 : Nat) (F3 : SH), Sep w F R w' F3 [.row 5 (tI .u8) (.slice ao3 s1.length cp3) s1] ∧ Fr 40 [(11, .slice ao3 s1.length cp3)] a) hS ?_ ?_
    · clear hS hf hs; clear a; intro s1 a w5 hM hS
      obtain ⟨ao3, cp3, F3, hs, hf⟩ := hM
      refine sq ?_
      refine reg ?_
      refine st tbOk 3 [8, 9] (L' := [(8, .slice ao3 s1.length cp3), (9, .int .i64 0)]) hf (by kernel_rfl) ?_
      clear hf; clear a; intro a hf
      refine wpList_nil ?_
      have hr := Option.some.inj hS; subst hr
      refine wp_ret ?_
      exact ret_ok hf (vs := [.slice ao3 s1.length cp3, .int .i64 0]) (by kernel_rfl) ⟨ao3, cp3, _, rfl, hs.sel [0] rfl rfl⟩
    · clear hS; intro KK1 k1 hK1 hS
      refine blk ?_
      refine lp (st := (0, z2)) (fun (s2 : Int × (List Int)) (a : Act) (w' : World) => ∃ (ao4 : Option Addr) (cp4 : Nat) (F4 : SH), Sep w F R w' F4 [.row 5 (tI .u8) (.slice ao4 s2.2.length cp4) s2.2] ∧ Fr 40 [(1, .int .u64 p_at), (3, .int .u64 p_x), (11, .slice ao4 s2.2.length cp4), (22, .int .i64 n), (23, .int .i64 s2.1)] a) ?_ ⟨ao2, cp2, _, hs.sel [0] rfl rfl, hf.keep (ks := [1, 3, 11, 22, 23]) (by kernel_rfl)⟩ hS
      clear hS hf hs; clear a
      intro rec1 KK2 hK2 s2 a w3 hM hS
      obtain ⟨ao4, cp4, F4, hs, hf⟩ := hM
      refine sq ?_
      refine reg ?_
      refine st tbOk 1 [1, 3, 11, 22, 23, 24] (L' := [(1, .int .u64 p_at), (3, .int .u64 p_x), (11, .slice ao4 s2.2.length cp4), (22, .int .i64 n), (23, .int .i64 s2.1), (24, .bool (decide (s2.1 < n)))]) hf (by kernel_rfl) ?_
      clear hf; clear a; intro a hf
      refine wpList_nil ?_
      refine sq ?_
      refine cnd (b := decide (s2.1 < n)) hf (by kernel_rfl) (fun hb2 => ?_) (fun hb2 => ?_)
      · replace hS := of_t hb2 hS
        refine wp_skip ?_
        refine sq ?_
        refine blk ?_
        refine sq ?_
        refine reg ?_
        refine st tbOk 2 [1, 3, 11, 12, 22, 23] (L' := [(1, .int .u64 p_at), (3, .int .u64 p_x), (11, .slice ao4 s2.2.length cp4), (12, .int .i64 s2.1), (22, .int .i64 n), (23, .int .i64 s2.1)]) hf (by kernel_rfl) ?_
        clear hf; clear a; intro a hf
        refine wpList_nil ?_
        refine reg ?_
        refine st tbOk 9 [1, 3, 11, 22, 23, 26, 30, 31, 34] (L' := [(1, .int .u64 p_at), (3, .int .u64 p_x), (11, .slice ao4 s2.2.length cp4), (22, .int .i64 n), (23, .int .i64 s2.1), (26, .slice ao4 s2.2.length cp4), (30, .int .i64 (IntKind.i64.wrap ((IntKind.i64.wrap p_at) + s2.1))), (31, .int .u64 p_x), (34, .int .u64 (IntKind.u64.wrap (IntKind.i64.wrap (8 * s2.1))))]) hf (by kernel_rfl) ?_
        clear hf; clear a; intro a hf
        have hT := of_gd hS; clear hS; obtain ⟨hc1, hS⟩ := hT
        refine bin (run_shr (k := .u64) (k' := .u64) (x := p_x) hc1 _) hf (by kernel_rfl) (by kernel_rfl) (by kernel_rfl) (by kernel_rfl) ?_
        clear hf; clear a; intro a hf
        replace hf := Fr.keep (ks := [1, 3, 11, 22, 23, 26, 30, 35]) (L' := [(1, .int .u64 p_at), (3, .int .u64 p_x), (11, .slice ao4 s2.2.length cp4), (22, .int .i64 n), (23, .int .i64 s2.1), (26, .slice ao4 s2.2.length cp4), (30, .int .i64 (IntKind.i64.wrap ((IntKind.i64.wrap p_at) + s2.1))), (35, .int .u64 (shr .u64 p_x (IntKind.u64.wrap (IntKind.i64.wrap (8 * s2.1)))))]) hf (by kernel_rfl)
        refine st tbOk 1 [1, 3, 11, 22, 23, 26, 30, 36] (L' := [(1, .int .u64 p_at), (3, .int .u64 p_x), (11, .slice ao4 s2.2.length cp4), (22, .int .i64 n), (23, .int .i64 s2.1), (26, .slice ao4 s2.2.length cp4), (30, .int .i64 (IntKind.i64.wrap ((IntKind.i64.wrap p_at) + s2.1))), (36, .int .u8 (IntKind.u8.wrap (shr .u64 p_x (IntKind.u64.wrap (IntKind.i64.wrap (8 * s2.1))))))]) hf (by kernel_rfl) ?_
        clear hf; clear a; intro a hf
        have hT := of_gd hS; clear hS; obtain ⟨hc2, hS⟩ := hT
        refine ixW tbOk u22 i5 (hs.own 0 rfl) (k := .i64) (n := IntKind.i64.wrap ((IntKind.i64.wrap p_at) + s2.1)) hc2 hf (by kernel_rfl) (by kernel_rfl) (by kernel_rfl) (by kernel_rfl) ?_
        clear hf; clear a; intro pb1 po1 a hq1 hf
        replace hf := Fr.keep (ks := [1, 3, 11, 22, 23, 36, 37]) (L' := [(1, .int .u64 p_at), (3, .int .u64 p_x), (11, .slice ao4 s2.2.length cp4), (22, .int .i64 n), (23, .int .i64 s2.1), (36, .int .u8 (IntKind.u8.wrap (shr .u64 p_x (IntKind.u64.wrap (IntKind.i64.wrap (8 * s2.1)))))), (37, .pointer (some ⟨pb1, po1, none⟩))]) hf (by kernel_rfl)
        refine stW tbOk i5 rfl (hs.own 0 rfl) hc2 0 hq1 [.int .u8 (IntKind.u8.wrap (shr .u64 p_x (IntKind.u64.wrap (IntKind.i64.wrap (8 * s2.1)))))] (z := IntKind.u8.wrap (shr .u64 p_x (IntKind.u64.wrap (IntKind.i64.wrap (8 * s2.1))))) (fun _ e => (congrArg (fun c => spl c 0 [.int .u8 (IntKind.u8.wrap (shr .u64 p_x (IntKind.u64.wrap (IntKind.i64.wrap (8 * s2.1)))))]) e).trans rfl) (u := .int .u8 (IntKind.u8.wrap (shr .u64 p_x (IntKind.u64.wrap (IntKind.i64.wrap (8 * s2.1)))))) rfl rfl (by kernel_rfl) (by kernel_rfl) hf (by kernel_rfl) (by kernel_rfl) (by kernel_rfl) ?_
        clear hf; clear a; intro w4 a ho hg hf
        replace hs := hs.updRow 0 rfl ho hg (fun _ h => .inl h)
        clear ho hg
        replace hs : Sep w F R w4 F4 [.row 5 (tI .u8) (.slice ao4 (s2.2.set (Int.toNat (IntKind.i64.wrap ((IntKind.i64.wrap p_at) + s2.1))) (IntKind.u8.wrap (shr .u64 p_x (IntKind.u64.wrap (IntKind.i64.wrap (8 * s2.1)))))).length cp4) (s2.2.set (Int.toNat (IntKind.i64.wrap ((IntKind.i64.wrap p_at) + s2.1))) (IntKind.u8.wrap (shr .u64 p_x (IntKind.u64.wrap (IntKind.i64.wrap (8 * s2.1))))))] := Sep.cast hs (by simp only [List.length_set]; rfl)
        replace hf := Fr.cast (L' := [(1, .int .u64 p_at), (3, .int .u64 p_x), (11, .slice ao4 (s2.2.set (Int.toNat (IntKind.i64.wrap ((IntKind.i64.wrap p_at) + s2.1))) (IntKind.u8.wrap (shr .u64 p_x (IntKind.u64.wrap (IntKind.i64.wrap (8 * s2.1)))))).length cp4), (22, .int .i64 n), (23, .int .i64 s2.1), (36, .int .u8 (IntKind.u8.wrap (shr .u64 p_x (IntKind.u64.wrap (IntKind.i64.wrap (8 * s2.1)))))), (37, .pointer (some ⟨pb1, po1, none⟩))]) hf (by simp only [List.length_set])
        replace hf := Fr.keep (ks := [1, 3, 11, 22, 23]) (L' := [(1, .int .u64 p_at), (3, .int .u64 p_x), (11, .slice ao4 (s2.2.set (Int.toNat (IntKind.i64.wrap ((IntKind.i64.wrap p_at) + s2.1))) (IntKind.u8.wrap (shr .u64 p_x (IntKind.u64.wrap (IntKind.i64.wrap (8 * s2.1)))))).length cp4), (22, .int .i64 n), (23, .int .i64 s2.1)]) hf (by kernel_rfl)
        refine wpList_nil ?_
        refine reg ?_
        refine st tbOk 2 [1, 3, 11, 22, 23] (L' := [(1, .int .u64 p_at), (3, .int .u64 p_x), (11, .slice ao4 (s2.2.set (Int.toNat (IntKind.i64.wrap ((IntKind.i64.wrap p_at) + s2.1))) (IntKind.u8.wrap (shr .u64 p_x (IntKind.u64.wrap (IntKind.i64.wrap (8 * s2.1)))))).length cp4), (22, .int .i64 n), (23, .int .i64 (IntKind.i64.wrap (s2.1 + 1)))]) hf (by kernel_rfl) ?_
        clear hf; clear a; intro a hf
        refine wpList_nil ?_
        exact hK2 (IntKind.i64.wrap (s2.1 + 1), (s2.2.set (Int.toNat (IntKind.i64.wrap ((IntKind.i64.wrap p_at) + s2.1))) (IntKind.u8.wrap (shr .u64 p_x (IntKind.u64.wrap (IntKind.i64.wrap (8 * s2.1))))))) _ _ ⟨ao4, cp4, _, hs.sel [0] rfl rfl, hf.keep (ks := [1, 3, 11, 22, 23]) (by kernel_rfl)⟩ hS
      · replace hS := of_f hb2 hS
        refine wp_exit ?_
        exact hK1 s2.2 _ _ ⟨ao4, cp4, _, hs.sel [0] rfl rfl, hf.keep (ks := [11]) (by kernel_rfl)⟩ hS

set_option maxHeartbeats 4000000 in
theorem notes_four_ok {w : World} {F : SH} {p_x : Int}  (hs : Sep w F (blks []) w F []) {r : List Int} (hS : notes_four p_x = some r) :
    Calls Try.prog 34 [.int .i64 p_x].toArray w (Gives (fun u w' => ∃ (ao2 : Option Addr) (cp2 : Nat) (F' : SH), u = .slice ao2 r.length cp2 ∧ Sep w F (blks []) w' F' [.row 5 (tI .u8) (.slice ao2 r.length cp2) r])) := by
  generalize (blks []) = R at hs ⊢
  unfold notes_four at hS
  refine fn_ok (vs := [.int .i64 p_x]) Try.func34 rfl 13 Try.ntmps34 (Nat.le_of_ble_eq_true rfl) ?_
  intro a hf
  replace hf := Fr.cast (L' := [(0, .int .i64 p_x)]) hf (by kernel_rfl)
  refine sq ?_
  refine reg ?_
  refine st tbOk 1 [0] (L' := [(0, .int .i64 p_x)]) hf (by kernel_rfl) ?_
  clear hf; clear a; intro a hf
  refine wpList_nil ?_
  refine sq ?_
  refine reg ?_
  have hT := of_gd hS; clear hS; obtain ⟨hc1, hS⟩ := hT
  refine mkR tbOk u22 i5 rfl rfl (t := (tI .u8)) rfl rfl (0 : Int) hs.le rfl (k := .i64) (k' := .i64) (n := 4) hc1 hf (by kernel_rfl) (by kernel_rfl) (by kernel_rfl) (by kernel_rfl) ?_
  clear hf; clear a; intro w1 a ho hx hf
  replace hs : Sep w F R w1 F [.row 5 (tI .u8) (.slice (some ⟨w.heap.size, 0, none⟩) (List.replicate (Int.toNat 4) (0 : Int)).length (Int.toNat 4)) (List.replicate (Int.toNat 4) (0 : Int))] := hs.newRow ho hx
  clear ho hx
  replace hf := Fr.keep (ks := [0, 6]) (L' := [(0, .int .i64 p_x), (6, .slice (some ⟨w.heap.size, 0, none⟩) (List.replicate (Int.toNat 4) (0 : Int)).length (Int.toNat 4))]) hf (by kernel_rfl)
  refine st tbOk 2 [6, 8] (L' := [(6, .slice (some ⟨w.heap.size, 0, none⟩) (List.replicate (Int.toNat 4) (0 : Int)).length (Int.toNat 4)), (8, .int .u64 (IntKind.u64.wrap p_x))]) hf (by kernel_rfl) ?_
  clear hf; clear a; intro a hf
  have hT := of_bd hS; clear hS; obtain ⟨z1, hz1, hS⟩ := hT
  refine clV ent47 (vs := [.slice (some ⟨w.heap.size, 0, none⟩) (List.replicate (Int.toNat 4) (0 : Int)).length (Int.toNat 4), .int .u64 0, .int .i64 4, .int .u64 (IntKind.u64.wrap p_x)]) (caps := []) hf (by kernel_rfl) (by kernel_rfl) (by kernel_rfl) (by kernel_rfl) (octets_Set_ok (b := (List.replicate (Int.toNat 4) (0 : Int))) (p_at := 0) (n := 4) (p_x := IntKind.u64.wrap p_x) (hs.lend [0] [] rfl rfl rfl rfl rfl) hz1) ?_
  clear hf; clear a; intro v w2 a hT hf; obtain ⟨ao1, cp1, F1, rfl, hr⟩ := hT
  replace hs : Sep w F R w2 F [.row 5 (tI .u8) (.slice ao1 z1.1.length cp1) z1.1, .row 5 (tI .u8) (.slice (some ⟨w.heap.size, 0, none⟩) (List.replicate (Int.toNat 4) (0 : Int)).length (Int.toNat 4)) (List.replicate (Int.toNat 4) (0 : Int))] := hs.backL [0] [] [0] rfl rfl rfl rfl rfl rfl hr ⟨(flat_I .u8), trivial⟩
  clear hr
  replace hs : Sep w F R w2 F [.row 5 (tI .u8) (.slice ao1 z1.1.length cp1) z1.1] := hs.sel [0] rfl rfl
  replace hf := Fr.keep (ks := [9]) (L' := [(9, .tuple #[.slice ao1 z1.1.length cp1, .int .i64 z1.2])]) hf (by kernel_rfl)
  refine st tbOk 5 [3] (L' := [(3, .slice ao1 z1.1.length cp1)]) hf (by kernel_rfl) ?_
  clear hf; clear a; intro a hf
  refine wpList_nil ?_
  refine sq ?_
  refine reg ?_
  refine st tbOk 2 [2] (L' := [(2, .slice ao1 z1.1.length cp1)]) hf (by kernel_rfl) ?_
  clear hf; clear a; intro a hf
  refine wpList_nil ?_
  have hr := Option.some.inj hS; subst hr
  refine wp_ret ?_
  exact ret_ok hf (vs := [.slice ao1 z1.1.length cp1]) (by kernel_rfl) ⟨ao1, cp1, _, rfl, hs.sel [0] rfl rfl⟩

set_option maxHeartbeats 4000000 in
theorem notes_fill_ok {w : World} {F : SH} {n : Int}  (hs : Sep w F (blks []) w F []) {r : List Int} (hS : notes_fill n = some r) :
    Calls Try.prog 35 [.int .i64 n].toArray w (Gives (fun u w' => ∃ (ao1 : Option Addr) (cp1 : Nat) (F' : SH), u = .slice ao1 r.length cp1 ∧ Sep w F (blks []) w' F' [.row 5 (tI .u8) (.slice ao1 r.length cp1) r])) := by
  generalize (blks []) = R at hs ⊢
  unfold notes_fill at hS
  refine fn_ok (vs := [.int .i64 n]) Try.func35 rfl 7 Try.ntmps35 (Nat.le_of_ble_eq_true rfl) ?_
  intro a hf
  replace hf := Fr.cast (L' := [(0, .int .i64 n)]) hf (by kernel_rfl)
  refine sq ?_
  refine reg ?_
  refine st tbOk 1 [0] (L' := [(0, .int .i64 n)]) hf (by kernel_rfl) ?_
  clear hf; clear a; intro a hf
  refine wpList_nil ?_
  refine sq ?_
  refine reg ?_
  refine st tbOk 3 [5] (L' := [(5, .int .i64 (band .i64 (IntKind.i64.wrap (0 - n)) 3))]) hf (by kernel_rfl) ?_
  clear hf; clear a; intro a hf
  have hT := of_gd hS; clear hS; obtain ⟨hc1, hS⟩ := hT
  refine mkR tbOk u22 i5 rfl rfl (t := (tI .u8)) rfl rfl (0 : Int) hs.le rfl (k := .i64) (k' := .i64) (n := band .i64 (IntKind.i64.wrap (0 - n)) 3) hc1 hf (by kernel_rfl) (by kernel_rfl) (by kernel_rfl) (by kernel_rfl) ?_
  clear hf; clear a; intro w1 a ho hx hf
  replace hs : Sep w F R w1 F [.row 5 (tI .u8) (.slice (some ⟨w.heap.size, 0, none⟩) (List.replicate (Int.toNat (band .i64 (IntKind.i64.wrap (0 - n)) 3)) (0 : Int)).length (Int.toNat (band .i64 (IntKind.i64.wrap (0 - n)) 3))) (List.replicate (Int.toNat (band .i64 (IntKind.i64.wrap (0 - n)) 3)) (0 : Int))] := hs.newRow ho hx
  clear ho hx
  replace hf := Fr.keep (ks := [6]) (L' := [(6, .slice (some ⟨w.heap.size, 0, none⟩) (List.replicate (Int.toNat (band .i64 (IntKind.i64.wrap (0 - n)) 3)) (0 : Int)).length (Int.toNat (band .i64 (IntKind.i64.wrap (0 - n)) 3)))]) hf (by kernel_rfl)
  refine st tbOk 1 [2] (L' := [(2, .slice (some ⟨w.heap.size, 0, none⟩) (List.replicate (Int.toNat (band .i64 (IntKind.i64.wrap (0 - n)) 3)) (0 : Int)).length (Int.toNat (band .i64 (IntKind.i64.wrap (0 - n)) 3)))]) hf (by kernel_rfl) ?_
  clear hf; clear a; intro a hf
  refine wpList_nil ?_
  have hr := Option.some.inj hS; subst hr
  refine wp_ret ?_
  exact ret_ok hf (vs := [.slice (some ⟨w.heap.size, 0, none⟩) (List.replicate (Int.toNat (band .i64 (IntKind.i64.wrap (0 - n)) 3)) (0 : Int)).length (Int.toNat (band .i64 (IntKind.i64.wrap (0 - n)) 3))]) (by kernel_rfl) ⟨(some ⟨w.heap.size, 0, none⟩), (Int.toNat (band .i64 (IntKind.i64.wrap (0 - n)) 3)), _, rfl, hs.sel [0] rfl rfl⟩

set_option maxHeartbeats 4000000 in
theorem notes_Put_ok {w : World} {F : SH} {p_l : List ((List UInt8) × Int × (List Int))} {ao1 : Option Addr} {cp1 : Nat} (hs : Sep w F (blks [.ro ty53 (.slice ao1 p_l.length cp1) p_l]) w F [.ro ty53 (.slice ao1 p_l.length cp1) p_l]) {r : (List Int) × Int} (hS : notes_Put p_l = some r) :
    Calls Try.prog 25 [.slice ao1 p_l.length cp1].toArray w (Gives (fun u w' => ∃ (ao24 : Option Addr) (cp24 : Nat) (F' : SH), u = .tuple #[.slice ao24 r.1.length cp24, .int .i64 r.2] ∧ Sep w F (blks [.ro ty53 (.slice ao1 p_l.length cp1) p_l]) w' F' [.row 5 (tI .u8) (.slice ao24 r.1.length cp24) r.1])) := by
  generalize (blks [.ro ty53 (.slice ao1 p_l.length cp1) p_l]) = R at hs ⊢
  unfold notes_Put at hS
  refine fn_ok (vs := [.slice ao1 p_l.length cp1]) Try.func25 rfl 69 Try.ntmps25 (Nat.le_of_ble_eq_true rfl) ?_
  intro a hf
  replace hf := Fr.cast (L' := [(0, .slice ao1 p_l.length cp1)]) hf (by kernel_rfl)
  refine sq ?_
  refine reg ?_
  refine st tbOk 2 [0] (L' := [(0, .slice ao1 p_l.length cp1)]) hf (by kernel_rfl) ?_
  clear hf; clear a; intro a hf
  refine wpList_nil ?_
  refine sq ?_
  refine reg ?_
  refine st tbOk 1 [0, 4] (L' := [(0, .slice ao1 p_l.length cp1), (4, .slice none 0 0)]) hf (by kernel_rfl) ?_
  clear hf; clear a; intro a hf
  refine wpList_nil ?_
  refine sq ?_
  refine sq ?_
  refine reg ?_
  refine st tbOk 3 [0, 4, 12, 13, 14] (L' := [(0, .slice ao1 p_l.length cp1), (4, .slice none 0 0), (12, .slice ao1 p_l.length cp1), (13, .int .i64 ((p_l.length : Nat) : Int)), (14, .int .i64 0)]) hf (by kernel_rfl) ?_
  clear hf; clear a; intro a hf
  refine wpList_nil ?_
  refine ctj (fun (s1 : Unit) (a : Act) (w' : World) => ∃ (F1 : SH), Sep w F R w' F1 [.ro ty53 (.slice ao1 p_l.length cp1) p_l] ∧ Fr 69 [(0, .slice ao1 p_l.length cp1), (4, .slice none 0 0)] a) hS ?_ ?_
  · clear hS hf hs; clear a; intro s1 a w5 hM hS
    obtain ⟨F1, hs, hf⟩ := hM
    refine sq ?_
    refine sq ?_
    refine reg ?_
    refine st tbOk 3 [4, 22, 23, 24] (L' := [(4, .slice none 0 0), (22, .slice ao1 p_l.length cp1), (23, .int .i64 ((p_l.length : Nat) : Int)), (24, .int .i64 0)]) hf (by kernel_rfl) ?_
    clear hf; clear a; intro a hf
    refine wpList_nil ?_
    refine ctj (fun (s3 : List Int) (a : Act) (w' : World) => ∃ (ao3 : Option Addr) (cp3 : Nat) (F4 : SH), Sep w F R w' F4 [.row 5 (tI .u8) (.slice ao3 s3.length cp3) s3] ∧ Fr 69 [(4, .slice ao3 s3.length cp3)] a) hS ?_ ?_
    · clear hS hf hs; clear a; intro s3 a w23 hM hS
      obtain ⟨ao3, cp3, F4, hs, hf⟩ := hM
      refine sq ?_
      refine reg ?_
      refine st tbOk 3 [2, 3] (L' := [(2, .slice ao3 s3.length cp3), (3, .int .i64 0)]) hf (by kernel_rfl) ?_
      clear hf; clear a; intro a hf
      refine wpList_nil ?_
      have hr := Option.some.inj hS; subst hr
      refine wp_ret ?_
      exact ret_ok hf (vs := [.slice ao3 s3.length cp3, .int .i64 0]) (by kernel_rfl) ⟨ao3, cp3, _, rfl, hs.sel [0] rfl rfl⟩
    · clear hS; intro KK3 k2 hK3 hS
      refine blk ?_
      replace hs : Sep w F R w5 F1 [.row 5 (tI .u8) (.slice none 0 0) ([] : List Int), .ro ty53 (.slice ao1 p_l.length cp1) p_l] := hs.addNil 5 (tI .u8)
      refine lp (st := ([], 0)) (fun (s4 : (List Int) × Int) (a : Act) (w' : World) => ∃ (ao4 : Option Addr) (cp4 : Nat) (F5 : SH), Sep w F R w' F5 [.row 5 (tI .u8) (.slice ao4 s4.1.length cp4) s4.1, .ro ty53 (.slice ao1 p_l.length cp1) p_l] ∧ Fr 69 [(4, .slice ao4 s4.1.length cp4), (22, .slice ao1 p_l.length cp1), (23, .int .i64 ((p_l.length : Nat) : Int)), (24, .int .i64 s4.2)] a) ?_ ⟨none, 0, _, hs.sel [0, 1] rfl rfl, hf.keep (ks := [4, 22, 23, 24]) (by kernel_rfl)⟩ hS
      clear hS hf hs; clear a
      intro rec2 KK4 hK4 s4 a w6 hM hS
      obtain ⟨ao4, cp4, F5, hs, hf⟩ := hM
      refine sq ?_
      refine reg ?_
      refine st tbOk 1 [4, 22, 23, 24, 25] (L' := [(4, .slice ao4 s4.1.length cp4), (22, .slice ao1 p_l.length cp1), (23, .int .i64 ((p_l.length : Nat) : Int)), (24, .int .i64 s4.2), (25, .bool (decide (s4.2 < ((p_l.length : Nat) : Int))))]) hf (by kernel_rfl) ?_
      clear hf; clear a; intro a hf
      refine wpList_nil ?_
      refine sq ?_
      refine cnd (b := decide (s4.2 < ((p_l.length : Nat) : Int))) hf (by kernel_rfl) (fun hb3 => ?_) (fun hb3 => ?_)
      · replace hS := of_t hb3 hS
        refine wp_skip ?_
        refine sq ?_
        refine ctj (fun (s5 : List Int) (a : Act) (w' : World) => ∃ (ao5 : Option Addr) (cp5 : Nat) (F6 : SH), Sep w F R w' F6 [.row 5 (tI .u8) (.slice ao5 s5.length cp5) s5, .ro ty53 (.slice ao1 p_l.length cp1) p_l] ∧ Fr 69 [(4, .slice ao5 s5.length cp5), (22, .slice ao1 p_l.length cp1), (23, .int .i64 ((p_l.length : Nat) : Int)), (24, .int .i64 s4.2)] a) hS ?_ ?_
        · clear hS hf hs; clear a; intro s5 a w22 hM hS
          obtain ⟨ao5, cp5, F6, hs, hf⟩ := hM
          refine reg ?_
          refine st tbOk 2 [4, 22, 23, 24] (L' := [(4, .slice ao5 s5.length cp5), (22, .slice ao1 p_l.length cp1), (23, .int .i64 ((p_l.length : Nat) : Int)), (24, .int .i64 (IntKind.i64.wrap (s4.2 + 1)))]) hf (by kernel_rfl) ?_
          clear hf; clear a; intro a hf
          refine wpList_nil ?_
          exact hK4 (s5, IntKind.i64.wrap (s4.2 + 1)) _ _ ⟨ao5, cp5, _, hs.sel [0, 1] rfl rfl, hf.keep (ks := [4, 22, 23, 24]) (by kernel_rfl)⟩ hS
        · clear hS; intro KK5 k3 hK5 hS
          refine blk ?_
          refine sq ?_
          refine reg ?_
          have hT := of_gd hS; clear hS; obtain ⟨hc2, hS⟩ := hT
          refine ixR tbOk u37 i54 rfl rfl ((hs.ro 1 rfl).ra (LeH.refl _)) (k := .i64) (n := s4.2) hc2 hf (by kernel_rfl) (by kernel_rfl) (by kernel_rfl) (by kernel_rfl) ?_
          clear hf; clear a; intro pb2 po2 c2 a hp2 hr3 hf
          obtain ⟨ao6, cp6, rfl, hr4⟩ := hr3
          replace hs : Sep w F R w6 F5 [.ro (tI .u8) (.slice ao6 ((gt p_l s4.2).2.2).length cp6) ((gt p_l s4.2).2.2), .row 5 (tI .u8) (.slice ao4 s4.1.length cp4) s4.1, .ro ty53 (.slice ao1 p_l.length cp1) p_l] := hs.addRo hr4
          replace hs : Sep w F R w6 F5 [.cel pb2 po2 [strV ((gt p_l s4.2).1), .int .u32 ((gt p_l s4.2).2.1), .slice ao6 ((gt p_l s4.2).2.2).length cp6], .ro (tI .u8) (.slice ao6 ((gt p_l s4.2).2.2).length cp6) ((gt p_l s4.2).2.2), .row 5 (tI .u8) (.slice ao4 s4.1.length cp4) s4.1, .ro ty53 (.slice ao1 p_l.length cp1) p_l] := hs.addCel hp2
          replace hf := Fr.keep (ks := [4, 22, 23, 24, 26]) (L' := [(4, .slice ao4 s4.1.length cp4), (22, .slice ao1 p_l.length cp1), (23, .int .i64 ((p_l.length : Nat) : Int)), (24, .int .i64 s4.2), (26, .pointer (some ⟨pb2, po2, none⟩))]) hf (by kernel_rfl)
          refine ldC tbOk (T := 54) (hs.ccel 0 rfl) (LeH.refl _) 0 (.agg #[strV ((gt p_l s4.2).1), .int .u32 ((gt p_l s4.2).2.1), .slice ao6 ((gt p_l s4.2).2.2).length cp6]) hf (by kernel_rfl) (by kernel_rfl) (by kernel_rfl) (by kernel_rfl) ?_
          clear hf; clear a; intro a hf
          replace hs : Sep w F R w6 F5 [.ro (tI .u8) (.slice ao6 ((gt p_l s4.2).2.2).length cp6) ((gt p_l s4.2).2.2), .row 5 (tI .u8) (.slice ao4 s4.1.length cp4) s4.1, .ro ty53 (.slice ao1 p_l.length cp1) p_l] := hs.sel [1, 2, 3] rfl rfl
          replace hf := Fr.keep (ks := [4, 22, 23, 24, 27]) (L' := [(4, .slice ao4 s4.1.length cp4), (22, .slice ao1 p_l.length cp1), (23, .int .i64 ((p_l.length : Nat) : Int)), (24, .int .i64 s4.2), (27, .agg #[strV ((gt p_l s4.2).1), .int .u32 ((gt p_l s4.2).2.1), .slice ao6 ((gt p_l s4.2).2.2).length cp6])]) hf (by kernel_rfl)
          refine al tbOk i54 [strV [], .int .u32 0, .slice none 0 0] rfl (by kernel_rfl) hf (by kernel_rfl) (by kernel_rfl) ?_
          clear hf; clear a; intro w7 a hb hx _ hf
          replace hs : Sep w F R w7 F5 [.box w6.heap.size 54 [strV [], .int .u32 0, .slice none 0 0], .ro (tI .u8) (.slice ao6 ((gt p_l s4.2).2.2).length cp6) ((gt p_l s4.2).2.2), .row 5 (tI .u8) (.slice ao4 s4.1.length cp4) s4.1, .ro ty53 (.slice ao1 p_l.length cp1) p_l] := hs.newBox hb hx
          clear hb hx
          replace hf := Fr.keep (ks := [4, 8, 22, 23, 24, 27]) (L' := [(4, .slice ao4 s4.1.length cp4), (8, .pointer (some ⟨w6.heap.size, 0, none⟩)), (22, .slice ao1 p_l.length cp1), (23, .int .i64 ((p_l.length : Nat) : Int)), (24, .int .i64 s4.2), (27, .agg #[strV ((gt p_l s4.2).1), .int .u32 ((gt p_l s4.2).2.1), .slice ao6 ((gt p_l s4.2).2.2).length cp6])]) hf (by kernel_rfl)
          refine stB tbOk i54 (hs.bx 0 rfl) 0 [strV ((gt p_l s4.2).1), .int .u32 ((gt p_l s4.2).2.1), .slice ao6 ((gt p_l s4.2).2.2).length cp6] [strV ((gt p_l s4.2).1), .int .u32 ((gt p_l s4.2).2.1), .slice ao6 ((gt p_l s4.2).2.2).length cp6] (v := .agg #[strV ((gt p_l s4.2).1), .int .u32 ((gt p_l s4.2).2.1), .slice ao6 ((gt p_l s4.2).2.2).length cp6]) rfl rfl (by kernel_rfl) (by kernel_rfl) (by kernel_rfl) (by kernel_rfl) hf (by kernel_rfl) (by kernel_rfl) (by kernel_rfl) ?_
          clear hf; clear a; intro w8 a hb hg _ hf
          replace hs : Sep w F R w8 F5 [.box w6.heap.size 54 [strV ((gt p_l s4.2).1), .int .u32 ((gt p_l s4.2).2.1), .slice ao6 ((gt p_l s4.2).2.2).length cp6], .ro (tI .u8) (.slice ao6 ((gt p_l s4.2).2.2).length cp6) ((gt p_l s4.2).2.2), .row 5 (tI .u8) (.slice ao4 s4.1.length cp4) s4.1, .ro ty53 (.slice ao1 p_l.length cp1) p_l] := hs.updBox 0 rfl hb hg
          clear hb hg
          replace hf := Fr.keep (ks := [4, 8, 22, 23, 24]) (L' := [(4, .slice ao4 s4.1.length cp4), (8, .pointer (some ⟨w6.heap.size, 0, none⟩)), (22, .slice ao1 p_l.length cp1), (23, .int .i64 ((p_l.length : Nat) : Int)), (24, .int .i64 s4.2)]) hf (by kernel_rfl)
          refine wpList_nil ?_
          refine sq ?_
          refine reg ?_
          refine st tbOk 1 [4, 8, 22, 23, 24, 28] (L' := [(4, .slice ao4 s4.1.length cp4), (8, .pointer (some ⟨w6.heap.size, 0, none⟩)), (22, .slice ao1 p_l.length cp1), (23, .int .i64 ((p_l.length : Nat) : Int)), (24, .int .i64 s4.2), (28, .pointer (some ⟨w6.heap.size, 0, none⟩))]) hf (by kernel_rfl) ?_
          clear hf; clear a; intro a hf
          refine ldC tbOk (T := 9) (hs.cbx 0 rfl) (LeH.refl _) 0 (strV ((gt p_l s4.2).1)) hf (by kernel_rfl) (by kernel_rfl) (by kernel_rfl) (by kernel_rfl) ?_
          clear hf; clear a; intro a hf
          replace hf := Fr.keep (ks := [4, 8, 22, 23, 24, 29]) (L' := [(4, .slice ao4 s4.1.length cp4), (8, .pointer (some ⟨w6.heap.size, 0, none⟩)), (22, .slice ao1 p_l.length cp1), (23, .int .i64 ((p_l.length : Nat) : Int)), (24, .int .i64 s4.2), (29, strV ((gt p_l s4.2).1))]) hf (by kernel_rfl)
          have hT := of_gd hS; clear hS; obtain ⟨hc3, hS⟩ := hT
          refine s2b tbOk u9 u22 u5 hs (y := ((gt p_l s4.2).1)) hc3 hf (by kernel_rfl) (by kernel_rfl) (by kernel_rfl) ?_
          clear hf hs; clear a; intro ao7 cp7 w9 a hs hf
          replace hf := Fr.keep (ks := [4, 8, 22, 23, 24, 30]) (L' := [(4, .slice ao4 s4.1.length cp4), (8, .pointer (some ⟨w6.heap.size, 0, none⟩)), (22, .slice ao1 p_l.length cp1), (23, .int .i64 ((p_l.length : Nat) : Int)), (24, .int .i64 s4.2), (30, .slice ao7 (ofStr ((gt p_l s4.2).1)).length cp7)]) hf (by kernel_rfl)
          refine bsR tbOk u22 i5 rfl (t := (tI .u8)) (vs := [(0, .int .u8 0)]) (cells := #[.int .u8 0]) ([0] : List Int) hs.le hf (by kernel_rfl) (by kernel_rfl) (by kernel_rfl) rfl (by kernel_rfl) (reps_flat _) rfl ?_
          clear hf; clear a; intro w10 a ho hx hf
          replace hs : Sep w F R w10 F5 [.row 5 (tI .u8) (.slice (some ⟨w9.heap.size, 0, none⟩) ([0] : List Int).length ([0] : List Int).length) ([0] : List Int), .srow 5 (.slice ao7 (ofStr ((gt p_l s4.2).1)).length cp7) (ofStr ((gt p_l s4.2).1)), .box w6.heap.size 54 [strV ((gt p_l s4.2).1), .int .u32 ((gt p_l s4.2).2.1), .slice ao6 ((gt p_l s4.2).2.2).length cp6], .ro (tI .u8) (.slice ao6 ((gt p_l s4.2).2.2).length cp6) ((gt p_l s4.2).2.2), .row 5 (tI .u8) (.slice ao4 s4.1.length cp4) s4.1, .ro ty53 (.slice ao1 p_l.length cp1) p_l] := hs.newRow ho hx
          clear ho hx
          replace hf := Fr.keep (ks := [4, 8, 22, 23, 24, 30, 31]) (L' := [(4, .slice ao4 s4.1.length cp4), (8, .pointer (some ⟨w6.heap.size, 0, none⟩)), (22, .slice ao1 p_l.length cp1), (23, .int .i64 ((p_l.length : Nat) : Int)), (24, .int .i64 s4.2), (30, .slice ao7 (ofStr ((gt p_l s4.2).1)).length cp7), (31, .slice (some ⟨w9.heap.size, 0, none⟩) ([0] : List Int).length ([0] : List Int).length)]) hf (by kernel_rfl)
          have hT := of_gd hS; clear hS; obtain ⟨hc4, hS⟩ := hT
          refine apB tbOk u22 i5 hs 1 rfl (hs.raW 0 rfl) hc4 hf (by kernel_rfl) (by kernel_rfl) (by kernel_rfl) (by kernel_rfl) ?_
          clear hf hs; clear a; intro ao8 cp8 w11 a hs hf
          replace hs : Sep w F R w11 F5 [.row 5 (tI .u8) (.slice (some ⟨w9.heap.size, 0, none⟩) ([0] : List Int).length ([0] : List Int).length) ([0] : List Int), .srow 5 (.slice ao8 ((ofStr ((gt p_l s4.2).1)) ++ ([0] : List Int)).length cp8) ((ofStr ((gt p_l s4.2).1)) ++ ([0] : List Int)), .box w6.heap.size 54 [strV ((gt p_l s4.2).1), .int .u32 ((gt p_l s4.2).2.1), .slice ao6 ((gt p_l s4.2).2.2).length cp6], .ro (tI .u8) (.slice ao6 ((gt p_l s4.2).2.2).length cp6) ((gt p_l s4.2).2.2), .row 5 (tI .u8) (.slice ao4 s4.1.length cp4) s4.1, .ro ty53 (.slice ao1 p_l.length cp1) p_l] := hs
          replace hs : Sep w F R w11 F5 [.srow 5 (.slice ao8 ((ofStr ((gt p_l s4.2).1)) ++ ([0] : List Int)).length cp8) ((ofStr ((gt p_l s4.2).1)) ++ ([0] : List Int)), .box w6.heap.size 54 [strV ((gt p_l s4.2).1), .int .u32 ((gt p_l s4.2).2.1), .slice ao6 ((gt p_l s4.2).2.2).length cp6], .ro (tI .u8) (.slice ao6 ((gt p_l s4.2).2.2).length cp6) ((gt p_l s4.2).2.2), .row 5 (tI .u8) (.slice ao4 s4.1.length cp4) s4.1, .ro ty53 (.slice ao1 p_l.length cp1) p_l] := hs.sel [1, 2, 3, 4, 5] rfl rfl
          replace hf := Fr.keep (ks := [4, 8, 22, 23, 24, 32]) (L' := [(4, .slice ao4 s4.1.length cp4), (8, .pointer (some ⟨w6.heap.size, 0, none⟩)), (22, .slice ao1 p_l.length cp1), (23, .int .i64 ((p_l.length : Nat) : Int)), (24, .int .i64 s4.2), (32, .slice ao8 ((ofStr ((gt p_l s4.2).1)) ++ ([0] : List Int)).length cp8)]) hf (by kernel_rfl)
          refine st tbOk 1 [4, 8, 9, 22, 23, 24] (L' := [(4, .slice ao4 s4.1.length cp4), (8, .pointer (some ⟨w6.heap.size, 0, none⟩)), (9, .slice ao8 ((ofStr ((gt p_l s4.2).1)) ++ ([0] : List Int)).length cp8), (22, .slice ao1 p_l.length cp1), (23, .int .i64 ((p_l.length : Nat) : Int)), (24, .int .i64 s4.2)]) hf (by kernel_rfl) ?_
          clear hf; clear a; intro a hf
          refine wpList_nil ?_
          refine sq ?_
          refine sq ?_
          obtain ⟨F7, _, hs⟩ := hs.frz 0 rfl
          replace hs : Sep w F R w11 F7 [.ro (tI .u8) (.slice ao8 ((ofStr ((gt p_l s4.2).1)) ++ ([0] : List Int)).length cp8) ((ofStr ((gt p_l s4.2).1)) ++ ([0] : List Int)), .box w6.heap.size 54 [strV ((gt p_l s4.2).1), .int .u32 ((gt p_l s4.2).2.1), .slice ao6 ((gt p_l s4.2).2.2).length cp6], .ro (tI .u8) (.slice ao6 ((gt p_l s4.2).2.2).length cp6) ((gt p_l s4.2).2.2), .row 5 (tI .u8) (.slice ao4 s4.1.length cp4) s4.1, .ro ty53 (.slice ao1 p_l.length cp1) p_l] := hs
          have hT := of_bd hS; clear hS; obtain ⟨z2, hz2, hS⟩ := hT
          have hT := of_bd hS; clear hS; obtain ⟨z3, hz3, hS⟩ := hT
          have hT := of_bd hS; clear hS; obtain ⟨z4, hz4, hS⟩ := hT
          have hT := of_bd hS; clear hS; obtain ⟨z5, hz5, hS⟩ := hT
          have hT := of_bd hS; clear hS; obtain ⟨z6, hz6, hS⟩ := hT
          have hs0 := hs
          refine regF 24 [fun u uw => u = .slice ao8 ((ofStr ((gt p_l s4.2).1)) ++ ([0] : List Int)).length cp8,
    fun u uw => u = .int .i64 ((((ofStr ((gt p_l s4.2).1)) ++ ([0] : List Int)).length : Nat) : Int),
    fun u uw => ∃ (ao10 : Option Addr) (cp10 : Nat) (F' : SH), u = .slice ao10 z2.length cp10 ∧ Sep w11 F7 noR uw F' [.row 5 (tI .u8) (.slice ao10 z2.length cp10) z2],
    fun u uw => u = .pointer (some ⟨w6.heap.size, 2, none⟩),
    fun u uw => u = .slice ao6 ((gt p_l s4.2).2.2).length cp6,
    fun u uw => u = .int .i64 ((((gt p_l s4.2).2.2).length : Nat) : Int),
    fun u uw => ∃ (ao12 : Option Addr) (cp12 : Nat) (F' : SH), u = .slice ao12 z3.length cp12 ∧ Sep w11 F7 noR uw F' [.row 5 (tI .u8) (.slice ao12 z3.length cp12) z3],
    fun u uw => u = .pointer (some ⟨w6.heap.size, 1, none⟩),
    fun u uw => u = .int .u32 ((gt p_l s4.2).2.1),
    fun u uw => u = .int .i64 (IntKind.i64.wrap ((gt p_l s4.2).2.1)),
    fun u uw => ∃ (ao14 : Option Addr) (cp14 : Nat) (F' : SH), u = .slice ao14 z4.length cp14 ∧ Sep w11 F7 noR uw F' [.row 5 (tI .u8) (.slice ao14 z4.length cp14) z4],
    fun u uw => u = .slice ao8 ((ofStr ((gt p_l s4.2).1)) ++ ([0] : List Int)).length cp8,
    fun u uw => u = .slice ao8 ((ofStr ((gt p_l s4.2).1)) ++ ([0] : List Int)).length cp8,
    fun u uw => u = .int .i64 ((((ofStr ((gt p_l s4.2).1)) ++ ([0] : List Int)).length : Nat) : Int),
    fun u uw => ∃ (ao16 : Option Addr) (cp16 : Nat) (F' : SH), u = .slice ao16 z5.length cp16 ∧ Sep w11 F7 noR uw F' [.row 5 (tI .u8) (.slice ao16 z5.length cp16) z5],
    fun u uw => u = .pointer (some ⟨w6.heap.size, 2, none⟩),
    fun u uw => u = .slice ao6 ((gt p_l s4.2).2.2).length cp6,
    fun u uw => u = .pointer (some ⟨w6.heap.size, 2, none⟩),
    fun u uw => u = .slice ao6 ((gt p_l s4.2).2.2).length cp6,
    fun u uw => u = .int .i64 ((((gt p_l s4.2).2.2).length : Nat) : Int),
    fun u uw => ∃ (ao18 : Option Addr) (cp18 : Nat) (F' : SH), u = .slice ao18 z6.length cp18 ∧ Sep w11 F7 noR uw F' [.row 5 (tI .u8) (.slice ao18 z6.length cp18) z6],
    fun u uw => ∃ (ao19 : Option Addr) (cp19 : Nat) (F' : SH), u = .slice ao19 ([z2, z3, z4, ((ofStr ((gt p_l s4.2).1)) ++ ([0] : List Int)), z5, (gt p_l s4.2).2.2, z6] : List (List Int)).length cp19 ∧ Sep w11 F7 noR uw F' [.row 22 (tSl (tI .u8)) (.slice ao19 ([z2, z3, z4, ((ofStr ((gt p_l s4.2).1)) ++ ([0] : List Int)), z5, (gt p_l s4.2).2.2, z6] : List (List Int)).length cp19) ([z2, z3, z4, ((ofStr ((gt p_l s4.2).1)) ++ ([0] : List Int)), z5, (gt p_l s4.2).2.2, z6] : List (List Int))],
    fun u uw => u = .int .i64 ((([z2, z3, z4, ((ofStr ((gt p_l s4.2).1)) ++ ([0] : List Int)), z5, (gt p_l s4.2).2.2, z6] : List (List Int)).length : Nat) : Int),
    fun u uw => u = .int .i64 0] mixed (Fr.keep (ks := [4, 8, 9, 22, 23, 24]) (L' := [(4, .slice ao4 s4.1.length cp4), (8, .pointer (some ⟨w6.heap.size, 0, none⟩)), (9, .slice ao8 ((ofStr ((gt p_l s4.2).1)) ++ ([0] : List Int)).length cp8), (22, .slice ao1 p_l.length cp1), (23, .int .i64 ((p_l.length : Nat) : Int)), (24, .int .i64 s4.2)]) hf (by kernel_rfl)) (by kernel_rfl) rfl ?_ ?_ ?_
          · exact ⟨fun _ _ _ h _ => h, fun _ _ _ h _ => h, fun _ _ _ ⟨ao10, cp10, F', e, h⟩ hx => ⟨ao10, cp10, F', e, h.ext hx⟩, fun _ _ _ h _ => h, fun _ _ _ h _ => h, fun _ _ _ h _ => h, fun _ _ _ ⟨ao12, cp12, F', e, h⟩ hx => ⟨ao12, cp12, F', e, h.ext hx⟩, fun _ _ _ h _ => h, fun _ _ _ h _ => h, fun _ _ _ h _ => h, fun _ _ _ ⟨ao14, cp14, F', e, h⟩ hx => ⟨ao14, cp14, F', e, h.ext hx⟩, fun _ _ _ h _ => h, fun _ _ _ h _ => h, fun _ _ _ h _ => h, fun _ _ _ ⟨ao16, cp16, F', e, h⟩ hx => ⟨ao16, cp16, F', e, h.ext hx⟩, fun _ _ _ h _ => h, fun _ _ _ h _ => h, fun _ _ _ h _ => h, fun _ _ _ h _ => h, fun _ _ _ h _ => h, fun _ _ _ ⟨ao18, cp18, F', e, h⟩ hx => ⟨ao18, cp18, F', e, h.ext hx⟩, fun _ _ _ ⟨ao19, cp19, F', e, h⟩ hx => ⟨ao19, cp19, F', e, h.ext hx⟩, fun _ _ _ h _ => h, fun _ _ _ h _ => h, trivial⟩
          · clear hS hf hs; clear a
            refine ⟨?_, ?_, ?_, ?_, ?_, ?_, ?_, ?_, ?_, ?_, ?_, ?_, ?_, ?_, ?_, ?_, ?_, ?_, ?_, ?_, ?_, ?_, ?_, ?_, trivial⟩
            · intro a wf hX hf hd
              clear hd
              have hs : Sep wf (star F7 w11 wf) noR wf (star F7 w11 wf) [.ro (tI .u8) (.slice ao8 ((ofStr ((gt p_l s4.2).1)) ++ ([0] : List Int)).length cp8) ((ofStr ((gt p_l s4.2).1)) ++ ([0] : List Int)), .ro (tI .u8) (.slice ao6 ((gt p_l s4.2).2.2).length cp6) ((gt p_l s4.2).2.2), .ro ty53 (.slice ao1 p_l.length cp1) p_l] := hs0.fstart hX [0, 2, 4] rfl rfl
              refine st tbOk 1 [33] (L' := [(33, .slice ao8 ((ofStr ((gt p_l s4.2).1)) ++ ([0] : List Int)).length cp8)]) hf (by kernel_rfl) ?_
              clear hf; clear a; intro a hf
              exact fq_ok (d := 33) rfl hf (hs.ex fun _ h => h) hf.1
            · intro a wf hX hf hd
              have e_33 : a.tmps.getD 33 undef = .slice ao8 ((ofStr ((gt p_l s4.2).1)) ++ ([0] : List Int)).length cp8 := hd 0 33 (by kernel_rfl) (by kernel_rfl)
              replace hf : Fr 69 [(33, .slice ao8 ((ofStr ((gt p_l s4.2).1)) ++ ([0] : List Int)).length cp8), (4, .slice ao4 s4.1.length cp4), (8, .pointer (some ⟨w6.heap.size, 0, none⟩)), (9, .slice ao8 ((ofStr ((gt p_l s4.2).1)) ++ ([0] : List Int)).length cp8), (22, .slice ao1 p_l.length cp1), (23, .int .i64 ((p_l.length : Nat) : Int)), (24, .int .i64 s4.2)] a := ⟨e_33, hf⟩; clear e_33
              clear hd
              have hs : Sep wf (star F7 w11 wf) noR wf (star F7 w11 wf) [.ro (tI .u8) (.slice ao8 ((ofStr ((gt p_l s4.2).1)) ++ ([0] : List Int)).length cp8) ((ofStr ((gt p_l s4.2).1)) ++ ([0] : List Int)), .ro (tI .u8) (.slice ao6 ((gt p_l s4.2).2.2).length cp6) ((gt p_l s4.2).2.2), .ro ty53 (.slice ao1 p_l.length cp1) p_l] := hs0.fstart hX [0, 2, 4] rfl rfl
              refine st tbOk 1 [34] (L' := [(34, .int .i64 ((((ofStr ((gt p_l s4.2).1)) ++ ([0] : List Int)).length : Nat) : Int))]) hf (by kernel_rfl) ?_
              clear hf; clear a; intro a hf
              exact fq_ok (d := 34) rfl hf (hs.ex fun _ h => h) hf.1
            · intro a wf hX hf hd
              have e_34 : a.tmps.getD 34 undef = .int .i64 ((((ofStr ((gt p_l s4.2).1)) ++ ([0] : List Int)).length : Nat) : Int) := hd 1 34 (by kernel_rfl) (by kernel_rfl)
              replace hf : Fr 69 [(34, .int .i64 ((((ofStr ((gt p_l s4.2).1)) ++ ([0] : List Int)).length : Nat) : Int)), (4, .slice ao4 s4.1.length cp4), (8, .pointer (some ⟨w6.heap.size, 0, none⟩)), (9, .slice ao8 ((ofStr ((gt p_l s4.2).1)) ++ ([0] : List Int)).length cp8), (22, .slice ao1 p_l.length cp1), (23, .int .i64 ((p_l.length : Nat) : Int)), (24, .int .i64 s4.2)] a := ⟨e_34, hf⟩; clear e_34
              clear hd
              have hs : Sep wf (star F7 w11 wf) noR wf (star F7 w11 wf) [.ro (tI .u8) (.slice ao8 ((ofStr ((gt p_l s4.2).1)) ++ ([0] : List Int)).length cp8) ((ofStr ((gt p_l s4.2).1)) ++ ([0] : List Int)), .ro (tI .u8) (.slice ao6 ((gt p_l s4.2).2.2).length cp6) ((gt p_l s4.2).2.2), .ro ty53 (.slice ao1 p_l.length cp1) p_l] := hs0.fstart hX [0, 2, 4] rfl rfl
              refine clV ent34 (vs := [.int .i64 ((((ofStr ((gt p_l s4.2).1)) ++ ([0] : List Int)).length : Nat) : Int)]) (caps := []) hf (by kernel_rfl) (by kernel_rfl) (by kernel_rfl) (by kernel_rfl) (notes_four_ok (p_x := ((((ofStr ((gt p_l s4.2).1)) ++ ([0] : List Int)).length : Nat) : Int)) (hs.enter [] rfl rfl) hz2) ?_
              clear hf; clear a; intro v w12 a hT hf; obtain ⟨ao9, cp9, F8, rfl, hr⟩ := hT
              replace hs : Sep wf (star F7 w11 wf) noR w12 F8 [.row 5 (tI .u8) (.slice ao9 z2.length cp9) z2, .ro (tI .u8) (.slice ao8 ((ofStr ((gt p_l s4.2).1)) ++ ([0] : List Int)).length cp8) ((ofStr ((gt p_l s4.2).1)) ++ ([0] : List Int)), .ro (tI .u8) (.slice ao6 ((gt p_l s4.2).2.2).length cp6) ((gt p_l s4.2).2.2), .ro ty53 (.slice ao1 p_l.length cp1) p_l] := hs.back [] [0, 1, 2] rfl rfl rfl rfl hr
              clear hr
              exact fq_ok (d := 35) rfl hf (hs.ex fun _ h => h) ⟨ao9, cp9, _, hf.1, (hs.sel [0] rfl rfl).rebase hX⟩
            · intro a wf hX hf hd
              clear hd
              have hs : Sep wf (star F7 w11 wf) noR wf (star F7 w11 wf) [.ro (tI .u8) (.slice ao8 ((ofStr ((gt p_l s4.2).1)) ++ ([0] : List Int)).length cp8) ((ofStr ((gt p_l s4.2).1)) ++ ([0] : List Int)), .ro (tI .u8) (.slice ao6 ((gt p_l s4.2).2.2).length cp6) ((gt p_l s4.2).2.2), .ro ty53 (.slice ao1 p_l.length cp1) p_l] := hs0.fstart hX [0, 2, 4] rfl rfl
              refine st tbOk 1 [36] (L' := [(36, .pointer (some ⟨w6.heap.size, 2, none⟩))]) hf (by kernel_rfl) ?_
              clear hf; clear a; intro a hf
              exact fq_ok (d := 36) rfl hf (hs.ex fun _ h => h) hf.1
            · intro a wf hX hf hd
              have e_36 : a.tmps.getD 36 undef = .pointer (some ⟨w6.heap.size, 2, none⟩) := hd 3 36 (by kernel_rfl) (by kernel_rfl)
              replace hf : Fr 69 [(36, .pointer (some ⟨w6.heap.size, 2, none⟩)), (4, .slice ao4 s4.1.length cp4), (8, .pointer (some ⟨w6.heap.size, 0, none⟩)), (9, .slice ao8 ((ofStr ((gt p_l s4.2).1)) ++ ([0] : List Int)).length cp8), (22, .slice ao1 p_l.length cp1), (23, .int .i64 ((p_l.length : Nat) : Int)), (24, .int .i64 s4.2)] a := ⟨e_36, hf⟩; clear e_36
              clear hd
              have hs : Sep wf (star F7 w11 wf) noR wf (star F7 w11 wf) [.ro (tI .u8) (.slice ao8 ((ofStr ((gt p_l s4.2).1)) ++ ([0] : List Int)).length cp8) ((ofStr ((gt p_l s4.2).1)) ++ ([0] : List Int)), .ro (tI .u8) (.slice ao6 ((gt p_l s4.2).2.2).length cp6) ((gt p_l s4.2).2.2), .ro ty53 (.slice ao1 p_l.length cp1) p_l] := hs0.fstart hX [0, 2, 4] rfl rfl
              refine ldC tbOk (T := 22) ((hs0.cbx 1 rfl).mono hX.le) (LeH.refl _) 2 (.slice ao6 ((gt p_l s4.2).2.2).length cp6) hf (by kernel_rfl) (by kernel_rfl) (by kernel_rfl) (by kernel_rfl) ?_
              clear hf; clear a; intro a hf
              exact fq_ok (d := 37) rfl hf (hs.ex fun _ h => h) hf.1
            · intro a wf hX hf hd
              have e_37 : a.tmps.getD 37 undef = .slice ao6 ((gt p_l s4.2).2.2).length cp6 := hd 4 37 (by kernel_rfl) (by kernel_rfl)
              replace hf : Fr 69 [(37, .slice ao6 ((gt p_l s4.2).2.2).length cp6), (4, .slice ao4 s4.1.length cp4), (8, .pointer (some ⟨w6.heap.size, 0, none⟩)), (9, .slice ao8 ((ofStr ((gt p_l s4.2).1)) ++ ([0] : List Int)).length cp8), (22, .slice ao1 p_l.length cp1), (23, .int .i64 ((p_l.length : Nat) : Int)), (24, .int .i64 s4.2)] a := ⟨e_37, hf⟩; clear e_37
              clear hd
              have hs : Sep wf (star F7 w11 wf) noR wf (star F7 w11 wf) [.ro (tI .u8) (.slice ao8 ((ofStr ((gt p_l s4.2).1)) ++ ([0] : List Int)).length cp8) ((ofStr ((gt p_l s4.2).1)) ++ ([0] : List Int)), .ro (tI .u8) (.slice ao6 ((gt p_l s4.2).2.2).length cp6) ((gt p_l s4.2).2.2), .ro ty53 (.slice ao1 p_l.length cp1) p_l] := hs0.fstart hX [0, 2, 4] rfl rfl
              refine st tbOk 1 [38] (L' := [(38, .int .i64 ((((gt p_l s4.2).2.2).length : Nat) : Int))]) hf (by kernel_rfl) ?_
              clear hf; clear a; intro a hf
              exact fq_ok (d := 38) rfl hf (hs.ex fun _ h => h) hf.1
            · intro a wf hX hf hd
              have e_38 : a.tmps.getD 38 undef = .int .i64 ((((gt p_l s4.2).2.2).length : Nat) : Int) := hd 5 38 (by kernel_rfl) (by kernel_rfl)
              replace hf : Fr 69 [(38, .int .i64 ((((gt p_l s4.2).2.2).length : Nat) : Int)), (4, .slice ao4 s4.1.length cp4), (8, .pointer (some ⟨w6.heap.size, 0, none⟩)), (9, .slice ao8 ((ofStr ((gt p_l s4.2).1)) ++ ([0] : List Int)).length cp8), (22, .slice ao1 p_l.length cp1), (23, .int .i64 ((p_l.length : Nat) : Int)), (24, .int .i64 s4.2)] a := ⟨e_38, hf⟩; clear e_38
              clear hd
              have hs : Sep wf (star F7 w11 wf) noR wf (star F7 w11 wf) [.ro (tI .u8) (.slice ao8 ((ofStr ((gt p_l s4.2).1)) ++ ([0] : List Int)).length cp8) ((ofStr ((gt p_l s4.2).1)) ++ ([0] : List Int)), .ro (tI .u8) (.slice ao6 ((gt p_l s4.2).2.2).length cp6) ((gt p_l s4.2).2.2), .ro ty53 (.slice ao1 p_l.length cp1) p_l] := hs0.fstart hX [0, 2, 4] rfl rfl
              refine clV ent34 (vs := [.int .i64 ((((gt p_l s4.2).2.2).length : Nat) : Int)]) (caps := []) hf (by kernel_rfl) (by kernel_rfl) (by kernel_rfl) (by kernel_rfl) (notes_four_ok (p_x := ((((gt p_l s4.2).2.2).length : Nat) : Int)) (hs.enter [] rfl rfl) hz3) ?_
              clear hf; clear a; intro v w13 a hT hf; obtain ⟨ao11, cp11, F9, rfl, hr⟩ := hT
              replace hs : Sep wf (star F7 w11 wf) noR w13 F9 [.row 5 (tI .u8) (.slice ao11 z3.length cp11) z3, .ro (tI .u8) (.slice ao8 ((ofStr ((gt p_l s4.2).1)) ++ ([0] : List Int)).length cp8) ((ofStr ((gt p_l s4.2).1)) ++ ([0] : List Int)), .ro (tI .u8) (.slice ao6 ((gt p_l s4.2).2.2).length cp6) ((gt p_l s4.2).2.2), .ro ty53 (.slice ao1 p_l.length cp1) p_l] := hs.back [] [0, 1, 2] rfl rfl rfl rfl hr
              clear hr
              exact fq_ok (d := 39) rfl hf (hs.ex fun _ h => h) ⟨ao11, cp11, _, hf.1, (hs.sel [0] rfl rfl).rebase hX⟩
            · intro a wf hX hf hd
              clear hd
              have hs : Sep wf (star F7 w11 wf) noR wf (star F7 w11 wf) [.ro (tI .u8) (.slice ao8 ((ofStr ((gt p_l s4.2).1)) ++ ([0] : List Int)).length cp8) ((ofStr ((gt p_l s4.2).1)) ++ ([0] : List Int)), .ro (tI .u8) (.slice ao6 ((gt p_l s4.2).2.2).length cp6) ((gt p_l s4.2).2.2), .ro ty53 (.slice ao1 p_l.length cp1) p_l] := hs0.fstart hX [0, 2, 4] rfl rfl
              refine st tbOk 1 [40] (L' := [(40, .pointer (some ⟨w6.heap.size, 1, none⟩))]) hf (by kernel_rfl) ?_
              clear hf; clear a; intro a hf
              exact fq_ok (d := 40) rfl hf (hs.ex fun _ h => h) hf.1
            · intro a wf hX hf hd
              have e_40 : a.tmps.getD 40 undef = .pointer (some ⟨w6.heap.size, 1, none⟩) := hd 7 40 (by kernel_rfl) (by kernel_rfl)
              replace hf : Fr 69 [(40, .pointer (some ⟨w6.heap.size, 1, none⟩)), (4, .slice ao4 s4.1.length cp4), (8, .pointer (some ⟨w6.heap.size, 0, none⟩)), (9, .slice ao8 ((ofStr ((gt p_l s4.2).1)) ++ ([0] : List Int)).length cp8), (22, .slice ao1 p_l.length cp1), (23, .int .i64 ((p_l.length : Nat) : Int)), (24, .int .i64 s4.2)] a := ⟨e_40, hf⟩; clear e_40
              clear hd
              have hs : Sep wf (star F7 w11 wf) noR wf (star F7 w11 wf) [.ro (tI .u8) (.slice ao8 ((ofStr ((gt p_l s4.2).1)) ++ ([0] : List Int)).length cp8) ((ofStr ((gt p_l s4.2).1)) ++ ([0] : List Int)), .ro (tI .u8) (.slice ao6 ((gt p_l s4.2).2.2).length cp6) ((gt p_l s4.2).2.2), .ro ty53 (.slice ao1 p_l.length cp1) p_l] := hs0.fstart hX [0, 2, 4] rfl rfl
              refine ldC tbOk (T := 50) ((hs0.cbx 1 rfl).mono hX.le) (LeH.refl _) 1 (.int .u32 ((gt p_l s4.2).2.1)) hf (by kernel_rfl) (by kernel_rfl) (by kernel_rfl) (by kernel_rfl) ?_
              clear hf; clear a; intro a hf
              exact fq_ok (d := 41) rfl hf (hs.ex fun _ h => h) hf.1
            · intro a wf hX hf hd
              have e_41 : a.tmps.getD 41 undef = .int .u32 ((gt p_l s4.2).2.1) := hd 8 41 (by kernel_rfl) (by kernel_rfl)
              replace hf : Fr 69 [(41, .int .u32 ((gt p_l s4.2).2.1)), (4, .slice ao4 s4.1.length cp4), (8, .pointer (some ⟨w6.heap.size, 0, none⟩)), (9, .slice ao8 ((ofStr ((gt p_l s4.2).1)) ++ ([0] : List Int)).length cp8), (22, .slice ao1 p_l.length cp1), (23, .int .i64 ((p_l.length : Nat) : Int)), (24, .int .i64 s4.2)] a := ⟨e_41, hf⟩; clear e_41
              clear hd
              have hs : Sep wf (star F7 w11 wf) noR wf (star F7 w11 wf) [.ro (tI .u8) (.slice ao8 ((ofStr ((gt p_l s4.2).1)) ++ ([0] : List Int)).length cp8) ((ofStr ((gt p_l s4.2).1)) ++ ([0] : List Int)), .ro (tI .u8) (.slice ao6 ((gt p_l s4.2).2.2).length cp6) ((gt p_l s4.2).2.2), .ro ty53 (.slice ao1 p_l.length cp1) p_l] := hs0.fstart hX [0, 2, 4] rfl rfl
              refine st tbOk 1 [42] (L' := [(42, .int .i64 (IntKind.i64.wrap ((gt p_l s4.2).2.1)))]) hf (by kernel_rfl) ?_
              clear hf; clear a; intro a hf
              exact fq_ok (d := 42) rfl hf (hs.ex fun _ h => h) hf.1
            · intro a wf hX hf hd
              have e_42 : a.tmps.getD 42 undef = .int .i64 (IntKind.i64.wrap ((gt p_l s4.2).2.1)) := hd 9 42 (by kernel_rfl) (by kernel_rfl)
              replace hf : Fr 69 [(42, .int .i64 (IntKind.i64.wrap ((gt p_l s4.2).2.1))), (4, .slice ao4 s4.1.length cp4), (8, .pointer (some ⟨w6.heap.size, 0, none⟩)), (9, .slice ao8 ((ofStr ((gt p_l s4.2).1)) ++ ([0] : List Int)).length cp8), (22, .slice ao1 p_l.length cp1), (23, .int .i64 ((p_l.length : Nat) : Int)), (24, .int .i64 s4.2)] a := ⟨e_42, hf⟩; clear e_42
              clear hd
              have hs : Sep wf (star F7 w11 wf) noR wf (star F7 w11 wf) [.ro (tI .u8) (.slice ao8 ((ofStr ((gt p_l s4.2).1)) ++ ([0] : List Int)).length cp8) ((ofStr ((gt p_l s4.2).1)) ++ ([0] : List Int)), .ro (tI .u8) (.slice ao6 ((gt p_l s4.2).2.2).length cp6) ((gt p_l s4.2).2.2), .ro ty53 (.slice ao1 p_l.length cp1) p_l] := hs0.fstart hX [0, 2, 4] rfl rfl
              refine clV ent34 (vs := [.int .i64 (IntKind.i64.wrap ((gt p_l s4.2).2.1))]) (caps := []) hf (by kernel_rfl) (by kernel_rfl) (by kernel_rfl) (by kernel_rfl) (notes_four_ok (p_x := IntKind.i64.wrap ((gt p_l s4.2).2.1)) (hs.enter [] rfl rfl) hz4) ?_
              clear hf; clear a; intro v w14 a hT hf; obtain ⟨ao13, cp13, F10, rfl, hr⟩ := hT
              replace hs : Sep wf (star F7 w11 wf) noR w14 F10 [.row 5 (tI .u8) (.slice ao13 z4.length cp13) z4, .ro (tI .u8) (.slice ao8 ((ofStr ((gt p_l s4.2).1)) ++ ([0] : List Int)).length cp8) ((ofStr ((gt p_l s4.2).1)) ++ ([0] : List Int)), .ro (tI .u8) (.slice ao6 ((gt p_l s4.2).2.2).length cp6) ((gt p_l s4.2).2.2), .ro ty53 (.slice ao1 p_l.length cp1) p_l] := hs.back [] [0, 1, 2] rfl rfl rfl rfl hr
              clear hr
              exact fq_ok (d := 43) rfl hf (hs.ex fun _ h => h) ⟨ao13, cp13, _, hf.1, (hs.sel [0] rfl rfl).rebase hX⟩
            · intro a wf hX hf hd
              clear hd
              have hs : Sep wf (star F7 w11 wf) noR wf (star F7 w11 wf) [.ro (tI .u8) (.slice ao8 ((ofStr ((gt p_l s4.2).1)) ++ ([0] : List Int)).length cp8) ((ofStr ((gt p_l s4.2).1)) ++ ([0] : List Int)), .ro (tI .u8) (.slice ao6 ((gt p_l s4.2).2.2).length cp6) ((gt p_l s4.2).2.2), .ro ty53 (.slice ao1 p_l.length cp1) p_l] := hs0.fstart hX [0, 2, 4] rfl rfl
              refine st tbOk 1 [44] (L' := [(44, .slice ao8 ((ofStr ((gt p_l s4.2).1)) ++ ([0] : List Int)).length cp8)]) hf (by kernel_rfl) ?_
              clear hf; clear a; intro a hf
              exact fq_ok (d := 44) rfl hf (hs.ex fun _ h => h) hf.1
            · intro a wf hX hf hd
              clear hd
              have hs : Sep wf (star F7 w11 wf) noR wf (star F7 w11 wf) [.ro (tI .u8) (.slice ao8 ((ofStr ((gt p_l s4.2).1)) ++ ([0] : List Int)).length cp8) ((ofStr ((gt p_l s4.2).1)) ++ ([0] : List Int)), .ro (tI .u8) (.slice ao6 ((gt p_l s4.2).2.2).length cp6) ((gt p_l s4.2).2.2), .ro ty53 (.slice ao1 p_l.length cp1) p_l] := hs0.fstart hX [0, 2, 4] rfl rfl
              refine st tbOk 1 [45] (L' := [(45, .slice ao8 ((ofStr ((gt p_l s4.2).1)) ++ ([0] : List Int)).length cp8)]) hf (by kernel_rfl) ?_
              clear hf; clear a; intro a hf
              exact fq_ok (d := 45) rfl hf (hs.ex fun _ h => h) hf.1
            · intro a wf hX hf hd
              have e_45 : a.tmps.getD 45 undef = .slice ao8 ((ofStr ((gt p_l s4.2).1)) ++ ([0] : List Int)).length cp8 := hd 12 45 (by kernel_rfl) (by kernel_rfl)
              replace hf : Fr 69 [(45, .slice ao8 ((ofStr ((gt p_l s4.2).1)) ++ ([0] : List Int)).length cp8), (4, .slice ao4 s4.1.length cp4), (8, .pointer (some ⟨w6.heap.size, 0, none⟩)), (9, .slice ao8 ((ofStr ((gt p_l s4.2).1)) ++ ([0] : List Int)).length cp8), (22, .slice ao1 p_l.length cp1), (23, .int .i64 ((p_l.length : Nat) : Int)), (24, .int .i64 s4.2)] a := ⟨e_45, hf⟩; clear e_45
              clear hd
              have hs : Sep wf (star F7 w11 wf) noR wf (star F7 w11 wf) [.ro (tI .u8) (.slice ao8 ((ofStr ((gt p_l s4.2).1)) ++ ([0] : List Int)).length cp8) ((ofStr ((gt p_l s4.2).1)) ++ ([0] : List Int)), .ro (tI .u8) (.slice ao6 ((gt p_l s4.2).2.2).length cp6) ((gt p_l s4.2).2.2), .ro ty53 (.slice ao1 p_l.length cp1) p_l] := hs0.fstart hX [0, 2, 4] rfl rfl
              refine st tbOk 1 [46] (L' := [(46, .int .i64 ((((ofStr ((gt p_l s4.2).1)) ++ ([0] : List Int)).length : Nat) : Int))]) hf (by kernel_rfl) ?_
              clear hf; clear a; intro a hf
              exact fq_ok (d := 46) rfl hf (hs.ex fun _ h => h) hf.1
            · intro a wf hX hf hd
              have e_46 : a.tmps.getD 46 undef = .int .i64 ((((ofStr ((gt p_l s4.2).1)) ++ ([0] : List Int)).length : Nat) : Int) := hd 13 46 (by kernel_rfl) (by kernel_rfl)
              replace hf : Fr 69 [(46, .int .i64 ((((ofStr ((gt p_l s4.2).1)) ++ ([0] : List Int)).length : Nat) : Int)), (4, .slice ao4 s4.1.length cp4), (8, .pointer (some ⟨w6.heap.size, 0, none⟩)), (9, .slice ao8 ((ofStr ((gt p_l s4.2).1)) ++ ([0] : List Int)).length cp8), (22, .slice ao1 p_l.length cp1), (23, .int .i64 ((p_l.length : Nat) : Int)), (24, .int .i64 s4.2)] a := ⟨e_46, hf⟩; clear e_46
              clear hd
              have hs : Sep wf (star F7 w11 wf) noR wf (star F7 w11 wf) [.ro (tI .u8) (.slice ao8 ((ofStr ((gt p_l s4.2).1)) ++ ([0] : List Int)).length cp8) ((ofStr ((gt p_l s4.2).1)) ++ ([0] : List Int)), .ro (tI .u8) (.slice ao6 ((gt p_l s4.2).2.2).length cp6) ((gt p_l s4.2).2.2), .ro ty53 (.slice ao1 p_l.length cp1) p_l] := hs0.fstart hX [0, 2, 4] rfl rfl
              refine clV ent35 (vs := [.int .i64 ((((ofStr ((gt p_l s4.2).1)) ++ ([0] : List Int)).length : Nat) : Int)]) (caps := []) hf (by kernel_rfl) (by kernel_rfl) (by kernel_rfl) (by kernel_rfl) (notes_fill_ok (n := ((((ofStr ((gt p_l s4.2).1)) ++ ([0] : List Int)).length : Nat) : Int)) (hs.enter [] rfl rfl) hz5) ?_
              clear hf; clear a; intro v w15 a hT hf; obtain ⟨ao15, cp15, F11, rfl, hr⟩ := hT
              replace hs : Sep wf (star F7 w11 wf) noR w15 F11 [.row 5 (tI .u8) (.slice ao15 z5.length cp15) z5, .ro (tI .u8) (.slice ao8 ((ofStr ((gt p_l s4.2).1)) ++ ([0] : List Int)).length cp8) ((ofStr ((gt p_l s4.2).1)) ++ ([0] : List Int)), .ro (tI .u8) (.slice ao6 ((gt p_l s4.2).2.2).length cp6) ((gt p_l s4.2).2.2), .ro ty53 (.slice ao1 p_l.length cp1) p_l] := hs.back [] [0, 1, 2] rfl rfl rfl rfl hr
              clear hr
              exact fq_ok (d := 47) rfl hf (hs.ex fun _ h => h) ⟨ao15, cp15, _, hf.1, (hs.sel [0] rfl rfl).rebase hX⟩
            · intro a wf hX hf hd
              clear hd
              have hs : Sep wf (star F7 w11 wf) noR wf (star F7 w11 wf) [.ro (tI .u8) (.slice ao8 ((ofStr ((gt p_l s4.2).1)) ++ ([0] : List Int)).length cp8) ((ofStr ((gt p_l s4.2).1)) ++ ([0] : List Int)), .ro (tI .u8) (.slice ao6 ((gt p_l s4.2).2.2).length cp6) ((gt p_l s4.2).2.2), .ro ty53 (.slice ao1 p_l.length cp1) p_l] := hs0.fstart hX [0, 2, 4] rfl rfl
              refine st tbOk 1 [48] (L' := [(48, .pointer (some ⟨w6.heap.size, 2, none⟩))]) hf (by kernel_rfl) ?_
              clear hf; clear a; intro a hf
              exact fq_ok (d := 48) rfl hf (hs.ex fun _ h => h) hf.1
            · intro a wf hX hf hd
              have e_48 : a.tmps.getD 48 undef = .pointer (some ⟨w6.heap.size, 2, none⟩) := hd 15 48 (by kernel_rfl) (by kernel_rfl)
              replace hf : Fr 69 [(48, .pointer (some ⟨w6.heap.size, 2, none⟩)), (4, .slice ao4 s4.1.length cp4), (8, .pointer (some ⟨w6.heap.size, 0, none⟩)), (9, .slice ao8 ((ofStr ((gt p_l s4.2).1)) ++ ([0] : List Int)).length cp8), (22, .slice ao1 p_l.length cp1), (23, .int .i64 ((p_l.length : Nat) : Int)), (24, .int .i64 s4.2)] a := ⟨e_48, hf⟩; clear e_48
              clear hd
              have hs : Sep wf (star F7 w11 wf) noR wf (star F7 w11 wf) [.ro (tI .u8) (.slice ao8 ((ofStr ((gt p_l s4.2).1)) ++ ([0] : List Int)).length cp8) ((ofStr ((gt p_l s4.2).1)) ++ ([0] : List Int)), .ro (tI .u8) (.slice ao6 ((gt p_l s4.2).2.2).length cp6) ((gt p_l s4.2).2.2), .ro ty53 (.slice ao1 p_l.length cp1) p_l] := hs0.fstart hX [0, 2, 4] rfl rfl
              refine ldC tbOk (T := 22) ((hs0.cbx 1 rfl).mono hX.le) (LeH.refl _) 2 (.slice ao6 ((gt p_l s4.2).2.2).length cp6) hf (by kernel_rfl) (by kernel_rfl) (by kernel_rfl) (by kernel_rfl) ?_
              clear hf; clear a; intro a hf
              exact fq_ok (d := 49) rfl hf (hs.ex fun _ h => h) hf.1
            · intro a wf hX hf hd
              clear hd
              have hs : Sep wf (star F7 w11 wf) noR wf (star F7 w11 wf) [.ro (tI .u8) (.slice ao8 ((ofStr ((gt p_l s4.2).1)) ++ ([0] : List Int)).length cp8) ((ofStr ((gt p_l s4.2).1)) ++ ([0] : List Int)), .ro (tI .u8) (.slice ao6 ((gt p_l s4.2).2.2).length cp6) ((gt p_l s4.2).2.2), .ro ty53 (.slice ao1 p_l.length cp1) p_l] := hs0.fstart hX [0, 2, 4] rfl rfl
              refine st tbOk 1 [50] (L' := [(50, .pointer (some ⟨w6.heap.size, 2, none⟩))]) hf (by kernel_rfl) ?_
              clear hf; clear a; intro a hf
              exact fq_ok (d := 50) rfl hf (hs.ex fun _ h => h) hf.1
            · intro a wf hX hf hd
              have e_50 : a.tmps.getD 50 undef = .pointer (some ⟨w6.heap.size, 2, none⟩) := hd 17 50 (by kernel_rfl) (by kernel_rfl)
              replace hf : Fr 69 [(50, .pointer (some ⟨w6.heap.size, 2, none⟩)), (4, .slice ao4 s4.1.length cp4), (8, .pointer (some ⟨w6.heap.size, 0, none⟩)), (9, .slice ao8 ((ofStr ((gt p_l s4.2).1)) ++ ([0] : List Int)).length cp8), (22, .slice ao1 p_l.length cp1), (23, .int .i64 ((p_l.length : Nat) : Int)), (24, .int .i64 s4.2)] a := ⟨e_50, hf⟩; clear e_50
              clear hd
              have hs : Sep wf (star F7 w11 wf) noR wf (star F7 w11 wf) [.ro (tI .u8) (.slice ao8 ((ofStr ((gt p_l s4.2).1)) ++ ([0] : List Int)).length cp8) ((ofStr ((gt p_l s4.2).1)) ++ ([0] : List Int)), .ro (tI .u8) (.slice ao6 ((gt p_l s4.2).2.2).length cp6) ((gt p_l s4.2).2.2), .ro ty53 (.slice ao1 p_l.length cp1) p_l] := hs0.fstart hX [0, 2, 4] rfl rfl
              refine ldC tbOk (T := 22) ((hs0.cbx 1 rfl).mono hX.le) (LeH.refl _) 2 (.slice ao6 ((gt p_l s4.2).2.2).length cp6) hf (by kernel_rfl) (by kernel_rfl) (by kernel_rfl) (by kernel_rfl) ?_
              clear hf; clear a; intro a hf
              exact fq_ok (d := 51) rfl hf (hs.ex fun _ h => h) hf.1
            · intro a wf hX hf hd
              have e_51 : a.tmps.getD 51 undef = .slice ao6 ((gt p_l s4.2).2.2).length cp6 := hd 18 51 (by kernel_rfl) (by kernel_rfl)
              replace hf : Fr 69 [(51, .slice ao6 ((gt p_l s4.2).2.2).length cp6), (4, .slice ao4 s4.1.length cp4), (8, .pointer (some ⟨w6.heap.size, 0, none⟩)), (9, .slice ao8 ((ofStr ((gt p_l s4.2).1)) ++ ([0] : List Int)).length cp8), (22, .slice ao1 p_l.length cp1), (23, .int .i64 ((p_l.length : Nat) : Int)), (24, .int .i64 s4.2)] a := ⟨e_51, hf⟩; clear e_51
              clear hd
              have hs : Sep wf (star F7 w11 wf) noR wf (star F7 w11 wf) [.ro (tI .u8) (.slice ao8 ((ofStr ((gt p_l s4.2).1)) ++ ([0] : List Int)).length cp8) ((ofStr ((gt p_l s4.2).1)) ++ ([0] : List Int)), .ro (tI .u8) (.slice ao6 ((gt p_l s4.2).2.2).length cp6) ((gt p_l s4.2).2.2), .ro ty53 (.slice ao1 p_l.length cp1) p_l] := hs0.fstart hX [0, 2, 4] rfl rfl
              refine st tbOk 1 [52] (L' := [(52, .int .i64 ((((gt p_l s4.2).2.2).length : Nat) : Int))]) hf (by kernel_rfl) ?_
              clear hf; clear a; intro a hf
              exact fq_ok (d := 52) rfl hf (hs.ex fun _ h => h) hf.1
            · intro a wf hX hf hd
              have e_52 : a.tmps.getD 52 undef = .int .i64 ((((gt p_l s4.2).2.2).length : Nat) : Int) := hd 19 52 (by kernel_rfl) (by kernel_rfl)
              replace hf : Fr 69 [(52, .int .i64 ((((gt p_l s4.2).2.2).length : Nat) : Int)), (4, .slice ao4 s4.1.length cp4), (8, .pointer (some ⟨w6.heap.size, 0, none⟩)), (9, .slice ao8 ((ofStr ((gt p_l s4.2).1)) ++ ([0] : List Int)).length cp8), (22, .slice ao1 p_l.length cp1), (23, .int .i64 ((p_l.length : Nat) : Int)), (24, .int .i64 s4.2)] a := ⟨e_52, hf⟩; clear e_52
              clear hd
              have hs : Sep wf (star F7 w11 wf) noR wf (star F7 w11 wf) [.ro (tI .u8) (.slice ao8 ((ofStr ((gt p_l s4.2).1)) ++ ([0] : List Int)).length cp8) ((ofStr ((gt p_l s4.2).1)) ++ ([0] : List Int)), .ro (tI .u8) (.slice ao6 ((gt p_l s4.2).2.2).length cp6) ((gt p_l s4.2).2.2), .ro ty53 (.slice ao1 p_l.length cp1) p_l] := hs0.fstart hX [0, 2, 4] rfl rfl
              refine clV ent35 (vs := [.int .i64 ((((gt p_l s4.2).2.2).length : Nat) : Int)]) (caps := []) hf (by kernel_rfl) (by kernel_rfl) (by kernel_rfl) (by kernel_rfl) (notes_fill_ok (n := ((((gt p_l s4.2).2.2).length : Nat) : Int)) (hs.enter [] rfl rfl) hz6) ?_
              clear hf; clear a; intro v w16 a hT hf; obtain ⟨ao17, cp17, F12, rfl, hr⟩ := hT
              replace hs : Sep wf (star F7 w11 wf) noR w16 F12 [.row 5 (tI .u8) (.slice ao17 z6.length cp17) z6, .ro (tI .u8) (.slice ao8 ((ofStr ((gt p_l s4.2).1)) ++ ([0] : List Int)).length cp8) ((ofStr ((gt p_l s4.2).1)) ++ ([0] : List Int)), .ro (tI .u8) (.slice ao6 ((gt p_l s4.2).2.2).length cp6) ((gt p_l s4.2).2.2), .ro ty53 (.slice ao1 p_l.length cp1) p_l] := hs.back [] [0, 1, 2] rfl rfl rfl rfl hr
              clear hr
              exact fq_ok (d := 53) rfl hf (hs.ex fun _ h => h) ⟨ao17, cp17, _, hf.1, (hs.sel [0] rfl rfl).rebase hX⟩
            · intro a wf hX hf hd
              obtain ⟨ao10, cp10, F_35, e_35, h_35⟩ : ∃ (ao10 : Option Addr) (cp10 : Nat) (F' : SH), a.tmps.getD 35 undef = .slice ao10 z2.length cp10 ∧ Sep w11 F7 noR wf F' [.row 5 (tI .u8) (.slice ao10 z2.length cp10) z2] := hd 2 35 (by kernel_rfl) (by kernel_rfl)
              obtain ⟨ao12, cp12, F_39, e_39, h_39⟩ : ∃ (ao12 : Option Addr) (cp12 : Nat) (F' : SH), a.tmps.getD 39 undef = .slice ao12 z3.length cp12 ∧ Sep w11 F7 noR wf F' [.row 5 (tI .u8) (.slice ao12 z3.length cp12) z3] := hd 6 39 (by kernel_rfl) (by kernel_rfl)
              obtain ⟨ao14, cp14, F_43, e_43, h_43⟩ : ∃ (ao14 : Option Addr) (cp14 : Nat) (F' : SH), a.tmps.getD 43 undef = .slice ao14 z4.length cp14 ∧ Sep w11 F7 noR wf F' [.row 5 (tI .u8) (.slice ao14 z4.length cp14) z4] := hd 10 43 (by kernel_rfl) (by kernel_rfl)
              have e_44 : a.tmps.getD 44 undef = .slice ao8 ((ofStr ((gt p_l s4.2).1)) ++ ([0] : List Int)).length cp8 := hd 11 44 (by kernel_rfl) (by kernel_rfl)
              obtain ⟨ao16, cp16, F_47, e_47, h_47⟩ : ∃ (ao16 : Option Addr) (cp16 : Nat) (F' : SH), a.tmps.getD 47 undef = .slice ao16 z5.length cp16 ∧ Sep w11 F7 noR wf F' [.row 5 (tI .u8) (.slice ao16 z5.length cp16) z5] := hd 14 47 (by kernel_rfl) (by kernel_rfl)
              have e_49 : a.tmps.getD 49 undef = .slice ao6 ((gt p_l s4.2).2.2).length cp6 := hd 16 49 (by kernel_rfl) (by kernel_rfl)
              obtain ⟨ao18, cp18, F_53, e_53, h_53⟩ : ∃ (ao18 : Option Addr) (cp18 : Nat) (F' : SH), a.tmps.getD 53 undef = .slice ao18 z6.length cp18 ∧ Sep w11 F7 noR wf F' [.row 5 (tI .u8) (.slice ao18 z6.length cp18) z6] := hd 20 53 (by kernel_rfl) (by kernel_rfl)
              replace hf : Fr 69 [(35, .slice ao10 z2.length cp10), (39, .slice ao12 z3.length cp12), (43, .slice ao14 z4.length cp14), (44, .slice ao8 ((ofStr ((gt p_l s4.2).1)) ++ ([0] : List Int)).length cp8), (47, .slice ao16 z5.length cp16), (49, .slice ao6 ((gt p_l s4.2).2.2).length cp6), (53, .slice ao18 z6.length cp18), (4, .slice ao4 s4.1.length cp4), (8, .pointer (some ⟨w6.heap.size, 0, none⟩)), (9, .slice ao8 ((ofStr ((gt p_l s4.2).1)) ++ ([0] : List Int)).length cp8), (22, .slice ao1 p_l.length cp1), (23, .int .i64 ((p_l.length : Nat) : Int)), (24, .int .i64 s4.2)] a := ⟨e_35, e_39, e_43, e_44, e_47, e_49, e_53, hf⟩; clear e_35 e_39 e_43 e_44 e_47 e_49 e_53
              clear hd
              have hs : Sep wf (star F7 w11 wf) noR wf (star F7 w11 wf) [.ro (tI .u8) (.slice ao8 ((ofStr ((gt p_l s4.2).1)) ++ ([0] : List Int)).length cp8) ((ofStr ((gt p_l s4.2).1)) ++ ([0] : List Int)), .ro (tI .u8) (.slice ao6 ((gt p_l s4.2).2.2).length cp6) ((gt p_l s4.2).2.2), .ro ty53 (.slice ao1 p_l.length cp1) p_l] := hs0.fstart hX [0, 2, 4] rfl rfl
              replace hs : Sep wf (star F7 w11 wf) noR wf (star F7 w11 wf) [.ro (tI .u8) (.slice ao10 z2.length cp10) z2, .ro (tI .u8) (.slice ao8 ((ofStr ((gt p_l s4.2).1)) ++ ([0] : List Int)).length cp8) ((ofStr ((gt p_l s4.2).1)) ++ ([0] : List Int)), .ro (tI .u8) (.slice ao6 ((gt p_l s4.2).2.2).length cp6) ((gt p_l s4.2).2.2), .ro ty53 (.slice ao1 p_l.length cp1) p_l] := hs.addStar h_35 0 rfl rfl
              replace hs : Sep wf (star F7 w11 wf) noR wf (star F7 w11 wf) [.ro (tI .u8) (.slice ao12 z3.length cp12) z3, .ro (tI .u8) (.slice ao10 z2.length cp10) z2, .ro (tI .u8) (.slice ao8 ((ofStr ((gt p_l s4.2).1)) ++ ([0] : List Int)).length cp8) ((ofStr ((gt p_l s4.2).1)) ++ ([0] : List Int)), .ro (tI .u8) (.slice ao6 ((gt p_l s4.2).2.2).length cp6) ((gt p_l s4.2).2.2), .ro ty53 (.slice ao1 p_l.length cp1) p_l] := hs.addStar h_39 0 rfl rfl
              replace hs : Sep wf (star F7 w11 wf) noR wf (star F7 w11 wf) [.ro (tI .u8) (.slice ao14 z4.length cp14) z4, .ro (tI .u8) (.slice ao12 z3.length cp12) z3, .ro (tI .u8) (.slice ao10 z2.length cp10) z2, .ro (tI .u8) (.slice ao8 ((ofStr ((gt p_l s4.2).1)) ++ ([0] : List Int)).length cp8) ((ofStr ((gt p_l s4.2).1)) ++ ([0] : List Int)), .ro (tI .u8) (.slice ao6 ((gt p_l s4.2).2.2).length cp6) ((gt p_l s4.2).2.2), .ro ty53 (.slice ao1 p_l.length cp1) p_l] := hs.addStar h_43 0 rfl rfl
              replace hs : Sep wf (star F7 w11 wf) noR wf (star F7 w11 wf) [.ro (tI .u8) (.slice ao16 z5.length cp16) z5, .ro (tI .u8) (.slice ao14 z4.length cp14) z4, .ro (tI .u8) (.slice ao12 z3.length cp12) z3, .ro (tI .u8) (.slice ao10 z2.length cp10) z2, .ro (tI .u8) (.slice ao8 ((ofStr ((gt p_l s4.2).1)) ++ ([0] : List Int)).length cp8) ((ofStr ((gt p_l s4.2).1)) ++ ([0] : List Int)), .ro (tI .u8) (.slice ao6 ((gt p_l s4.2).2.2).length cp6) ((gt p_l s4.2).2.2), .ro ty53 (.slice ao1 p_l.length cp1) p_l] := hs.addStar h_47 0 rfl rfl
              replace hs : Sep wf (star F7 w11 wf) noR wf (star F7 w11 wf) [.ro (tI .u8) (.slice ao18 z6.length cp18) z6, .ro (tI .u8) (.slice ao16 z5.length cp16) z5, .ro (tI .u8) (.slice ao14 z4.length cp14) z4, .ro (tI .u8) (.slice ao12 z3.length cp12) z3, .ro (tI .u8) (.slice ao10 z2.length cp10) z2, .ro (tI .u8) (.slice ao8 ((ofStr ((gt p_l s4.2).1)) ++ ([0] : List Int)).length cp8) ((ofStr ((gt p_l s4.2).1)) ++ ([0] : List Int)), .ro (tI .u8) (.slice ao6 ((gt p_l s4.2).2.2).length cp6) ((gt p_l s4.2).2.2), .ro ty53 (.slice ao1 p_l.length cp1) p_l] := hs.addStar h_53 0 rfl rfl
              clear h_35
              clear h_39
              clear h_43
              clear h_47
              clear h_53
              refine bsR tbOk u64 i22 rfl (t := (tSl (tI .u8))) (vs := [(0, .slice ao10 z2.length cp10), (1, .slice ao12 z3.length cp12), (2, .slice ao14 z4.length cp14), (3, .slice ao8 ((ofStr ((gt p_l s4.2).1)) ++ ([0] : List Int)).length cp8), (4, .slice ao16 z5.length cp16), (5, .slice ao6 ((gt p_l s4.2).2.2).length cp6), (6, .slice ao18 z6.length cp18)]) (cells := #[.slice ao10 z2.length cp10, .slice ao12 z3.length cp12, .slice ao14 z4.length cp14, .slice ao8 ((ofStr ((gt p_l s4.2).1)) ++ ([0] : List Int)).length cp8, .slice ao16 z5.length cp16, .slice ao6 ((gt p_l s4.2).2.2).length cp6, .slice ao18 z6.length cp18]) ([z2, z3, z4, ((ofStr ((gt p_l s4.2).1)) ++ ([0] : List Int)), z5, (gt p_l s4.2).2.2, z6] : List (List Int)) hs.le hf (by kernel_rfl) (by kernel_rfl) (by kernel_rfl) rfl (by kernel_rfl) ⟨_, _, rfl, ⟨ao10, cp10, rfl, hs.ro 4 rfl⟩, ⟨_, _, rfl, ⟨ao12, cp12, rfl, hs.ro 3 rfl⟩, ⟨_, _, rfl, ⟨ao14, cp14, rfl, hs.ro 2 rfl⟩, ⟨_, _, rfl, ⟨ao8, cp8, rfl, hs.ro 5 rfl⟩, ⟨_, _, rfl, ⟨ao16, cp16, rfl, hs.ro 1 rfl⟩, ⟨_, _, rfl, ⟨ao6, cp6, rfl, hs.ro 6 rfl⟩, ⟨_, _, rfl, ⟨ao18, cp18, rfl, hs.ro 0 rfl⟩, rfl⟩⟩⟩⟩⟩⟩⟩ rfl ?_
              clear hf; clear a; intro w17 a ho hx hf
              replace hs : Sep wf (star F7 w11 wf) noR w17 (star F7 w11 wf) [.row 22 (tSl (tI .u8)) (.slice (some ⟨wf.heap.size, 0, none⟩) ([z2, z3, z4, ((ofStr ((gt p_l s4.2).1)) ++ ([0] : List Int)), z5, (gt p_l s4.2).2.2, z6] : List (List Int)).length ([z2, z3, z4, ((ofStr ((gt p_l s4.2).1)) ++ ([0] : List Int)), z5, (gt p_l s4.2).2.2, z6] : List (List Int)).length) ([z2, z3, z4, ((ofStr ((gt p_l s4.2).1)) ++ ([0] : List Int)), z5, (gt p_l s4.2).2.2, z6] : List (List Int)), .ro (tI .u8) (.slice ao18 z6.length cp18) z6, .ro (tI .u8) (.slice ao16 z5.length cp16) z5, .ro (tI .u8) (.slice ao14 z4.length cp14) z4, .ro (tI .u8) (.slice ao12 z3.length cp12) z3, .ro (tI .u8) (.slice ao10 z2.length cp10) z2, .ro (tI .u8) (.slice ao8 ((ofStr ((gt p_l s4.2).1)) ++ ([0] : List Int)).length cp8) ((ofStr ((gt p_l s4.2).1)) ++ ([0] : List Int)), .ro (tI .u8) (.slice ao6 ((gt p_l s4.2).2.2).length cp6) ((gt p_l s4.2).2.2), .ro ty53 (.slice ao1 p_l.length cp1) p_l] := hs.newRow ho hx
              clear ho hx
              exact fq_ok (d := 54) rfl hf (hs.ex fun _ h => h) ⟨(some ⟨wf.heap.size, 0, none⟩), ([z2, z3, z4, ((ofStr ((gt p_l s4.2).1)) ++ ([0] : List Int)), z5, (gt p_l s4.2).2.2, z6] : List (List Int)).length, _, hf.1, (hs.sel [0] rfl rfl).rebase hX⟩
            · intro a wf hX hf hd
              obtain ⟨ao19, cp19, F_54, e_54, h_54⟩ : ∃ (ao19 : Option Addr) (cp19 : Nat) (F' : SH), a.tmps.getD 54 undef = .slice ao19 ([z2, z3, z4, ((ofStr ((gt p_l s4.2).1)) ++ ([0] : List Int)), z5, (gt p_l s4.2).2.2, z6] : List (List Int)).length cp19 ∧ Sep w11 F7 noR wf F' [.row 22 (tSl (tI .u8)) (.slice ao19 ([z2, z3, z4, ((ofStr ((gt p_l s4.2).1)) ++ ([0] : List Int)), z5, (gt p_l s4.2).2.2, z6] : List (List Int)).length cp19) ([z2, z3, z4, ((ofStr ((gt p_l s4.2).1)) ++ ([0] : List Int)), z5, (gt p_l s4.2).2.2, z6] : List (List Int))] := hd 21 54 (by kernel_rfl) (by kernel_rfl)
              replace hf : Fr 69 [(54, .slice ao19 ([z2, z3, z4, ((ofStr ((gt p_l s4.2).1)) ++ ([0] : List Int)), z5, (gt p_l s4.2).2.2, z6] : List (List Int)).length cp19), (4, .slice ao4 s4.1.length cp4), (8, .pointer (some ⟨w6.heap.size, 0, none⟩)), (9, .slice ao8 ((ofStr ((gt p_l s4.2).1)) ++ ([0] : List Int)).length cp8), (22, .slice ao1 p_l.length cp1), (23, .int .i64 ((p_l.length : Nat) : Int)), (24, .int .i64 s4.2)] a := ⟨e_54, hf⟩; clear e_54
              clear hd
              have hs : Sep wf (star F7 w11 wf) noR wf (star F7 w11 wf) [.ro (tI .u8) (.slice ao8 ((ofStr ((gt p_l s4.2).1)) ++ ([0] : List Int)).length cp8) ((ofStr ((gt p_l s4.2).1)) ++ ([0] : List Int)), .ro (tI .u8) (.slice ao6 ((gt p_l s4.2).2.2).length cp6) ((gt p_l s4.2).2.2), .ro ty53 (.slice ao1 p_l.length cp1) p_l] := hs0.fstart hX [0, 2, 4] rfl rfl
              replace hs : Sep wf (star F7 w11 wf) noR wf (star F7 w11 wf) [.ro (tSl (tI .u8)) (.slice ao19 ([z2, z3, z4, ((ofStr ((gt p_l s4.2).1)) ++ ([0] : List Int)), z5, (gt p_l s4.2).2.2, z6] : List (List Int)).length cp19) ([z2, z3, z4, ((ofStr ((gt p_l s4.2).1)) ++ ([0] : List Int)), z5, (gt p_l s4.2).2.2, z6] : List (List Int)), .ro (tI .u8) (.slice ao8 ((ofStr ((gt p_l s4.2).1)) ++ ([0] : List Int)).length cp8) ((ofStr ((gt p_l s4.2).1)) ++ ([0] : List Int)), .ro (tI .u8) (.slice ao6 ((gt p_l s4.2).2.2).length cp6) ((gt p_l s4.2).2.2), .ro ty53 (.slice ao1 p_l.length cp1) p_l] := hs.addStar h_54 0 rfl rfl
              clear h_54
              refine st tbOk 1 [55] (L' := [(55, .int .i64 ((([z2, z3, z4, ((ofStr ((gt p_l s4.2).1)) ++ ([0] : List Int)), z5, (gt p_l s4.2).2.2, z6] : List (List Int)).length : Nat) : Int))]) hf (by kernel_rfl) ?_
              clear hf; clear a; intro a hf
              exact fq_ok (d := 55) rfl hf (hs.ex fun _ h => h) hf.1
            · intro a wf hX hf hd
              clear hd
              have hs : Sep wf (star F7 w11 wf) noR wf (star F7 w11 wf) [.ro (tI .u8) (.slice ao8 ((ofStr ((gt p_l s4.2).1)) ++ ([0] : List Int)).length cp8) ((ofStr ((gt p_l s4.2).1)) ++ ([0] : List Int)), .ro (tI .u8) (.slice ao6 ((gt p_l s4.2).2.2).length cp6) ((gt p_l s4.2).2.2), .ro ty53 (.slice ao1 p_l.length cp1) p_l] := hs0.fstart hX [0, 2, 4] rfl rfl
              refine st tbOk 1 [56] (L' := [(56, .int .i64 0)]) hf (by kernel_rfl) ?_
              clear hf; clear a; intro a hf
              exact fq_ok (d := 56) rfl hf (hs.ex fun _ h => h) hf.1
          · clear hf hs; clear a; intro a w18 hx hf hd
            have hs : Sep w F R w18 (star F7 w11 w18) [.ro (tI .u8) (.slice ao8 ((ofStr ((gt p_l s4.2).1)) ++ ([0] : List Int)).length cp8) ((ofStr ((gt p_l s4.2).1)) ++ ([0] : List Int)), .box w6.heap.size 54 [strV ((gt p_l s4.2).1), .int .u32 ((gt p_l s4.2).2.1), .slice ao6 ((gt p_l s4.2).2.2).length cp6], .ro (tI .u8) (.slice ao6 ((gt p_l s4.2).2.2).length cp6) ((gt p_l s4.2).2.2), .row 5 (tI .u8) (.slice ao4 s4.1.length cp4) s4.1, .ro ty53 (.slice ao1 p_l.length cp1) p_l] := hs0.starX hx
            obtain ⟨ao19, cp19, F_54, e_54, h_54⟩ : ∃ (ao19 : Option Addr) (cp19 : Nat) (F' : SH), a.tmps.getD 54 undef = .slice ao19 ([z2, z3, z4, ((ofStr ((gt p_l s4.2).1)) ++ ([0] : List Int)), z5, (gt p_l s4.2).2.2, z6] : List (List Int)).length cp19 ∧ Sep w11 F7 noR w18 F' [.row 22 (tSl (tI .u8)) (.slice ao19 ([z2, z3, z4, ((ofStr ((gt p_l s4.2).1)) ++ ([0] : List Int)), z5, (gt p_l s4.2).2.2, z6] : List (List Int)).length cp19) ([z2, z3, z4, ((ofStr ((gt p_l s4.2).1)) ++ ([0] : List Int)), z5, (gt p_l s4.2).2.2, z6] : List (List Int))] := hd 21 54 (by kernel_rfl) (by kernel_rfl)
            have e_55 : a.tmps.getD 55 undef = .int .i64 ((([z2, z3, z4, ((ofStr ((gt p_l s4.2).1)) ++ ([0] : List Int)), z5, (gt p_l s4.2).2.2, z6] : List (List Int)).length : Nat) : Int) := hd 22 55 (by kernel_rfl) (by kernel_rfl)
            have e_56 : a.tmps.getD 56 undef = .int .i64 0 := hd 23 56 (by kernel_rfl) (by kernel_rfl)
            clear hd hx
            replace hs : Sep w F R w18 (star F7 w11 w18) [.ro (tSl (tI .u8)) (.slice ao19 ([z2, z3, z4, ((ofStr ((gt p_l s4.2).1)) ++ ([0] : List Int)), z5, (gt p_l s4.2).2.2, z6] : List (List Int)).length cp19) ([z2, z3, z4, ((ofStr ((gt p_l s4.2).1)) ++ ([0] : List Int)), z5, (gt p_l s4.2).2.2, z6] : List (List Int)), .ro (tI .u8) (.slice ao8 ((ofStr ((gt p_l s4.2).1)) ++ ([0] : List Int)).length cp8) ((ofStr ((gt p_l s4.2).1)) ++ ([0] : List Int)), .box w6.heap.size 54 [strV ((gt p_l s4.2).1), .int .u32 ((gt p_l s4.2).2.1), .slice ao6 ((gt p_l s4.2).2.2).length cp6], .ro (tI .u8) (.slice ao6 ((gt p_l s4.2).2.2).length cp6) ((gt p_l s4.2).2.2), .row 5 (tI .u8) (.slice ao4 s4.1.length cp4) s4.1, .ro ty53 (.slice ao1 p_l.length cp1) p_l] := hs.addStar h_54 0 rfl rfl
            clear h_54
            clear hs0
            replace hf : Fr 69 [(54, .slice ao19 ([z2, z3, z4, ((ofStr ((gt p_l s4.2).1)) ++ ([0] : List Int)), z5, (gt p_l s4.2).2.2, z6] : List (List Int)).length cp19), (55, .int .i64 ((([z2, z3, z4, ((ofStr ((gt p_l s4.2).1)) ++ ([0] : List Int)), z5, (gt p_l s4.2).2.2, z6] : List (List Int)).length : Nat) : Int)), (56, .int .i64 0), (4, .slice ao4 s4.1.length cp4), (8, .pointer (some ⟨w6.heap.size, 0, none⟩)), (9, .slice ao8 ((ofStr ((gt p_l s4.2).1)) ++ ([0] : List Int)).length cp8), (22, .slice ao1 p_l.length cp1), (23, .int .i64 ((p_l.length : Nat) : Int)), (24, .int .i64 s4.2)] a := ⟨e_54, e_55, e_56, hf⟩
            clear e_54 e_55 e_56
            replace hs : Sep w F R w18 (star F7 w11 w18) [.ro (tSl (tI .u8)) (.slice ao19 ([z2, z3, z4, ((ofStr ((gt p_l s4.2).1)) ++ ([0] : List Int)), z5, (gt p_l s4.2).2.2, z6] : List (List Int)).length cp19) ([z2, z3, z4, ((ofStr ((gt p_l s4.2).1)) ++ ([0] : List Int)), z5, (gt p_l s4.2).2.2, z6] : List (List Int)), .row 5 (tI .u8) (.slice ao4 s4.1.length cp4) s4.1, .ro ty53 (.slice ao1 p_l.length cp1) p_l] := hs.sel [0, 4, 5] rfl rfl
            replace hf := Fr.keep (ks := [4, 22, 23, 24, 54, 55, 56]) (L' := [(4, .slice ao4 s4.1.length cp4), (22, .slice ao1 p_l.length cp1), (23, .int .i64 ((p_l.length : Nat) : Int)), (24, .int .i64 s4.2), (54, .slice ao19 ([z2, z3, z4, ((ofStr ((gt p_l s4.2).1)) ++ ([0] : List Int)), z5, (gt p_l s4.2).2.2, z6] : List (List Int)).length cp19), (55, .int .i64 ((([z2, z3, z4, ((ofStr ((gt p_l s4.2).1)) ++ ([0] : List Int)), z5, (gt p_l s4.2).2.2, z6] : List (List Int)).length : Nat) : Int)), (56, .int .i64 0)]) hf (by kernel_rfl)
            refine wpList_nil ?_
            refine ctj (fun (s6 : List Int) (a : Act) (w' : World) => ∃ (ao20 : Option Addr) (cp20 : Nat) (F13 : SH), Sep w F R w' F13 [.row 5 (tI .u8) (.slice ao20 s6.length cp20) s6, .ro ty53 (.slice ao1 p_l.length cp1) p_l] ∧ Fr 69 [(4, .slice ao20 s6.length cp20), (22, .slice ao1 p_l.length cp1), (23, .int .i64 ((p_l.length : Nat) : Int)), (24, .int .i64 s4.2)] a) hS ?_ ?_
            · clear hS hf hs; clear a; intro s6 a w21 hM hS
              obtain ⟨ao20, cp20, F13, hs, hf⟩ := hM
              refine sq ?_
              refine reg ?_
              refine st tbOk 3 [4, 22, 23, 24, 66] (L' := [(4, .slice ao20 s6.length cp20), (22, .slice ao1 p_l.length cp1), (23, .int .i64 ((p_l.length : Nat) : Int)), (24, .int .i64 s4.2), (66, .bool (decide (((s6.length : Nat) : Int) > 65536)))]) hf (by kernel_rfl) ?_
              clear hf; clear a; intro a hf
              refine wpList_nil ?_
              refine cnd (b := decide (((s6.length : Nat) : Int) > 65536)) hf (by kernel_rfl) (fun hb5 => ?_) (fun hb5 => ?_)
              · replace hS := of_t hb5 hS
                refine sq ?_
                refine reg ?_
                refine st tbOk 2 [2, 3] (L' := [(2, .slice none 0 0), (3, .int .i64 13)]) hf (by kernel_rfl) ?_
                clear hf; clear a; intro a hf
                refine wpList_nil ?_
                have hr := Option.some.inj hS; subst hr
                refine wp_ret ?_
                replace hs : Sep w F R w21 F13 [.row 5 (tI .u8) (.slice none 0 0) ([] : List Int), .row 5 (tI .u8) (.slice ao20 s6.length cp20) s6, .ro ty53 (.slice ao1 p_l.length cp1) p_l] := hs.addNil 5 (tI .u8)
                exact ret_ok hf (vs := [.slice none 0 0, .int .i64 13]) (by kernel_rfl) ⟨none, 0, _, rfl, hs.sel [0] rfl rfl⟩
              · replace hS := of_f hb5 hS
                refine wp_skip ?_
                exact hK5 s6 _ _ ⟨ao20, cp20, _, hs.sel [0, 1] rfl rfl, hf.keep (ks := [4, 22, 23, 24]) (by kernel_rfl)⟩ hS
            · clear hS; intro KK6 k4 hK6 hS
              refine blk ?_
              refine lp (st := (s4.1, 0)) (fun (s7 : (List Int) × Int) (a : Act) (w' : World) => ∃ (ao21 : Option Addr) (cp21 : Nat) (F14 : SH), Sep w F R w' F14 [.row 5 (tI .u8) (.slice ao21 s7.1.length cp21) s7.1, .ro (tSl (tI .u8)) (.slice ao19 ([z2, z3, z4, ((ofStr ((gt p_l s4.2).1)) ++ ([0] : List Int)), z5, (gt p_l s4.2).2.2, z6] : List (List Int)).length cp19) ([z2, z3, z4, ((ofStr ((gt p_l s4.2).1)) ++ ([0] : List Int)), z5, (gt p_l s4.2).2.2, z6] : List (List Int)), .ro ty53 (.slice ao1 p_l.length cp1) p_l] ∧ Fr 69 [(4, .slice ao21 s7.1.length cp21), (22, .slice ao1 p_l.length cp1), (23, .int .i64 ((p_l.length : Nat) : Int)), (24, .int .i64 s4.2), (54, .slice ao19 ([z2, z3, z4, ((ofStr ((gt p_l s4.2).1)) ++ ([0] : List Int)), z5, (gt p_l s4.2).2.2, z6] : List (List Int)).length cp19), (55, .int .i64 ((([z2, z3, z4, ((ofStr ((gt p_l s4.2).1)) ++ ([0] : List Int)), z5, (gt p_l s4.2).2.2, z6] : List (List Int)).length : Nat) : Int)), (56, .int .i64 s7.2)] a) ?_ ⟨ao4, cp4, _, hs.sel [1, 0, 2] rfl rfl, hf.keep (ks := [4, 22, 23, 24, 54, 55, 56]) (by kernel_rfl)⟩ hS
              clear hS hf hs; clear a
              intro rec3 KK7 hK7 s7 a w19 hM hS
              obtain ⟨ao21, cp21, F14, hs, hf⟩ := hM
              refine sq ?_
              refine reg ?_
              refine st tbOk 1 [4, 22, 23, 24, 54, 55, 56, 57] (L' := [(4, .slice ao21 s7.1.length cp21), (22, .slice ao1 p_l.length cp1), (23, .int .i64 ((p_l.length : Nat) : Int)), (24, .int .i64 s4.2), (54, .slice ao19 ([z2, z3, z4, ((ofStr ((gt p_l s4.2).1)) ++ ([0] : List Int)), z5, (gt p_l s4.2).2.2, z6] : List (List Int)).length cp19), (55, .int .i64 ((([z2, z3, z4, ((ofStr ((gt p_l s4.2).1)) ++ ([0] : List Int)), z5, (gt p_l s4.2).2.2, z6] : List (List Int)).length : Nat) : Int)), (56, .int .i64 s7.2), (57, .bool (decide (s7.2 < ((([z2, z3, z4, ((ofStr ((gt p_l s4.2).1)) ++ ([0] : List Int)), z5, (gt p_l s4.2).2.2, z6] : List (List Int)).length : Nat) : Int))))]) hf (by kernel_rfl) ?_
              clear hf; clear a; intro a hf
              refine wpList_nil ?_
              refine sq ?_
              refine cnd (b := decide (s7.2 < ((([z2, z3, z4, ((ofStr ((gt p_l s4.2).1)) ++ ([0] : List Int)), z5, (gt p_l s4.2).2.2, z6] : List (List Int)).length : Nat) : Int))) hf (by kernel_rfl) (fun hb4 => ?_) (fun hb4 => ?_)
              · replace hS := of_t hb4 hS
                refine wp_skip ?_
                refine sq ?_
                refine blk ?_
                refine sq ?_
                refine reg ?_
                have hT := of_gd hS; clear hS; obtain ⟨hc5, hS⟩ := hT
                refine ixR tbOk u64 i22 rfl rfl ((hs.ro 1 rfl).ra (LeH.refl _)) (k := .i64) (n := s7.2) hc5 hf (by kernel_rfl) (by kernel_rfl) (by kernel_rfl) (by kernel_rfl) ?_
                clear hf; clear a; intro pb3 po3 c3 a hp3 hr5 hf
                obtain ⟨ao22, cp22, rfl, hr6⟩ := hr5
                replace hs : Sep w F R w19 F14 [.ro (tI .u8) (.slice ao22 (gt ([z2, z3, z4, ((ofStr ((gt p_l s4.2).1)) ++ ([0] : List Int)), z5, (gt p_l s4.2).2.2, z6] : List (List Int)) s7.2).length cp22) (gt ([z2, z3, z4, ((ofStr ((gt p_l s4.2).1)) ++ ([0] : List Int)), z5, (gt p_l s4.2).2.2, z6] : List (List Int)) s7.2), .row 5 (tI .u8) (.slice ao21 s7.1.length cp21) s7.1, .ro (tSl (tI .u8)) (.slice ao19 ([z2, z3, z4, ((ofStr ((gt p_l s4.2).1)) ++ ([0] : List Int)), z5, (gt p_l s4.2).2.2, z6] : List (List Int)).length cp19) ([z2, z3, z4, ((ofStr ((gt p_l s4.2).1)) ++ ([0] : List Int)), z5, (gt p_l s4.2).2.2, z6] : List (List Int)), .ro ty53 (.slice ao1 p_l.length cp1) p_l] := hs.addRo hr6
                replace hs : Sep w F R w19 F14 [.cel pb3 po3 [.slice ao22 (gt ([z2, z3, z4, ((ofStr ((gt p_l s4.2).1)) ++ ([0] : List Int)), z5, (gt p_l s4.2).2.2, z6] : List (List Int)) s7.2).length cp22], .ro (tI .u8) (.slice ao22 (gt ([z2, z3, z4, ((ofStr ((gt p_l s4.2).1)) ++ ([0] : List Int)), z5, (gt p_l s4.2).2.2, z6] : List (List Int)) s7.2).length cp22) (gt ([z2, z3, z4, ((ofStr ((gt p_l s4.2).1)) ++ ([0] : List Int)), z5, (gt p_l s4.2).2.2, z6] : List (List Int)) s7.2), .row 5 (tI .u8) (.slice ao21 s7.1.length cp21) s7.1, .ro (tSl (tI .u8)) (.slice ao19 ([z2, z3, z4, ((ofStr ((gt p_l s4.2).1)) ++ ([0] : List Int)), z5, (gt p_l s4.2).2.2, z6] : List (List Int)).length cp19) ([z2, z3, z4, ((ofStr ((gt p_l s4.2).1)) ++ ([0] : List Int)), z5, (gt p_l s4.2).2.2, z6] : List (List Int)), .ro ty53 (.slice ao1 p_l.length cp1) p_l] := hs.addCel hp3
                replace hf := Fr.keep (ks := [4, 22, 23, 24, 54, 55, 56, 58]) (L' := [(4, .slice ao21 s7.1.length cp21), (22, .slice ao1 p_l.length cp1), (23, .int .i64 ((p_l.length : Nat) : Int)), (24, .int .i64 s4.2), (54, .slice ao19 ([z2, z3, z4, ((ofStr ((gt p_l s4.2).1)) ++ ([0] : List Int)), z5, (gt p_l s4.2).2.2, z6] : List (List Int)).length cp19), (55, .int .i64 ((([z2, z3, z4, ((ofStr ((gt p_l s4.2).1)) ++ ([0] : List Int)), z5, (gt p_l s4.2).2.2, z6] : List (List Int)).length : Nat) : Int)), (56, .int .i64 s7.2), (58, .pointer (some ⟨pb3, po3, none⟩))]) hf (by kernel_rfl)
                refine ldC tbOk (T := 22) (hs.ccel 0 rfl) (LeH.refl _) 0 (.slice ao22 (gt ([z2, z3, z4, ((ofStr ((gt p_l s4.2).1)) ++ ([0] : List Int)), z5, (gt p_l s4.2).2.2, z6] : List (List Int)) s7.2).length cp22) hf (by kernel_rfl) (by kernel_rfl) (by kernel_rfl) (by kernel_rfl) ?_
                clear hf; clear a; intro a hf
                replace hs : Sep w F R w19 F14 [.ro (tI .u8) (.slice ao22 (gt ([z2, z3, z4, ((ofStr ((gt p_l s4.2).1)) ++ ([0] : List Int)), z5, (gt p_l s4.2).2.2, z6] : List (List Int)) s7.2).length cp22) (gt ([z2, z3, z4, ((ofStr ((gt p_l s4.2).1)) ++ ([0] : List Int)), z5, (gt p_l s4.2).2.2, z6] : List (List Int)) s7.2), .row 5 (tI .u8) (.slice ao21 s7.1.length cp21) s7.1, .ro (tSl (tI .u8)) (.slice ao19 ([z2, z3, z4, ((ofStr ((gt p_l s4.2).1)) ++ ([0] : List Int)), z5, (gt p_l s4.2).2.2, z6] : List (List Int)).length cp19) ([z2, z3, z4, ((ofStr ((gt p_l s4.2).1)) ++ ([0] : List Int)), z5, (gt p_l s4.2).2.2, z6] : List (List Int)), .ro ty53 (.slice ao1 p_l.length cp1) p_l] := hs.sel [1, 2, 3, 4] rfl rfl
                replace hf := Fr.keep (ks := [4, 22, 23, 24, 54, 55, 56, 59]) (L' := [(4, .slice ao21 s7.1.length cp21), (22, .slice ao1 p_l.length cp1), (23, .int .i64 ((p_l.length : Nat) : Int)), (24, .int .i64 s4.2), (54, .slice ao19 ([z2, z3, z4, ((ofStr ((gt p_l s4.2).1)) ++ ([0] : List Int)), z5, (gt p_l s4.2).2.2, z6] : List (List Int)).length cp19), (55, .int .i64 ((([z2, z3, z4, ((ofStr ((gt p_l s4.2).1)) ++ ([0] : List Int)), z5, (gt p_l s4.2).2.2, z6] : List (List Int)).length : Nat) : Int)), (56, .int .i64 s7.2), (59, .slice ao22 (gt ([z2, z3, z4, ((ofStr ((gt p_l s4.2).1)) ++ ([0] : List Int)), z5, (gt p_l s4.2).2.2, z6] : List (List Int)) s7.2).length cp22)]) hf (by kernel_rfl)
                refine st tbOk 1 [4, 11, 22, 23, 24, 54, 55, 56] (L' := [(4, .slice ao21 s7.1.length cp21), (11, .slice ao22 (gt ([z2, z3, z4, ((ofStr ((gt p_l s4.2).1)) ++ ([0] : List Int)), z5, (gt p_l s4.2).2.2, z6] : List (List Int)) s7.2).length cp22), (22, .slice ao1 p_l.length cp1), (23, .int .i64 ((p_l.length : Nat) : Int)), (24, .int .i64 s4.2), (54, .slice ao19 ([z2, z3, z4, ((ofStr ((gt p_l s4.2).1)) ++ ([0] : List Int)), z5, (gt p_l s4.2).2.2, z6] : List (List Int)).length cp19), (55, .int .i64 ((([z2, z3, z4, ((ofStr ((gt p_l s4.2).1)) ++ ([0] : List Int)), z5, (gt p_l s4.2).2.2, z6] : List (List Int)).length : Nat) : Int)), (56, .int .i64 s7.2)]) hf (by kernel_rfl) ?_
                clear hf; clear a; intro a hf
                refine wpList_nil ?_
                refine reg ?_
                refine st tbOk 2 [22, 23, 24, 54, 55, 56, 60, 61] (L' := [(22, .slice ao1 p_l.length cp1), (23, .int .i64 ((p_l.length : Nat) : Int)), (24, .int .i64 s4.2), (54, .slice ao19 ([z2, z3, z4, ((ofStr ((gt p_l s4.2).1)) ++ ([0] : List Int)), z5, (gt p_l s4.2).2.2, z6] : List (List Int)).length cp19), (55, .int .i64 ((([z2, z3, z4, ((ofStr ((gt p_l s4.2).1)) ++ ([0] : List Int)), z5, (gt p_l s4.2).2.2, z6] : List (List Int)).length : Nat) : Int)), (56, .int .i64 s7.2), (60, .slice ao21 s7.1.length cp21), (61, .slice ao22 (gt ([z2, z3, z4, ((ofStr ((gt p_l s4.2).1)) ++ ([0] : List Int)), z5, (gt p_l s4.2).2.2, z6] : List (List Int)) s7.2).length cp22)]) hf (by kernel_rfl) ?_
                clear hf; clear a; intro a hf
                have hT := of_gd hS; clear hS; obtain ⟨hc6, hS⟩ := hT
                refine apR tbOk u22 i5 rfl rfl rfl rfl hs.le (hs.own 1 rfl) (hs.raR 0 rfl) hc6 hf (by kernel_rfl) (by kernel_rfl) (by kernel_rfl) (by kernel_rfl) ?_
                clear hf; clear a; intro ao23 cp23 w20 a ho hg hl hf
                replace hs : Sep w F R w20 F14 [.ro (tI .u8) (.slice ao22 (gt ([z2, z3, z4, ((ofStr ((gt p_l s4.2).1)) ++ ([0] : List Int)), z5, (gt p_l s4.2).2.2, z6] : List (List Int)) s7.2).length cp22) (gt ([z2, z3, z4, ((ofStr ((gt p_l s4.2).1)) ++ ([0] : List Int)), z5, (gt p_l s4.2).2.2, z6] : List (List Int)) s7.2), .row 5 (tI .u8) (.slice ao23 (s7.1 ++ (gt ([z2, z3, z4, ((ofStr ((gt p_l s4.2).1)) ++ ([0] : List Int)), z5, (gt p_l s4.2).2.2, z6] : List (List Int)) s7.2)).length cp23) (s7.1 ++ (gt ([z2, z3, z4, ((ofStr ((gt p_l s4.2).1)) ++ ([0] : List Int)), z5, (gt p_l s4.2).2.2, z6] : List (List Int)) s7.2)), .ro (tSl (tI .u8)) (.slice ao19 ([z2, z3, z4, ((ofStr ((gt p_l s4.2).1)) ++ ([0] : List Int)), z5, (gt p_l s4.2).2.2, z6] : List (List Int)).length cp19) ([z2, z3, z4, ((ofStr ((gt p_l s4.2).1)) ++ ([0] : List Int)), z5, (gt p_l s4.2).2.2, z6] : List (List Int)), .ro ty53 (.slice ao1 p_l.length cp1) p_l] := hs.updRow 1 rfl ho hg hl
                clear ho hg hl
                replace hs : Sep w F R w20 F14 [.row 5 (tI .u8) (.slice ao23 (s7.1 ++ (gt ([z2, z3, z4, ((ofStr ((gt p_l s4.2).1)) ++ ([0] : List Int)), z5, (gt p_l s4.2).2.2, z6] : List (List Int)) s7.2)).length cp23) (s7.1 ++ (gt ([z2, z3, z4, ((ofStr ((gt p_l s4.2).1)) ++ ([0] : List Int)), z5, (gt p_l s4.2).2.2, z6] : List (List Int)) s7.2)), .ro (tSl (tI .u8)) (.slice ao19 ([z2, z3, z4, ((ofStr ((gt p_l s4.2).1)) ++ ([0] : List Int)), z5, (gt p_l s4.2).2.2, z6] : List (List Int)).length cp19) ([z2, z3, z4, ((ofStr ((gt p_l s4.2).1)) ++ ([0] : List Int)), z5, (gt p_l s4.2).2.2, z6] : List (List Int)), .ro ty53 (.slice ao1 p_l.length cp1) p_l] := hs.sel [1, 2, 3] rfl rfl
                replace hf := Fr.keep (ks := [22, 23, 24, 54, 55, 56, 62]) (L' := [(22, .slice ao1 p_l.length cp1), (23, .int .i64 ((p_l.length : Nat) : Int)), (24, .int .i64 s4.2), (54, .slice ao19 ([z2, z3, z4, ((ofStr ((gt p_l s4.2).1)) ++ ([0] : List Int)), z5, (gt p_l s4.2).2.2, z6] : List (List Int)).length cp19), (55, .int .i64 ((([z2, z3, z4, ((ofStr ((gt p_l s4.2).1)) ++ ([0] : List Int)), z5, (gt p_l s4.2).2.2, z6] : List (List Int)).length : Nat) : Int)), (56, .int .i64 s7.2), (62, .slice ao23 (s7.1 ++ (gt ([z2, z3, z4, ((ofStr ((gt p_l s4.2).1)) ++ ([0] : List Int)), z5, (gt p_l s4.2).2.2, z6] : List (List Int)) s7.2)).length cp23)]) hf (by kernel_rfl)
                refine st tbOk 1 [4, 22, 23, 24, 54, 55, 56] (L' := [(4, .slice ao23 (s7.1 ++ (gt ([z2, z3, z4, ((ofStr ((gt p_l s4.2).1)) ++ ([0] : List Int)), z5, (gt p_l s4.2).2.2, z6] : List (List Int)) s7.2)).length cp23), (22, .slice ao1 p_l.length cp1), (23, .int .i64 ((p_l.length : Nat) : Int)), (24, .int .i64 s4.2), (54, .slice ao19 ([z2, z3, z4, ((ofStr ((gt p_l s4.2).1)) ++ ([0] : List Int)), z5, (gt p_l s4.2).2.2, z6] : List (List Int)).length cp19), (55, .int .i64 ((([z2, z3, z4, ((ofStr ((gt p_l s4.2).1)) ++ ([0] : List Int)), z5, (gt p_l s4.2).2.2, z6] : List (List Int)).length : Nat) : Int)), (56, .int .i64 s7.2)]) hf (by kernel_rfl) ?_
                clear hf; clear a; intro a hf
                refine wpList_nil ?_
                refine reg ?_
                refine st tbOk 2 [4, 22, 23, 24, 54, 55, 56] (L' := [(4, .slice ao23 (s7.1 ++ (gt ([z2, z3, z4, ((ofStr ((gt p_l s4.2).1)) ++ ([0] : List Int)), z5, (gt p_l s4.2).2.2, z6] : List (List Int)) s7.2)).length cp23), (22, .slice ao1 p_l.length cp1), (23, .int .i64 ((p_l.length : Nat) : Int)), (24, .int .i64 s4.2), (54, .slice ao19 ([z2, z3, z4, ((ofStr ((gt p_l s4.2).1)) ++ ([0] : List Int)), z5, (gt p_l s4.2).2.2, z6] : List (List Int)).length cp19), (55, .int .i64 ((([z2, z3, z4, ((ofStr ((gt p_l s4.2).1)) ++ ([0] : List Int)), z5, (gt p_l s4.2).2.2, z6] : List (List Int)).length : Nat) : Int)), (56, .int .i64 (IntKind.i64.wrap (s7.2 + 1)))]) hf (by kernel_rfl) ?_
                clear hf; clear a; intro a hf
                refine wpList_nil ?_
                exact hK7 ((s7.1 ++ (gt ([z2, z3, z4, ((ofStr ((gt p_l s4.2).1)) ++ ([0] : List Int)), z5, (gt p_l s4.2).2.2, z6] : List (List Int)) s7.2)), IntKind.i64.wrap (s7.2 + 1)) _ _ ⟨ao23, cp23, _, hs.sel [0, 1, 2] rfl rfl, hf.keep (ks := [4, 22, 23, 24, 54, 55, 56]) (by kernel_rfl)⟩ hS
              · replace hS := of_f hb4 hS
                refine wp_exit ?_
                exact hK6 s7.1 _ _ ⟨ao21, cp21, _, hs.sel [0, 2] rfl rfl, hf.keep (ks := [4, 22, 23, 24]) (by kernel_rfl)⟩ hS
      · replace hS := of_f hb3 hS
        refine wp_exit ?_
        exact hK3 s4.1 _ _ ⟨ao4, cp4, _, hs.sel [0] rfl rfl, hf.keep (ks := [4]) (by kernel_rfl)⟩ hS
  · clear hS; intro KK1 k1 hK1 hS
    refine blk ?_
    refine lp (st := 0) (fun (s2 : Int) (a : Act) (w' : World) => ∃ (F2 : SH), Sep w F R w' F2 [.ro ty53 (.slice ao1 p_l.length cp1) p_l] ∧ Fr 69 [(0, .slice ao1 p_l.length cp1), (4, .slice none 0 0), (12, .slice ao1 p_l.length cp1), (13, .int .i64 ((p_l.length : Nat) : Int)), (14, .int .i64 s2)] a) ?_ ⟨_, hs.sel [0] rfl rfl, hf.keep (ks := [0, 4, 12, 13, 14]) (by kernel_rfl)⟩ hS
    clear hS hf hs; clear a
    intro rec1 KK2 hK2 s2 a w1 hM hS
    obtain ⟨F2, hs, hf⟩ := hM
    refine sq ?_
    refine reg ?_
    refine st tbOk 1 [0, 4, 12, 13, 14, 15] (L' := [(0, .slice ao1 p_l.length cp1), (4, .slice none 0 0), (12, .slice ao1 p_l.length cp1), (13, .int .i64 ((p_l.length : Nat) : Int)), (14, .int .i64 s2), (15, .bool (decide (s2 < ((p_l.length : Nat) : Int))))]) hf (by kernel_rfl) ?_
    clear hf; clear a; intro a hf
    refine wpList_nil ?_
    refine sq ?_
    refine cnd (b := decide (s2 < ((p_l.length : Nat) : Int))) hf (by kernel_rfl) (fun hb1 => ?_) (fun hb1 => ?_)
    · replace hS := of_t hb1 hS
      refine wp_skip ?_
      refine sq ?_
      refine blk ?_
      refine sq ?_
      refine reg ?_
      have hT := of_gd hS; clear hS; obtain ⟨hc1, hS⟩ := hT
      refine ixR tbOk u37 i54 rfl rfl ((hs.ro 0 rfl).ra (LeH.refl _)) (k := .i64) (n := s2) hc1 hf (by kernel_rfl) (by kernel_rfl) (by kernel_rfl) (by kernel_rfl) ?_
      clear hf; clear a; intro pb1 po1 c1 a hp1 hr1 hf
      obtain ⟨ao2, cp2, rfl, hr2⟩ := hr1
      replace hs : Sep w F R w1 F2 [.ro (tI .u8) (.slice ao2 ((gt p_l s2).2.2).length cp2) ((gt p_l s2).2.2), .ro ty53 (.slice ao1 p_l.length cp1) p_l] := hs.addRo hr2
      replace hs : Sep w F R w1 F2 [.cel pb1 po1 [strV ((gt p_l s2).1), .int .u32 ((gt p_l s2).2.1), .slice ao2 ((gt p_l s2).2.2).length cp2], .ro (tI .u8) (.slice ao2 ((gt p_l s2).2.2).length cp2) ((gt p_l s2).2.2), .ro ty53 (.slice ao1 p_l.length cp1) p_l] := hs.addCel hp1
      replace hf := Fr.keep (ks := [0, 4, 12, 13, 14, 16]) (L' := [(0, .slice ao1 p_l.length cp1), (4, .slice none 0 0), (12, .slice ao1 p_l.length cp1), (13, .int .i64 ((p_l.length : Nat) : Int)), (14, .int .i64 s2), (16, .pointer (some ⟨pb1, po1, none⟩))]) hf (by kernel_rfl)
      refine ldC tbOk (T := 54) (hs.ccel 0 rfl) (LeH.refl _) 0 (.agg #[strV ((gt p_l s2).1), .int .u32 ((gt p_l s2).2.1), .slice ao2 ((gt p_l s2).2.2).length cp2]) hf (by kernel_rfl) (by kernel_rfl) (by kernel_rfl) (by kernel_rfl) ?_
      clear hf; clear a; intro a hf
      replace hs : Sep w F R w1 F2 [.ro (tI .u8) (.slice ao2 ((gt p_l s2).2.2).length cp2) ((gt p_l s2).2.2), .ro ty53 (.slice ao1 p_l.length cp1) p_l] := hs.sel [1, 2] rfl rfl
      replace hf := Fr.keep (ks := [0, 4, 12, 13, 14, 17]) (L' := [(0, .slice ao1 p_l.length cp1), (4, .slice none 0 0), (12, .slice ao1 p_l.length cp1), (13, .int .i64 ((p_l.length : Nat) : Int)), (14, .int .i64 s2), (17, .agg #[strV ((gt p_l s2).1), .int .u32 ((gt p_l s2).2.1), .slice ao2 ((gt p_l s2).2.2).length cp2])]) hf (by kernel_rfl)
      refine al tbOk i54 [strV [], .int .u32 0, .slice none 0 0] rfl (by kernel_rfl) hf (by kernel_rfl) (by kernel_rfl) ?_
      clear hf; clear a; intro w2 a hb hx _ hf
      replace hs : Sep w F R w2 F2 [.box w1.heap.size 54 [strV [], .int .u32 0, .slice none 0 0], .ro (tI .u8) (.slice ao2 ((gt p_l s2).2.2).length cp2) ((gt p_l s2).2.2), .ro ty53 (.slice ao1 p_l.length cp1) p_l] := hs.newBox hb hx
      clear hb hx
      replace hf := Fr.keep (ks := [0, 4, 6, 12, 13, 14, 17]) (L' := [(0, .slice ao1 p_l.length cp1), (4, .slice none 0 0), (6, .pointer (some ⟨w1.heap.size, 0, none⟩)), (12, .slice ao1 p_l.length cp1), (13, .int .i64 ((p_l.length : Nat) : Int)), (14, .int .i64 s2), (17, .agg #[strV ((gt p_l s2).1), .int .u32 ((gt p_l s2).2.1), .slice ao2 ((gt p_l s2).2.2).length cp2])]) hf (by kernel_rfl)
      refine stB tbOk i54 (hs.bx 0 rfl) 0 [strV ((gt p_l s2).1), .int .u32 ((gt p_l s2).2.1), .slice ao2 ((gt p_l s2).2.2).length cp2] [strV ((gt p_l s2).1), .int .u32 ((gt p_l s2).2.1), .slice ao2 ((gt p_l s2).2.2).length cp2] (v := .agg #[strV ((gt p_l s2).1), .int .u32 ((gt p_l s2).2.1), .slice ao2 ((gt p_l s2).2.2).length cp2]) rfl rfl (by kernel_rfl) (by kernel_rfl) (by kernel_rfl) (by kernel_rfl) hf (by kernel_rfl) (by kernel_rfl) (by kernel_rfl) ?_
      clear hf; clear a; intro w3 a hb hg _ hf
      replace hs : Sep w F R w3 F2 [.box w1.heap.size 54 [strV ((gt p_l s2).1), .int .u32 ((gt p_l s2).2.1), .slice ao2 ((gt p_l s2).2.2).length cp2], .ro (tI .u8) (.slice ao2 ((gt p_l s2).2.2).length cp2) ((gt p_l s2).2.2), .ro ty53 (.slice ao1 p_l.length cp1) p_l] := hs.updBox 0 rfl hb hg
      clear hb hg
      replace hf := Fr.keep (ks := [0, 4, 6, 12, 13, 14]) (L' := [(0, .slice ao1 p_l.length cp1), (4, .slice none 0 0), (6, .pointer (some ⟨w1.heap.size, 0, none⟩)), (12, .slice ao1 p_l.length cp1), (13, .int .i64 ((p_l.length : Nat) : Int)), (14, .int .i64 s2)]) hf (by kernel_rfl)
      refine wpList_nil ?_
      refine sq ?_
      refine reg ?_
      refine st tbOk 1 [0, 4, 12, 13, 14, 18] (L' := [(0, .slice ao1 p_l.length cp1), (4, .slice none 0 0), (12, .slice ao1 p_l.length cp1), (13, .int .i64 ((p_l.length : Nat) : Int)), (14, .int .i64 s2), (18, .pointer (some ⟨w1.heap.size, 0, none⟩))]) hf (by kernel_rfl) ?_
      clear hf; clear a; intro a hf
      refine ldC tbOk (T := 9) (hs.cbx 0 rfl) (LeH.refl _) 0 (strV ((gt p_l s2).1)) hf (by kernel_rfl) (by kernel_rfl) (by kernel_rfl) (by kernel_rfl) ?_
      clear hf; clear a; intro a hf
      replace hs : Sep w F R w3 F2 [.ro ty53 (.slice ao1 p_l.length cp1) p_l] := hs.sel [2] rfl rfl
      replace hf := Fr.keep (ks := [0, 4, 12, 13, 14, 19]) (L' := [(0, .slice ao1 p_l.length cp1), (4, .slice none 0 0), (12, .slice ao1 p_l.length cp1), (13, .int .i64 ((p_l.length : Nat) : Int)), (14, .int .i64 s2), (19, strV ((gt p_l s2).1))]) hf (by kernel_rfl)
      have hT := of_bd hS; clear hS; obtain ⟨z1, hz1, hS⟩ := hT
      refine clV ent33 (vs := [strV ((gt p_l s2).1), strV [0]]) (caps := []) hf (by kernel_rfl) (by kernel_rfl) (by kernel_rfl) (by kernel_rfl) (strings_Contains_ok (s := (gt p_l s2).1) (sub := [0]) (hs.enter [] rfl rfl) hz1) ?_
      clear hf; clear a; intro v w4 a hT hf; obtain ⟨F3, rfl, hr⟩ := hT
      replace hs : Sep w F R w4 F3 [.ro ty53 (.slice ao1 p_l.length cp1) p_l] := hs.back [] [0] rfl rfl rfl rfl hr
      clear hr
      replace hf := Fr.keep (ks := [0, 4, 12, 13, 14, 20]) (L' := [(0, .slice ao1 p_l.length cp1), (4, .slice none 0 0), (12, .slice ao1 p_l.length cp1), (13, .int .i64 ((p_l.length : Nat) : Int)), (14, .int .i64 s2), (20, .bool z1)]) hf (by kernel_rfl)
      refine wpList_nil ?_
      refine cnd (b := z1) hf (by kernel_rfl) (fun hb2 => ?_) (fun hb2 => ?_)
      · replace hS := of_t hb2 hS
        refine sq ?_
        refine reg ?_
        refine st tbOk 2 [2, 3] (L' := [(2, .slice none 0 0), (3, .int .i64 1)]) hf (by kernel_rfl) ?_
        clear hf; clear a; intro a hf
        refine wpList_nil ?_
        have hr := Option.some.inj hS; subst hr
        refine wp_ret ?_
        replace hs : Sep w F R w4 F3 [.row 5 (tI .u8) (.slice none 0 0) ([] : List Int), .ro ty53 (.slice ao1 p_l.length cp1) p_l] := hs.addNil 5 (tI .u8)
        exact ret_ok hf (vs := [.slice none 0 0, .int .i64 1]) (by kernel_rfl) ⟨none, 0, _, rfl, hs.sel [0] rfl rfl⟩
      · replace hS := of_f hb2 hS
        refine wp_skip ?_
        refine reg ?_
        refine st tbOk 2 [0, 4, 12, 13, 14] (L' := [(0, .slice ao1 p_l.length cp1), (4, .slice none 0 0), (12, .slice ao1 p_l.length cp1), (13, .int .i64 ((p_l.length : Nat) : Int)), (14, .int .i64 (IntKind.i64.wrap (s2 + 1)))]) hf (by kernel_rfl) ?_
        clear hf; clear a; intro a hf
        refine wpList_nil ?_
        exact hK2 (IntKind.i64.wrap (s2 + 1)) _ _ ⟨_, hs.sel [0] rfl rfl, hf.keep (ks := [0, 4, 12, 13, 14]) (by kernel_rfl)⟩ hS
    · replace hS := of_f hb1 hS
      refine wp_exit ?_
      exact hK1 () _ _ ⟨_, hs.sel [0] rfl rfl, hf.keep (ks := [0, 4]) (by kernel_rfl)⟩ hS

set_option maxHeartbeats 4000000 in
theorem notes_Get_1_ok {w : World} {F : SH} {n : Int} {q_1 : List Int} {ao1 : Option Addr} {cp1 : Nat} {b1 : Nat} (hs : Sep w F (blks [.ro (tI .u8) (.slice ao1 q_1.length cp1) q_1, .box b1 22 [.slice ao1 q_1.length cp1]]) w F [.ro (tI .u8) (.slice ao1 q_1.length cp1) q_1, .box b1 22 [.slice ao1 q_1.length cp1]]) {r : (List Int) × Int × (List Int)} (hS : notes_Get_1 n q_1 = some r) :
    Calls Try.prog 38 [.int .u64 n, .pointer (some ⟨b1, 0, none⟩)].toArray w (Gives (fun u w' => ∃ (ao5 : Option Addr) (cp5 : Nat) (ao6 : Option Addr) (cp6 : Nat) (F' : SH), u = .tuple #[.slice ao5 r.1.length cp5, .int .i64 r.2.1] ∧ Sep w F (blks [.ro (tI .u8) (.slice ao1 q_1.length cp1) q_1, .box b1 22 [.slice ao1 q_1.length cp1]]) w' F' [.row 5 (tI .u8) (.slice ao5 r.1.length cp5) r.1, .box b1 22 [.slice ao6 r.2.2.length cp6], .ro (tI .u8) (.slice ao6 r.2.2.length cp6) r.2.2])) := by
  generalize (blks [.ro (tI .u8) (.slice ao1 q_1.length cp1) q_1, .box b1 22 [.slice ao1 q_1.length cp1]]) = R at hs ⊢
  unfold notes_Get_1 at hS
  refine fn_ok (vs := [.int .u64 n, .pointer (some ⟨b1, 0, none⟩)]) Try.func38 rfl 19 Try.ntmps38 (Nat.le_of_ble_eq_true rfl) ?_
  intro a hf
  replace hf := Fr.cast (L' := [(0, .int .u64 n), (1, .pointer (some ⟨b1, 0, none⟩))]) hf (by kernel_rfl)
  refine sq ?_
  refine reg ?_
  refine st tbOk 2 [0, 1] (L' := [(0, .int .u64 n), (1, .pointer (some ⟨b1, 0, none⟩))]) hf (by kernel_rfl) ?_
  clear hf; clear a; intro a hf
  refine wpList_nil ?_
  refine sq ?_
  refine sq ?_
  refine reg ?_
  refine st tbOk 1 [0, 1, 6] (L' := [(0, .int .u64 n), (1, .pointer (some ⟨b1, 0, none⟩)), (6, .int .u64 n)]) hf (by kernel_rfl) ?_
  clear hf; clear a; intro a hf
  refine ldC tbOk (T := 22) (hs.cbx 1 rfl) (LeH.refl _) 0 (.slice ao1 q_1.length cp1) hf (by kernel_rfl) (by kernel_rfl) (by kernel_rfl) (by kernel_rfl) ?_
  clear hf; clear a; intro a hf
  replace hf := Fr.keep (ks := [0, 1, 6, 7]) (L' := [(0, .int .u64 n), (1, .pointer (some ⟨b1, 0, none⟩)), (6, .int .u64 n), (7, .slice ao1 q_1.length cp1)]) hf (by kernel_rfl)
  refine st tbOk 3 [0, 1, 10] (L' := [(0, .int .u64 n), (1, .pointer (some ⟨b1, 0, none⟩)), (10, .bool (decide (n > (IntKind.u64.wrap ((q_1.length : Nat) : Int)))))]) hf (by kernel_rfl) ?_
  clear hf; clear a; intro a hf
  refine wpList_nil ?_
  refine cnd (b := decide (n > (IntKind.u64.wrap ((q_1.length : Nat) : Int)))) hf (by kernel_rfl) (fun hb1 => ?_) (fun hb1 => ?_)
  · replace hS := of_t hb1 hS
    refine sq ?_
    refine reg ?_
    refine st tbOk 2 [3, 4] (L' := [(3, .slice none 0 0), (4, .int .i64 10)]) hf (by kernel_rfl) ?_
    clear hf; clear a; intro a hf
    refine wpList_nil ?_
    have hr := Option.some.inj hS; subst hr
    refine wp_ret ?_
    replace hs : Sep w F R w F [.row 5 (tI .u8) (.slice none 0 0) ([] : List Int), .ro (tI .u8) (.slice ao1 q_1.length cp1) q_1, .box b1 22 [.slice ao1 q_1.length cp1]] := hs.addNil 5 (tI .u8)
    exact ret_ok hf (vs := [.slice none 0 0, .int .i64 10]) (by kernel_rfl) ⟨none, 0, ao1, cp1, _, rfl, hs.sel [0, 2, 1] rfl rfl⟩
  · replace hS := of_f hb1 hS
    refine wp_skip ?_
    refine sq ?_
    refine reg ?_
    refine ldC tbOk (T := 22) (hs.cbx 1 rfl) (LeH.refl _) 0 (.slice ao1 q_1.length cp1) hf (by kernel_rfl) (by kernel_rfl) (by kernel_rfl) (by kernel_rfl) ?_
    clear hf; clear a; intro a hf
    replace hf := Fr.keep (ks := [0, 1, 11]) (L' := [(0, .int .u64 n), (1, .pointer (some ⟨b1, 0, none⟩)), (11, .slice ao1 q_1.length cp1)]) hf (by kernel_rfl)
    refine st tbOk 1 [0, 1, 11, 12] (L' := [(0, .int .u64 n), (1, .pointer (some ⟨b1, 0, none⟩)), (11, .slice ao1 q_1.length cp1), (12, .int .u64 n)]) hf (by kernel_rfl) ?_
    clear hf; clear a; intro a hf
    have hT := of_gd hS; clear hS; obtain ⟨hc1, hS⟩ := hT
    refine sl tbOk u22 i5 rfl (hs.ro 0 rfl) (lo := 0) (hi := n) (m := 0) hc1 (.inl ⟨rfl, rfl⟩) (.inr ⟨_, .u64, rfl, by kernel_rfl⟩) (.inl rfl) hf (by kernel_rfl) (by kernel_rfl) (by kernel_rfl) ?_
    clear hf; clear a; intro ao2 cp2 a hr1 hf
    replace hs : Sep w F R w F [.ro (tI .u8) (.slice ao2 (cutL q_1 0 n).length cp2) (cutL q_1 0 n), .ro (tI .u8) (.slice ao1 q_1.length cp1) q_1, .box b1 22 [.slice ao1 q_1.length cp1]] := hs.addRo hr1
    replace hf := Fr.keep (ks := [0, 1, 13]) (L' := [(0, .int .u64 n), (1, .pointer (some ⟨b1, 0, none⟩)), (13, .slice ao2 (cutL q_1 0 n).length cp2)]) hf (by kernel_rfl)
    have hT := of_bd hS; clear hS; obtain ⟨z1, hz1, hS⟩ := hT
    refine clV ent39 (vs := [.slice ao2 (cutL q_1 0 n).length cp2]) (caps := []) hf (by kernel_rfl) (by kernel_rfl) (by kernel_rfl) (by kernel_rfl) (slices_Clone_byte_byte_ok (s := (cutL q_1 0 n)) (hs.enter [0] rfl rfl) hz1) ?_
    clear hf; clear a; intro v w1 a hT hf; obtain ⟨ao3, cp3, F1, rfl, hr⟩ := hT
    replace hs : Sep w F R w1 F1 [.row 5 (tI .u8) (.slice ao3 z1.length cp3) z1, .ro (tI .u8) (.slice ao2 (cutL q_1 0 n).length cp2) (cutL q_1 0 n), .ro (tI .u8) (.slice ao1 q_1.length cp1) q_1, .box b1 22 [.slice ao1 q_1.length cp1]] := hs.back [0] [0, 1, 2] rfl rfl rfl rfl hr
    clear hr
    replace hs : Sep w F R w1 F1 [.row 5 (tI .u8) (.slice ao3 z1.length cp3) z1, .ro (tI .u8) (.slice ao1 q_1.length cp1) q_1, .box b1 22 [.slice ao1 q_1.length cp1]] := hs.sel [0, 2, 3] rfl rfl
    replace hf := Fr.keep (ks := [0, 1, 14]) (L' := [(0, .int .u64 n), (1, .pointer (some ⟨b1, 0, none⟩)), (14, .slice ao3 z1.length cp3)]) hf (by kernel_rfl)
    refine st tbOk 1 [0, 1, 5] (L' := [(0, .int .u64 n), (1, .pointer (some ⟨b1, 0, none⟩)), (5, .slice ao3 z1.length cp3)]) hf (by kernel_rfl) ?_
    clear hf; clear a; intro a hf
    refine wpList_nil ?_
    refine sq ?_
    refine reg ?_
    refine ldC tbOk (T := 22) (hs.cbx 2 rfl) (LeH.refl _) 0 (.slice ao1 q_1.length cp1) hf (by kernel_rfl) (by kernel_rfl) (by kernel_rfl) (by kernel_rfl) ?_
    clear hf; clear a; intro a hf
    replace hf := Fr.keep (ks := [0, 1, 5, 15]) (L' := [(0, .int .u64 n), (1, .pointer (some ⟨b1, 0, none⟩)), (5, .slice ao3 z1.length cp3), (15, .slice ao1 q_1.length cp1)]) hf (by kernel_rfl)
    refine st tbOk 1 [1, 5, 15, 16] (L' := [(1, .pointer (some ⟨b1, 0, none⟩)), (5, .slice ao3 z1.length cp3), (15, .slice ao1 q_1.length cp1), (16, .int .u64 n)]) hf (by kernel_rfl) ?_
    clear hf; clear a; intro a hf
    have hT := of_gd hS; clear hS; obtain ⟨hc2, hS⟩ := hT
    refine sl tbOk u22 i5 rfl (hs.ro 1 rfl) (lo := n) (hi := ((q_1.length : Nat) : Int)) (m := 0) hc2 (.inr ⟨_, .u64, rfl, by kernel_rfl⟩) (.inl ⟨rfl, rfl⟩) (.inl rfl) hf (by kernel_rfl) (by kernel_rfl) (by kernel_rfl) ?_
    clear hf; clear a; intro ao4 cp4 a hr2 hf
    replace hs : Sep w F R w1 F1 [.ro (tI .u8) (.slice ao4 (cutL q_1 n ((q_1.length : Nat) : Int)).length cp4) (cutL q_1 n ((q_1.length : Nat) : Int)), .row 5 (tI .u8) (.slice ao3 z1.length cp3) z1, .ro (tI .u8) (.slice ao1 q_1.length cp1) q_1, .box b1 22 [.slice ao1 q_1.length cp1]] := hs.addRo hr2
    replace hf := Fr.keep (ks := [1, 5, 17]) (L' := [(1, .pointer (some ⟨b1, 0, none⟩)), (5, .slice ao3 z1.length cp3), (17, .slice ao4 (cutL q_1 n ((q_1.length : Nat) : Int)).length cp4)]) hf (by kernel_rfl)
    refine stB tbOk i22 (hs.bx 3 rfl) 0 [.slice ao4 (cutL q_1 n ((q_1.length : Nat) : Int)).length cp4] [.slice ao4 (cutL q_1 n ((q_1.length : Nat) : Int)).length cp4] (v := .slice ao4 (cutL q_1 n ((q_1.length : Nat) : Int)).length cp4) rfl rfl (by kernel_rfl) (by kernel_rfl) (by kernel_rfl) (by kernel_rfl) hf (by kernel_rfl) (by kernel_rfl) (by kernel_rfl) ?_
    clear hf; clear a; intro w2 a hb hg _ hf
    replace hs : Sep w F R w2 F1 [.ro (tI .u8) (.slice ao4 (cutL q_1 n ((q_1.length : Nat) : Int)).length cp4) (cutL q_1 n ((q_1.length : Nat) : Int)), .row 5 (tI .u8) (.slice ao3 z1.length cp3) z1, .ro (tI .u8) (.slice ao1 q_1.length cp1) q_1, .box b1 22 [.slice ao4 (cutL q_1 n ((q_1.length : Nat) : Int)).length cp4]] := hs.updBox 3 rfl hb hg
    clear hb hg
    replace hs : Sep w F R w2 F1 [.ro (tI .u8) (.slice ao4 (cutL q_1 n ((q_1.length : Nat) : Int)).length cp4) (cutL q_1 n ((q_1.length : Nat) : Int)), .row 5 (tI .u8) (.slice ao3 z1.length cp3) z1, .box b1 22 [.slice ao4 (cutL q_1 n ((q_1.length : Nat) : Int)).length cp4]] := hs.sel [0, 1, 3] rfl rfl
    replace hf := Fr.keep (ks := [5]) (L' := [(5, .slice ao3 z1.length cp3)]) hf (by kernel_rfl)
    refine wpList_nil ?_
    refine sq ?_
    refine reg ?_
    refine st tbOk 3 [3, 4] (L' := [(3, .slice ao3 z1.length cp3), (4, .int .i64 0)]) hf (by kernel_rfl) ?_
    clear hf; clear a; intro a hf
    refine wpList_nil ?_
    have hr := Option.some.inj hS; subst hr
    refine wp_ret ?_
    exact ret_ok hf (vs := [.slice ao3 z1.length cp3, .int .i64 0]) (by kernel_rfl) ⟨ao3, cp3, ao4, cp4, _, rfl, hs.sel [1, 2, 0] rfl rfl⟩

set_option maxHeartbeats 4000000 in
theorem octets_Get_ok {w : World} {F : SH} {b : List Int} {p_at : Int} {n : Int} {ao1 : Option Addr} {cp1 : Nat} (hs : Sep w F (blks [.ro (tI .u8) (.slice ao1 b.length cp1) b]) w F [.ro (tI .u8) (.slice ao1 b.length cp1) b]) {r : Int × Int} (hS : octets_Get b p_at n = some r) :
    Calls Try.prog 42 [.slice ao1 b.length cp1, .int .u64 p_at, .int .i64 n].toArray w (Gives (fun u w' => ∃ (F' : SH), u = .tuple #[.int .u64 r.1, .int .i64 r.2] ∧ Sep w F (blks [.ro (tI .u8) (.slice ao1 b.length cp1) b]) w' F' [])) := by
  generalize (blks [.ro (tI .u8) (.slice ao1 b.length cp1) b]) = R at hs ⊢
  unfold octets_Get at hS
  refine fn_ok (vs := [.slice ao1 b.length cp1, .int .u64 p_at, .int .i64 n]) Try.func42 rfl 38 Try.ntmps42 (Nat.le_of_ble_eq_true rfl) ?_
  intro a hf
  replace hf := Fr.cast (L' := [(0, .slice ao1 b.length cp1), (1, .int .u64 p_at), (2, .int .i64 n)]) hf (by kernel_rfl)
  refine sq ?_
  refine reg ?_
  refine st tbOk 2 [0, 1, 2] (L' := [(0, .slice ao1 b.length cp1), (1, .int .u64 p_at), (2, .int .i64 n)]) hf (by kernel_rfl) ?_
  clear hf; clear a; intro a hf
  refine wpList_nil ?_
  refine sq ?_
  refine sq ?_
  refine reg ?_
  refine st tbOk 3 [0, 1, 2, 11, 12, 13] (L' := [(0, .slice ao1 b.length cp1), (1, .int .u64 p_at), (2, .int .i64 n), (11, .slice ao1 b.length cp1), (12, .int .u64 p_at), (13, .int .i64 n)]) hf (by kernel_rfl) ?_
  clear hf; clear a; intro a hf
  have hT := of_bd hS; clear hS; obtain ⟨z1, hz1, hS⟩ := hT
  refine clV ent50 (vs := [.slice ao1 b.length cp1, .int .u64 p_at, .int .i64 n]) (caps := []) hf (by kernel_rfl) (by kernel_rfl) (by kernel_rfl) (by kernel_rfl) (octets_fits_ok (b := b) (p_at := p_at) (n := n) (hs.enter [0] rfl rfl) hz1) ?_
  clear hf; clear a; intro v w1 a hT hf; obtain ⟨F1, rfl, hr⟩ := hT
  replace hs : Sep w F R w1 F1 [.ro (tI .u8) (.slice ao1 b.length cp1) b] := hs.back [0] [0] rfl rfl rfl rfl hr
  clear hr
  replace hf := Fr.keep (ks := [0, 1, 2, 14]) (L' := [(0, .slice ao1 b.length cp1), (1, .int .u64 p_at), (2, .int .i64 n), (14, .int .i64 z1)]) hf (by kernel_rfl)
  refine st tbOk 1 [0, 1, 2, 8] (L' := [(0, .slice ao1 b.length cp1), (1, .int .u64 p_at), (2, .int .i64 n), (8, .int .i64 z1)]) hf (by kernel_rfl) ?_
  clear hf; clear a; intro a hf
  refine wpList_nil ?_
  refine sq ?_
  refine reg ?_
  refine st tbOk 2 [0, 1, 2, 8, 16] (L' := [(0, .slice ao1 b.length cp1), (1, .int .u64 p_at), (2, .int .i64 n), (8, .int .i64 z1), (16, .bool (z1 != 0))]) hf (by kernel_rfl) ?_
  clear hf; clear a; intro a hf
  refine wpList_nil ?_
  refine cnd (b := z1 != 0) hf (by kernel_rfl) (fun hb1 => ?_) (fun hb1 => ?_)
  · replace hS := of_t hb1 hS
    refine sq ?_
    refine reg ?_
    refine st tbOk 3 [6, 7] (L' := [(6, .int .u64 0), (7, .int .i64 z1)]) hf (by kernel_rfl) ?_
    clear hf; clear a; intro a hf
    refine wpList_nil ?_
    have hr := Option.some.inj hS; subst hr
    refine wp_ret ?_
    exact ret_ok hf (vs := [.int .u64 0, .int .i64 z1]) (by kernel_rfl) ⟨_, rfl, hs.sel [] rfl rfl⟩
  · replace hS := of_f hb1 hS
    refine wp_skip ?_
    refine sq ?_
    refine reg ?_
    refine st tbOk 1 [0, 1, 2, 9] (L' := [(0, .slice ao1 b.length cp1), (1, .int .u64 p_at), (2, .int .i64 n), (9, .int .u64 0)]) hf (by kernel_rfl) ?_
    clear hf; clear a; intro a hf
    refine wpList_nil ?_
    refine sq ?_
    refine sq ?_
    refine reg ?_
    refine st tbOk 2 [0, 1, 9, 18, 19] (L' := [(0, .slice ao1 b.length cp1), (1, .int .u64 p_at), (9, .int .u64 0), (18, .int .i64 n), (19, .int .i64 0)]) hf (by kernel_rfl) ?_
    clear hf; clear a; intro a hf
    refine wpList_nil ?_
    refine ctj (fun (s1 : Int) (a : Act) (w' : World) => ∃ (F2 : SH), Sep w F R w' F2 [] ∧ Fr 38 [(9, .int .u64 s1)] a) hS ?_ ?_
    · clear hS hf hs; clear a; intro s1 a w3 hM hS
      obtain ⟨F2, hs, hf⟩ := hM
      refine sq ?_
      refine reg ?_
      refine st tbOk 3 [6, 7] (L' := [(6, .int .u64 s1), (7, .int .i64 0)]) hf (by kernel_rfl) ?_
      clear hf; clear a; intro a hf
      refine wpList_nil ?_
      have hr := Option.some.inj hS; subst hr
      refine wp_ret ?_
      exact ret_ok hf (vs := [.int .u64 s1, .int .i64 0]) (by kernel_rfl) ⟨_, rfl, hs.sel [] rfl rfl⟩
    · clear hS; intro KK1 k1 hK1 hS
      refine blk ?_
      refine lp (st := (0, 0)) (fun (s2 : Int × Int) (a : Act) (w' : World) => ∃ (F3 : SH), Sep w F R w' F3 [.ro (tI .u8) (.slice ao1 b.length cp1) b] ∧ Fr 38 [(0, .slice ao1 b.length cp1), (1, .int .u64 p_at), (9, .int .u64 s2.1), (18, .int .i64 n), (19, .int .i64 s2.2)] a) ?_ ⟨_, hs.sel [0] rfl rfl, hf.keep (ks := [0, 1, 9, 18, 19]) (by kernel_rfl)⟩ hS
      clear hS hf hs; clear a
      intro rec1 KK2 hK2 s2 a w2 hM hS
      obtain ⟨F3, hs, hf⟩ := hM
      refine sq ?_
      refine reg ?_
      refine st tbOk 1 [0, 1, 9, 18, 19, 20] (L' := [(0, .slice ao1 b.length cp1), (1, .int .u64 p_at), (9, .int .u64 s2.1), (18, .int .i64 n), (19, .int .i64 s2.2), (20, .bool (decide (s2.2 < n)))]) hf (by kernel_rfl) ?_
      clear hf; clear a; intro a hf
      refine wpList_nil ?_
      refine sq ?_
      refine cnd (b := decide (s2.2 < n)) hf (by kernel_rfl) (fun hb2 => ?_) (fun hb2 => ?_)
      · replace hS := of_t hb2 hS
        refine wp_skip ?_
        refine sq ?_
        refine blk ?_
        refine sq ?_
        refine reg ?_
        refine st tbOk 2 [0, 1, 9, 10, 18, 19] (L' := [(0, .slice ao1 b.length cp1), (1, .int .u64 p_at), (9, .int .u64 s2.1), (10, .int .i64 s2.2), (18, .int .i64 n), (19, .int .i64 s2.2)]) hf (by kernel_rfl) ?_
        clear hf; clear a; intro a hf
        refine wpList_nil ?_
        refine reg ?_
        refine st tbOk 6 [0, 1, 10, 18, 19, 22, 23, 27] (L' := [(0, .slice ao1 b.length cp1), (1, .int .u64 p_at), (10, .int .i64 s2.2), (18, .int .i64 n), (19, .int .i64 s2.2), (22, .int .u64 s2.1), (23, .slice ao1 b.length cp1), (27, .int .i64 (IntKind.i64.wrap ((IntKind.i64.wrap p_at) + s2.2)))]) hf (by kernel_rfl) ?_
        clear hf; clear a; intro a hf
        have hT := of_gd hS; clear hS; obtain ⟨hc1, hS⟩ := hT
        refine ixR tbOk u22 i5 rfl rfl ((hs.ro 0 rfl).ra (LeH.refl _)) (k := .i64) (n := IntKind.i64.wrap ((IntKind.i64.wrap p_at) + s2.2)) hc1 hf (by kernel_rfl) (by kernel_rfl) (by kernel_rfl) (by kernel_rfl) ?_
        clear hf; clear a; intro pb1 po1 c1 a hp1 hr1 hf
        obtain rfl : c1 = [.int .u8 (gt b (IntKind.i64.wrap ((IntKind.i64.wrap p_at) + s2.2)))] := hr1
        replace hs : Sep w F R w2 F3 [.cel pb1 po1 [.int .u8 (gt b (IntKind.i64.wrap ((IntKind.i64.wrap p_at) + s2.2)))], .ro (tI .u8) (.slice ao1 b.length cp1) b] := hs.addCel hp1
        replace hf := Fr.keep (ks := [0, 1, 10, 18, 19, 22, 28]) (L' := [(0, .slice ao1 b.length cp1), (1, .int .u64 p_at), (10, .int .i64 s2.2), (18, .int .i64 n), (19, .int .i64 s2.2), (22, .int .u64 s2.1), (28, .pointer (some ⟨pb1, po1, none⟩))]) hf (by kernel_rfl)
        refine ldC tbOk (T := 5) (hs.ccel 0 rfl) (LeH.refl _) 0 (.int .u8 (gt b (IntKind.i64.wrap ((IntKind.i64.wrap p_at) + s2.2)))) hf (by kernel_rfl) (by kernel_rfl) (by kernel_rfl) (by kernel_rfl) ?_
        clear hf; clear a; intro a hf
        replace hs : Sep w F R w2 F3 [.ro (tI .u8) (.slice ao1 b.length cp1) b] := hs.sel [1] rfl rfl
        replace hf := Fr.keep (ks := [0, 1, 10, 18, 19, 22, 29]) (L' := [(0, .slice ao1 b.length cp1), (1, .int .u64 p_at), (10, .int .i64 s2.2), (18, .int .i64 n), (19, .int .i64 s2.2), (22, .int .u64 s2.1), (29, .int .u8 (gt b (IntKind.i64.wrap ((IntKind.i64.wrap p_at) + s2.2))))]) hf (by kernel_rfl)
        refine st tbOk 4 [0, 1, 18, 19, 22, 30, 33] (L' := [(0, .slice ao1 b.length cp1), (1, .int .u64 p_at), (18, .int .i64 n), (19, .int .i64 s2.2), (22, .int .u64 s2.1), (30, .int .u64 (IntKind.u64.wrap (gt b (IntKind.i64.wrap ((IntKind.i64.wrap p_at) + s2.2))))), (33, .int .u64 (IntKind.u64.wrap (IntKind.i64.wrap (8 * s2.2))))]) hf (by kernel_rfl) ?_
        clear hf; clear a; intro a hf
        have hT := of_gd hS; clear hS; obtain ⟨hc2, hS⟩ := hT
        refine bin (run_shl (k := .u64) (k' := .u64) (x := IntKind.u64.wrap (gt b (IntKind.i64.wrap ((IntKind.i64.wrap p_at) + s2.2)))) hc2 _) hf (by kernel_rfl) (by kernel_rfl) (by kernel_rfl) (by kernel_rfl) ?_
        clear hf; clear a; intro a hf
        replace hf := Fr.keep (ks := [0, 1, 18, 19, 22, 34]) (L' := [(0, .slice ao1 b.length cp1), (1, .int .u64 p_at), (18, .int .i64 n), (19, .int .i64 s2.2), (22, .int .u64 s2.1), (34, .int .u64 (shl .u64 (IntKind.u64.wrap (gt b (IntKind.i64.wrap ((IntKind.i64.wrap p_at) + s2.2)))) (IntKind.u64.wrap (IntKind.i64.wrap (8 * s2.2)))))]) hf (by kernel_rfl)
        have hT := of_let hS; clear hS; obtain ⟨x_1, hl1, hS⟩ := hT
        refine st tbOk 2 [0, 1, 9, 18, 19] (L' := [(0, .slice ao1 b.length cp1), (1, .int .u64 p_at), (9, .int .u64 x_1), (18, .int .i64 n), (19, .int .i64 s2.2)]) hf (by subst hl1; kernel_rfl) ?_
        clear hf; clear a; intro a hf
        refine wpList_nil ?_
        refine reg ?_
        refine st tbOk 2 [0, 1, 9, 18, 19] (L' := [(0, .slice ao1 b.length cp1), (1, .int .u64 p_at), (9, .int .u64 x_1), (18, .int .i64 n), (19, .int .i64 (IntKind.i64.wrap (s2.2 + 1)))]) hf (by kernel_rfl) ?_
        clear hf; clear a; intro a hf
        refine wpList_nil ?_
        exact hK2 (x_1, IntKind.i64.wrap (s2.2 + 1)) _ _ ⟨_, hs.sel [0] rfl rfl, hf.keep (ks := [0, 1, 9, 18, 19]) (by kernel_rfl)⟩ hS
      · replace hS := of_f hb2 hS
        refine wp_exit ?_
        exact hK1 s2.1 _ _ ⟨_, hs.sel [] rfl rfl, hf.keep (ks := [9]) (by kernel_rfl)⟩ hS

set_option maxHeartbeats 4000000 in
theorem notes_zeros_1_ok {w : World} {F : SH} {p_c : Int}  (hs : Sep w F (blks []) w F []) {r : Bool} (hS : notes_zeros_1 p_c = some r) :
    Calls Try.prog 49 [.int .u8 p_c].toArray w (Gives (fun u w' => ∃ (F' : SH), u = .bool r ∧ Sep w F (blks []) w' F' [])) := by
  generalize (blks []) = R at hs ⊢
  unfold notes_zeros_1 at hS
  refine fn_ok (vs := [.int .u8 p_c]) Try.func49 rfl 5 Try.ntmps49 (Nat.le_of_ble_eq_true rfl) ?_
  intro a hf
  replace hf := Fr.cast (L' := [(0, .int .u8 p_c)]) hf (by kernel_rfl)
  refine sq ?_
  refine reg ?_
  refine st tbOk 1 [0] (L' := [(0, .int .u8 p_c)]) hf (by kernel_rfl) ?_
  clear hf; clear a; intro a hf
  refine wpList_nil ?_
  refine sq ?_
  refine reg ?_
  refine st tbOk 3 [2] (L' := [(2, .bool (p_c != 0))]) hf (by kernel_rfl) ?_
  clear hf; clear a; intro a hf
  refine wpList_nil ?_
  have hr := Option.some.inj hS; subst hr
  refine wp_ret ?_
  exact ret_ok hf (vs := [.bool (p_c != 0)]) (by kernel_rfl) ⟨_, rfl, hs.sel [] rfl rfl⟩

set_option maxHeartbeats 4000000 in
theorem slices_IndexFunc_byte_byte_zeros_1_ok {w : World} {F : SH} {p_s : List Int} {ao1 : Option Addr} {cp1 : Nat} (hs : Sep w F (blks [.ro (tI .u8) (.slice ao1 p_s.length cp1) p_s]) w F [.ro (tI .u8) (.slice ao1 p_s.length cp1) p_s]) {r : Int} (hS : slices_IndexFunc_byte_byte_zeros_1 p_s = some r) :
    Calls Try.prog 53 [.slice ao1 p_s.length cp1, .func (.func 49) #[] #[]].toArray w (Gives (fun u w' => ∃ (F' : SH), u = .int .i64 r ∧ Sep w F (blks [.ro (tI .u8) (.slice ao1 p_s.length cp1) p_s]) w' F' [])) := by
  generalize (blks [.ro (tI .u8) (.slice ao1 p_s.length cp1) p_s]) = R at hs ⊢
  unfold slices_IndexFunc_byte_byte_zeros_1 at hS
  refine fn_ok (vs := [.slice ao1 p_s.length cp1, .func (.func 49) #[] #[]]) Try.func53 rfl 19 Try.ntmps53 (Nat.le_of_ble_eq_true rfl) ?_
  intro a hf
  replace hf := Fr.cast (L' := [(0, .slice ao1 p_s.length cp1), (1, .func (.func 49) #[] #[])]) hf (by kernel_rfl)
  refine sq ?_
  refine reg ?_
  refine st tbOk 1 [0, 1] (L' := [(0, .slice ao1 p_s.length cp1), (1, .func (.func 49) #[] #[])]) hf (by kernel_rfl) ?_
  clear hf; clear a; intro a hf
  refine wpList_nil ?_
  refine sq ?_
  refine sq ?_
  refine reg ?_
  refine st tbOk 3 [0, 1, 7, 8] (L' := [(0, .slice ao1 p_s.length cp1), (1, .func (.func 49) #[] #[]), (7, .int .i64 ((p_s.length : Nat) : Int)), (8, .int .i64 0)]) hf (by kernel_rfl) ?_
  clear hf; clear a; intro a hf
  refine wpList_nil ?_
  refine ctj (fun (s1 : Unit) (a : Act) (w' : World) => ∃ (F1 : SH), Sep w F R w' F1 [] ∧ Fr 19 [] a) hS ?_ ?_
  · clear hS hf hs; clear a; intro s1 a w3 hM hS
    obtain ⟨F1, hs, hf⟩ := hM
    refine sq ?_
    refine reg ?_
    refine st tbOk 1 [4] (L' := [(4, .int .i64 (-1))]) hf (by kernel_rfl) ?_
    clear hf; clear a; intro a hf
    refine wpList_nil ?_
    have hr := Option.some.inj hS; subst hr
    refine wp_ret ?_
    exact ret_ok hf (vs := [.int .i64 (-1)]) (by kernel_rfl) ⟨_, rfl, hs.sel [] rfl rfl⟩
  · clear hS; intro KK1 k1 hK1 hS
    refine blk ?_
    refine lp (st := 0) (fun (s2 : Int) (a : Act) (w' : World) => ∃ (F2 : SH), Sep w F R w' F2 [.ro (tI .u8) (.slice ao1 p_s.length cp1) p_s] ∧ Fr 19 [(0, .slice ao1 p_s.length cp1), (1, .func (.func 49) #[] #[]), (7, .int .i64 ((p_s.length : Nat) : Int)), (8, .int .i64 s2)] a) ?_ ⟨_, hs.sel [0] rfl rfl, hf.keep (ks := [0, 1, 7, 8]) (by kernel_rfl)⟩ hS
    clear hS hf hs; clear a
    intro rec1 KK2 hK2 s2 a w1 hM hS
    obtain ⟨F2, hs, hf⟩ := hM
    refine sq ?_
    refine reg ?_
    refine st tbOk 1 [0, 1, 7, 8, 9] (L' := [(0, .slice ao1 p_s.length cp1), (1, .func (.func 49) #[] #[]), (7, .int .i64 ((p_s.length : Nat) : Int)), (8, .int .i64 s2), (9, .bool (decide (s2 < ((p_s.length : Nat) : Int))))]) hf (by kernel_rfl) ?_
    clear hf; clear a; intro a hf
    refine wpList_nil ?_
    refine sq ?_
    refine cnd (b := decide (s2 < ((p_s.length : Nat) : Int))) hf (by kernel_rfl) (fun hb1 => ?_) (fun hb1 => ?_)
    · replace hS := of_t hb1 hS
      refine wp_skip ?_
      refine sq ?_
      refine blk ?_
      refine sq ?_
      refine reg ?_
      refine st tbOk 2 [0, 1, 5, 7, 8] (L' := [(0, .slice ao1 p_s.length cp1), (1, .func (.func 49) #[] #[]), (5, .int .i64 s2), (7, .int .i64 ((p_s.length : Nat) : Int)), (8, .int .i64 s2)]) hf (by kernel_rfl) ?_
      clear hf; clear a; intro a hf
      refine wpList_nil ?_
      refine sq ?_
      refine reg ?_
      refine st tbOk 3 [0, 1, 5, 7, 8, 11, 12, 13] (L' := [(0, .slice ao1 p_s.length cp1), (1, .func (.func 49) #[] #[]), (5, .int .i64 s2), (7, .int .i64 ((p_s.length : Nat) : Int)), (8, .int .i64 s2), (11, .func (.func 49) #[] #[]), (12, .slice ao1 p_s.length cp1), (13, .int .i64 s2)]) hf (by kernel_rfl) ?_
      clear hf; clear a; intro a hf
      have hT := of_gd hS; clear hS; obtain ⟨hc1, hS⟩ := hT
      refine ixR tbOk u22 i5 rfl rfl ((hs.ro 0 rfl).ra (LeH.refl _)) (k := .i64) (n := s2) hc1 hf (by kernel_rfl) (by kernel_rfl) (by kernel_rfl) (by kernel_rfl) ?_
      clear hf; clear a; intro pb1 po1 c1 a hp1 hr1 hf
      obtain rfl : c1 = [.int .u8 (gt p_s s2)] := hr1
      replace hs : Sep w F R w1 F2 [.cel pb1 po1 [.int .u8 (gt p_s s2)], .ro (tI .u8) (.slice ao1 p_s.length cp1) p_s] := hs.addCel hp1
      replace hf := Fr.keep (ks := [0, 1, 5, 7, 8, 11, 14]) (L' := [(0, .slice ao1 p_s.length cp1), (1, .func (.func 49) #[] #[]), (5, .int .i64 s2), (7, .int .i64 ((p_s.length : Nat) : Int)), (8, .int .i64 s2), (11, .func (.func 49) #[] #[]), (14, .pointer (some ⟨pb1, po1, none⟩))]) hf (by kernel_rfl)
      refine ldC tbOk (T := 5) (hs.ccel 0 rfl) (LeH.refl _) 0 (.int .u8 (gt p_s s2)) hf (by kernel_rfl) (by kernel_rfl) (by kernel_rfl) (by kernel_rfl) ?_
      clear hf; clear a; intro a hf
      replace hs : Sep w F R w1 F2 [.ro (tI .u8) (.slice ao1 p_s.length cp1) p_s] := hs.sel [1] rfl rfl
      replace hf := Fr.keep (ks := [0, 1, 5, 7, 8, 11, 15]) (L' := [(0, .slice ao1 p_s.length cp1), (1, .func (.func 49) #[] #[]), (5, .int .i64 s2), (7, .int .i64 ((p_s.length : Nat) : Int)), (8, .int .i64 s2), (11, .func (.func 49) #[] #[]), (15, .int .u8 (gt p_s s2))]) hf (by kernel_rfl)
      have hT := of_bd hS; clear hS; obtain ⟨z1, hz1, hS⟩ := hT
      refine clV ent49 (vs := [.int .u8 (gt p_s s2)]) (caps := []) hf (by kernel_rfl) (by kernel_rfl) (by kernel_rfl) (by kernel_rfl) (notes_zeros_1_ok (p_c := gt p_s s2) (hs.enter [] rfl rfl) hz1) ?_
      clear hf; clear a; intro v w2 a hT hf; obtain ⟨F3, rfl, hr⟩ := hT
      replace hs : Sep w F R w2 F3 [.ro (tI .u8) (.slice ao1 p_s.length cp1) p_s] := hs.back [] [0] rfl rfl rfl rfl hr
      clear hr
      replace hf := Fr.keep (ks := [0, 1, 5, 7, 8, 16]) (L' := [(0, .slice ao1 p_s.length cp1), (1, .func (.func 49) #[] #[]), (5, .int .i64 s2), (7, .int .i64 ((p_s.length : Nat) : Int)), (8, .int .i64 s2), (16, .bool z1)]) hf (by kernel_rfl)
      refine wpList_nil ?_
      refine cnd (b := z1) hf (by kernel_rfl) (fun hb2 => ?_) (fun hb2 => ?_)
      · replace hS := of_t hb2 hS
        refine sq ?_
        refine reg ?_
        refine st tbOk 2 [4] (L' := [(4, .int .i64 s2)]) hf (by kernel_rfl) ?_
        clear hf; clear a; intro a hf
        refine wpList_nil ?_
        have hr := Option.some.inj hS; subst hr
        refine wp_ret ?_
        exact ret_ok hf (vs := [.int .i64 s2]) (by kernel_rfl) ⟨_, rfl, hs.sel [] rfl rfl⟩
      · replace hS := of_f hb2 hS
        refine wp_skip ?_
        refine reg ?_
        refine st tbOk 2 [0, 1, 7, 8] (L' := [(0, .slice ao1 p_s.length cp1), (1, .func (.func 49) #[] #[]), (7, .int .i64 ((p_s.length : Nat) : Int)), (8, .int .i64 (IntKind.i64.wrap (s2 + 1)))]) hf (by kernel_rfl) ?_
        clear hf; clear a; intro a hf
        refine wpList_nil ?_
        exact hK2 (IntKind.i64.wrap (s2 + 1)) _ _ ⟨_, hs.sel [0] rfl rfl, hf.keep (ks := [0, 1, 7, 8]) (by kernel_rfl)⟩ hS
    · replace hS := of_f hb1 hS
      refine wp_exit ?_
      exact hK1 () _ _ ⟨_, hs.sel [] rfl rfl, hf.keep (ks := []) (by kernel_rfl)⟩ hS

set_option maxHeartbeats 4000000 in
theorem slices_ContainsFunc_byte_byte_zeros_1_ok {w : World} {F : SH} {p_s : List Int} {ao1 : Option Addr} {cp1 : Nat} (hs : Sep w F (blks [.ro (tI .u8) (.slice ao1 p_s.length cp1) p_s]) w F [.ro (tI .u8) (.slice ao1 p_s.length cp1) p_s]) {r : Bool} (hS : slices_ContainsFunc_byte_byte_zeros_1 p_s = some r) :
    Calls Try.prog 48 [.slice ao1 p_s.length cp1, .func (.func 49) #[] #[]].toArray w (Gives (fun u w' => ∃ (F' : SH), u = .bool r ∧ Sep w F (blks [.ro (tI .u8) (.slice ao1 p_s.length cp1) p_s]) w' F' [])) := by
  generalize (blks [.ro (tI .u8) (.slice ao1 p_s.length cp1) p_s]) = R at hs ⊢
  unfold slices_ContainsFunc_byte_byte_zeros_1 at hS
  refine fn_ok (vs := [.slice ao1 p_s.length cp1, .func (.func 49) #[] #[]]) Try.func48 rfl 9 Try.ntmps48 (Nat.le_of_ble_eq_true rfl) ?_
  intro a hf
  replace hf := Fr.cast (L' := [(0, .slice ao1 p_s.length cp1), (1, .func (.func 49) #[] #[])]) hf (by kernel_rfl)
  refine sq ?_
  refine reg ?_
  refine st tbOk 1 [0, 1] (L' := [(0, .slice ao1 p_s.length cp1), (1, .func (.func 49) #[] #[])]) hf (by kernel_rfl) ?_
  clear hf; clear a; intro a hf
  refine wpList_nil ?_
  refine sq ?_
  refine reg ?_
  refine st tbOk 2 [5, 6] (L' := [(5, .slice ao1 p_s.length cp1), (6, .func (.func 49) #[] #[])]) hf (by kernel_rfl) ?_
  clear hf; clear a; intro a hf
  have hT := of_bd hS; clear hS; obtain ⟨z1, hz1, hS⟩ := hT
  refine clV ent53 (vs := [.slice ao1 p_s.length cp1, .func (.func 49) #[] #[]]) (caps := []) hf (by kernel_rfl) (by kernel_rfl) (by kernel_rfl) (by kernel_rfl) (slices_IndexFunc_byte_byte_zeros_1_ok (p_s := p_s) (hs.enter [0] rfl rfl) hz1) ?_
  clear hf; clear a; intro v w1 a hT hf; obtain ⟨F1, rfl, hr⟩ := hT
  replace hs : Sep w F R w1 F1 [.ro (tI .u8) (.slice ao1 p_s.length cp1) p_s] := hs.back [0] [0] rfl rfl rfl rfl hr
  clear hr
  replace hs : Sep w F R w1 F1 [] := hs.sel [] rfl rfl
  replace hf := Fr.keep (ks := [7]) (L' := [(7, .int .i64 z1)]) hf (by kernel_rfl)
  refine st tbOk 2 [4] (L' := [(4, .bool (decide (z1 ≥ 0)))]) hf (by kernel_rfl) ?_
  clear hf; clear a; intro a hf
  refine wpList_nil ?_
  have hr := Option.some.inj hS; subst hr
  refine wp_ret ?_
  exact ret_ok hf (vs := [.bool (decide (z1 ≥ 0))]) (by kernel_rfl) ⟨_, rfl, hs.sel [] rfl rfl⟩

set_option maxHeartbeats 4000000 in
theorem notes_zeros_ok {w : World} {F : SH} {b : List Int} {ao1 : Option Addr} {cp1 : Nat} (hs : Sep w F (blks [.ro (tI .u8) (.slice ao1 b.length cp1) b]) w F [.ro (tI .u8) (.slice ao1 b.length cp1) b]) {r : Bool} (hS : notes_zeros b = some r) :
    Calls Try.prog 41 [.slice ao1 b.length cp1].toArray w (Gives (fun u w' => ∃ (F' : SH), u = .bool r ∧ Sep w F (blks [.ro (tI .u8) (.slice ao1 b.length cp1) b]) w' F' [])) := by
  generalize (blks [.ro (tI .u8) (.slice ao1 b.length cp1) b]) = R at hs ⊢
  unfold notes_zeros at hS
  refine fn_ok (vs := [.slice ao1 b.length cp1]) Try.func41 rfl 6 Try.ntmps41 (Nat.le_of_ble_eq_true rfl) ?_
  intro a hf
  replace hf := Fr.cast (L' := [(0, .slice ao1 b.length cp1)]) hf (by kernel_rfl)
  refine sq ?_
  refine reg ?_
  refine st tbOk 1 [0] (L' := [(0, .slice ao1 b.length cp1)]) hf (by kernel_rfl) ?_
  clear hf; clear a; intro a hf
  refine wpList_nil ?_
  refine sq ?_
  refine reg ?_
  refine st tbOk 1 [3] (L' := [(3, .slice ao1 b.length cp1)]) hf (by kernel_rfl) ?_
  clear hf; clear a; intro a hf
  have hT := of_bd hS; clear hS; obtain ⟨z1, hz1, hS⟩ := hT
  refine clV ent48 (vs := [.slice ao1 b.length cp1, .func (.func 49) #[] #[]]) (caps := []) hf (by kernel_rfl) (by kernel_rfl) (by kernel_rfl) (by kernel_rfl) (slices_ContainsFunc_byte_byte_zeros_1_ok (p_s := b) (hs.enter [0] rfl rfl) hz1) ?_
  clear hf; clear a; intro v w1 a hT hf; obtain ⟨F1, rfl, hr⟩ := hT
  replace hs : Sep w F R w1 F1 [.ro (tI .u8) (.slice ao1 b.length cp1) b] := hs.back [0] [0] rfl rfl rfl rfl hr
  clear hr
  replace hs : Sep w F R w1 F1 [] := hs.sel [] rfl rfl
  replace hf := Fr.keep (ks := [4]) (L' := [(4, .bool z1)]) hf (by kernel_rfl)
  refine st tbOk 2 [2] (L' := [(2, .bool (!z1))]) hf (by kernel_rfl) ?_
  clear hf; clear a; intro a hf
  refine wpList_nil ?_
  have hr := Option.some.inj hS; subst hr
  refine wp_ret ?_
  exact ret_ok hf (vs := [.bool (!z1)]) (by kernel_rfl) ⟨_, rfl, hs.sel [] rfl rfl⟩

set_option maxHeartbeats 4000000 in
theorem notes_Get_2_Get_1_ok {w : World} {F : SH} {n : Int} {q_c0 : List Int} {ao1 : Option Addr} {cp1 : Nat} {b1 : Nat} {b2 : Nat} (hs : Sep w F (blks [.ro (tI .u8) (.slice ao1 q_c0.length cp1) q_c0, .cel b2 0 [.func (.func 38) #[] #[.pointer (some ⟨b1, 0, none⟩)]], .box b1 22 [.slice ao1 q_c0.length cp1]]) w F [.ro (tI .u8) (.slice ao1 q_c0.length cp1) q_c0, .cel b2 0 [.func (.func 38) #[] #[.pointer (some ⟨b1, 0, none⟩)]], .box b1 22 [.slice ao1 q_c0.length cp1]]) {r : (List Int) × Int × (List Int)} (hS : notes_Get_2_Get_1 n q_c0 = some r) :
    Calls Try.prog 40 [.int .u64 n, .pointer (some ⟨b2, 0, none⟩)].toArray w (Gives (fun u w' => ∃ (ao6 : Option Addr) (cp6 : Nat) (ao7 : Option Addr) (cp7 : Nat) (F' : SH), u = .tuple #[.slice ao6 r.1.length cp6, .int .i64 r.2.1] ∧ Sep w F (blks [.ro (tI .u8) (.slice ao1 q_c0.length cp1) q_c0, .cel b2 0 [.func (.func 38) #[] #[.pointer (some ⟨b1, 0, none⟩)]], .box b1 22 [.slice ao1 q_c0.length cp1]]) w' F' [.ro (tI .u8) (.slice ao6 r.1.length cp6) r.1, .box b1 22 [.slice ao7 r.2.2.length cp7], .ro (tI .u8) (.slice ao7 r.2.2.length cp7) r.2.2])) := by
  generalize (blks [.ro (tI .u8) (.slice ao1 q_c0.length cp1) q_c0, .cel b2 0 [.func (.func 38) #[] #[.pointer (some ⟨b1, 0, none⟩)]], .box b1 22 [.slice ao1 q_c0.length cp1]]) = R at hs ⊢
  unfold notes_Get_2_Get_1 at hS
  refine fn_ok (vs := [.int .u64 n, .pointer (some ⟨b2, 0, none⟩)]) Try.func40 rfl 27 Try.ntmps40 (Nat.le_of_ble_eq_true rfl) ?_
  intro a hf
  replace hf := Fr.cast (L' := [(0, .int .u64 n), (1, .pointer (some ⟨b2, 0, none⟩))]) hf (by kernel_rfl)
  refine sq ?_
  refine reg ?_
  refine st tbOk 2 [0, 1] (L' := [(0, .int .u64 n), (1, .pointer (some ⟨b2, 0, none⟩))]) hf (by kernel_rfl) ?_
  clear hf; clear a; intro a hf
  refine wpList_nil ?_
  refine sq ?_
  refine reg ?_
  refine ldC tbOk (T := 68) (hs.ccel 1 rfl) (LeH.refl _) 0 (.func (.func 38) #[] #[.pointer (some ⟨b1, 0, none⟩)]) hf (by kernel_rfl) (by kernel_rfl) (by kernel_rfl) (by kernel_rfl) ?_
  clear hf; clear a; intro a hf
  replace hs : Sep w F R w F [.ro (tI .u8) (.slice ao1 q_c0.length cp1) q_c0, .box b1 22 [.slice ao1 q_c0.length cp1]] := hs.sel [0, 2] rfl rfl
  replace hf := Fr.keep (ks := [0, 8]) (L' := [(0, .int .u64 n), (8, .func (.func 38) #[] #[.pointer (some ⟨b1, 0, none⟩)])]) hf (by kernel_rfl)
  refine st tbOk 3 [0, 8, 11] (L' := [(0, .int .u64 n), (8, .func (.func 38) #[] #[.pointer (some ⟨b1, 0, none⟩)]), (11, .int .u64 (bandn .u64 (IntKind.u64.wrap (n + 3)) 3))]) hf (by kernel_rfl) ?_
  clear hf; clear a; intro a hf
  have hT := of_bd hS; clear hS; obtain ⟨z1, hz1, hS⟩ := hT
  refine clV ent38 (vs := [.int .u64 (bandn .u64 (IntKind.u64.wrap (n + 3)) 3)]) (caps := [.pointer (some ⟨b1, 0, none⟩)]) hf (by kernel_rfl) (by kernel_rfl) (by kernel_rfl) (by kernel_rfl) (notes_Get_1_ok (n := bandn .u64 (IntKind.u64.wrap (n + 3)) 3) (q_1 := q_c0) (hs.enter [0, 1] rfl rfl) hz1) ?_
  clear hf; clear a; intro v w1 a hT hf; obtain ⟨ao2, cp2, ao3, cp3, F1, rfl, hr⟩ := hT
  replace hs : Sep w F R w1 F1 [.row 5 (tI .u8) (.slice ao2 z1.1.length cp2) z1.1, .box b1 22 [.slice ao3 z1.2.2.length cp3], .ro (tI .u8) (.slice ao3 z1.2.2.length cp3) z1.2.2, .ro (tI .u8) (.slice ao1 q_c0.length cp1) q_c0] := hs.back [0, 1] [0] rfl rfl rfl rfl hr
  clear hr
  replace hs : Sep w F R w1 F1 [.row 5 (tI .u8) (.slice ao2 z1.1.length cp2) z1.1, .box b1 22 [.slice ao3 z1.2.2.length cp3], .ro (tI .u8) (.slice ao3 z1.2.2.length cp3) z1.2.2] := hs.sel [0, 1, 2] rfl rfl
  replace hf := Fr.keep (ks := [0, 12]) (L' := [(0, .int .u64 n), (12, .tuple #[.slice ao2 z1.1.length cp2, .int .i64 z1.2.1])]) hf (by kernel_rfl)
  refine st tbOk 5 [0, 5, 6] (L' := [(0, .int .u64 n), (5, .slice ao2 z1.1.length cp2), (6, .int .i64 z1.2.1)]) hf (by kernel_rfl) ?_
  clear hf; clear a; intro a hf
  refine wpList_nil ?_
  refine sq ?_
  refine sq ?_
  refine reg ?_
  refine st tbOk 2 [0, 5, 6, 16] (L' := [(0, .int .u64 n), (5, .slice ao2 z1.1.length cp2), (6, .int .i64 z1.2.1), (16, .bool (z1.2.1 != 0))]) hf (by kernel_rfl) ?_
  clear hf; clear a; intro a hf
  refine wpList_nil ?_
  refine cnd (b := z1.2.1 != 0) hf (by kernel_rfl) (fun hb1 => ?_) (fun hb1 => ?_)
  · replace hS := of_t hb1 hS
    refine sq ?_
    refine reg ?_
    refine st tbOk 3 [3, 4] (L' := [(3, .slice none 0 0), (4, .int .i64 z1.2.1)]) hf (by kernel_rfl) ?_
    clear hf; clear a; intro a hf
    refine wpList_nil ?_
    have hr := Option.some.inj hS; subst hr
    refine wp_ret ?_
    replace hs : Sep w F R w1 F1 [.ro (tI .u8) (.slice none 0 0) ([] : List Int), .row 5 (tI .u8) (.slice ao2 z1.1.length cp2) z1.1, .box b1 22 [.slice ao3 z1.2.2.length cp3], .ro (tI .u8) (.slice ao3 z1.2.2.length cp3) z1.2.2] := hs.addRo (RO.nil _ _)
    exact ret_ok hf (vs := [.slice none 0 0, .int .i64 z1.2.1]) (by kernel_rfl) ⟨none, 0, ao3, cp3, _, rfl, hs.sel [0, 2, 3] rfl rfl⟩
  · replace hS := of_f hb1 hS
    refine wp_skip ?_
    refine sq ?_
    refine sq ?_
    refine reg ?_
    refine st tbOk 2 [0, 5, 18, 19] (L' := [(0, .int .u64 n), (5, .slice ao2 z1.1.length cp2), (18, .slice ao2 z1.1.length cp2), (19, .int .u64 n)]) hf (by kernel_rfl) ?_
    clear hf; clear a; intro a hf
    have hT := of_gd hS; clear hS; obtain ⟨hc1, hS⟩ := hT
    obtain ⟨F2, _, hs⟩ := hs.frz 0 rfl
    replace hs : Sep w F R w1 F2 [.ro (tI .u8) (.slice ao2 z1.1.length cp2) z1.1, .box b1 22 [.slice ao3 z1.2.2.length cp3], .ro (tI .u8) (.slice ao3 z1.2.2.length cp3) z1.2.2] := hs
    refine sl tbOk u22 i5 rfl (hs.ro 0 rfl) (lo := n) (hi := ((z1.1.length : Nat) : Int)) (m := 0) hc1 (.inr ⟨_, .u64, rfl, by kernel_rfl⟩) (.inl ⟨rfl, rfl⟩) (.inl rfl) hf (by kernel_rfl) (by kernel_rfl) (by kernel_rfl) ?_
    clear hf; clear a; intro ao4 cp4 a hr1 hf
    replace hs : Sep w F R w1 F2 [.ro (tI .u8) (.slice ao4 (cutL z1.1 n ((z1.1.length : Nat) : Int)).length cp4) (cutL z1.1 n ((z1.1.length : Nat) : Int)), .ro (tI .u8) (.slice ao2 z1.1.length cp2) z1.1, .box b1 22 [.slice ao3 z1.2.2.length cp3], .ro (tI .u8) (.slice ao3 z1.2.2.length cp3) z1.2.2] := hs.addRo hr1
    replace hf := Fr.keep (ks := [0, 5, 20]) (L' := [(0, .int .u64 n), (5, .slice ao2 z1.1.length cp2), (20, .slice ao4 (cutL z1.1 n ((z1.1.length : Nat) : Int)).length cp4)]) hf (by kernel_rfl)
    have hT := of_bd hS; clear hS; obtain ⟨z2, hz2, hS⟩ := hT
    refine clV ent41 (vs := [.slice ao4 (cutL z1.1 n ((z1.1.length : Nat) : Int)).length cp4]) (caps := []) hf (by kernel_rfl) (by kernel_rfl) (by kernel_rfl) (by kernel_rfl) (notes_zeros_ok (b := (cutL z1.1 n ((z1.1.length : Nat) : Int))) (hs.enter [0] rfl rfl) hz2) ?_
    clear hf; clear a; intro v w2 a hT hf; obtain ⟨F3, rfl, hr⟩ := hT
    replace hs : Sep w F R w2 F3 [.ro (tI .u8) (.slice ao4 (cutL z1.1 n ((z1.1.length : Nat) : Int)).length cp4) (cutL z1.1 n ((z1.1.length : Nat) : Int)), .ro (tI .u8) (.slice ao2 z1.1.length cp2) z1.1, .box b1 22 [.slice ao3 z1.2.2.length cp3], .ro (tI .u8) (.slice ao3 z1.2.2.length cp3) z1.2.2] := hs.back [0] [0, 1, 2, 3] rfl rfl rfl rfl hr
    clear hr
    replace hs : Sep w F R w2 F3 [.ro (tI .u8) (.slice ao2 z1.1.length cp2) z1.1, .box b1 22 [.slice ao3 z1.2.2.length cp3], .ro (tI .u8) (.slice ao3 z1.2.2.length cp3) z1.2.2] := hs.sel [1, 2, 3] rfl rfl
    replace hf := Fr.keep (ks := [0, 5, 21]) (L' := [(0, .int .u64 n), (5, .slice ao2 z1.1.length cp2), (21, .bool z2)]) hf (by kernel_rfl)
    refine st tbOk 1 [0, 5, 22] (L' := [(0, .int .u64 n), (5, .slice ao2 z1.1.length cp2), (22, .bool (!z2))]) hf (by kernel_rfl) ?_
    clear hf; clear a; intro a hf
    refine wpList_nil ?_
    refine cnd (b := !z2) hf (by kernel_rfl) (fun hb2 => ?_) (fun hb2 => ?_)
    · replace hS := of_t hb2 hS
      refine sq ?_
      refine reg ?_
      refine st tbOk 2 [3, 4] (L' := [(3, .slice none 0 0), (4, .int .i64 11)]) hf (by kernel_rfl) ?_
      clear hf; clear a; intro a hf
      refine wpList_nil ?_
      have hr := Option.some.inj hS; subst hr
      refine wp_ret ?_
      replace hs : Sep w F R w2 F3 [.ro (tI .u8) (.slice none 0 0) ([] : List Int), .ro (tI .u8) (.slice ao2 z1.1.length cp2) z1.1, .box b1 22 [.slice ao3 z1.2.2.length cp3], .ro (tI .u8) (.slice ao3 z1.2.2.length cp3) z1.2.2] := hs.addRo (RO.nil _ _)
      exact ret_ok hf (vs := [.slice none 0 0, .int .i64 11]) (by kernel_rfl) ⟨none, 0, ao3, cp3, _, rfl, hs.sel [0, 2, 3] rfl rfl⟩
    · replace hS := of_f hb2 hS
      refine wp_skip ?_
      refine sq ?_
      refine reg ?_
      refine st tbOk 3 [23, 24, 25] (L' := [(23, .slice ao2 z1.1.length cp2), (24, .int .u64 n), (25, .int .u64 n)]) hf (by kernel_rfl) ?_
      clear hf; clear a; intro a hf
      have hT := of_gd hS; clear hS; obtain ⟨hc2, hS⟩ := hT
      refine sl tbOk u22 i5 rfl (hs.ro 0 rfl) (lo := 0) (hi := n) (m := n) hc2.1 (.inl ⟨rfl, rfl⟩) (.inr ⟨_, .u64, rfl, by kernel_rfl⟩) (.inr ⟨⟨_, .u64, rfl, by kernel_rfl⟩, by simp, hc2.2⟩) hf (by kernel_rfl) (by kernel_rfl) (by kernel_rfl) ?_
      clear hf; clear a; intro ao5 cp5 a hr2 hf
      replace hs : Sep w F R w2 F3 [.ro (tI .u8) (.slice ao5 (cutL z1.1 0 n).length cp5) (cutL z1.1 0 n), .ro (tI .u8) (.slice ao2 z1.1.length cp2) z1.1, .box b1 22 [.slice ao3 z1.2.2.length cp3], .ro (tI .u8) (.slice ao3 z1.2.2.length cp3) z1.2.2] := hs.addRo hr2
      replace hs : Sep w F R w2 F3 [.ro (tI .u8) (.slice ao5 (cutL z1.1 0 n).length cp5) (cutL z1.1 0 n), .box b1 22 [.slice ao3 z1.2.2.length cp3], .ro (tI .u8) (.slice ao3 z1.2.2.length cp3) z1.2.2] := hs.sel [0, 2, 3] rfl rfl
      replace hf := Fr.keep (ks := [26]) (L' := [(26, .slice ao5 (cutL z1.1 0 n).length cp5)]) hf (by kernel_rfl)
      refine st tbOk 2 [3, 4] (L' := [(3, .slice ao5 (cutL z1.1 0 n).length cp5), (4, .int .i64 0)]) hf (by kernel_rfl) ?_
      clear hf; clear a; intro a hf
      refine wpList_nil ?_
      have hr := Option.some.inj hS; subst hr
      refine wp_ret ?_
      exact ret_ok hf (vs := [.slice ao5 (cutL z1.1 0 n).length cp5, .int .i64 0]) (by kernel_rfl) ⟨ao5, cp5, ao3, cp3, _, rfl, hs.sel [0, 1, 2] rfl rfl⟩

set_option maxHeartbeats 4000000 in
theorem notes_Get_ok {w : World} {F : SH} {b : List Int} {ao1 : Option Addr} {cp1 : Nat} (hs : Sep w F (blks [.ro (tI .u8) (.slice ao1 b.length cp1) b]) w F [.ro (tI .u8) (.slice ao1 b.length cp1) b]) {r : (List ((List UInt8) × Int × (List Int))) × Int} (hS : notes_Get b = some r) :
    Calls Try.prog 28 [.slice ao1 b.length cp1].toArray w (Gives (fun u w' => ∃ (ao17 : Option Addr) (cp17 : Nat) (F' : SH), u = .tuple #[.slice ao17 r.1.length cp17, .int .i64 r.2] ∧ Sep w F (blks [.ro (tI .u8) (.slice ao1 b.length cp1) b]) w' F' [.row 54 ty53 (.slice ao17 r.1.length cp17) r.1])) := by
  generalize (blks [.ro (tI .u8) (.slice ao1 b.length cp1) b]) = R at hs ⊢
  unfold notes_Get at hS
  refine fn_ok (vs := [.slice ao1 b.length cp1]) Try.func28 rfl 87 Try.ntmps28 (Nat.le_of_ble_eq_true rfl) ?_
  intro a hf
  replace hf := Fr.cast (L' := [(0, .slice ao1 b.length cp1)]) hf (by kernel_rfl)
  refine sq ?_
  refine reg ?_
  refine bx (T := 22) [.slice ao1 b.length cp1] (v := .slice ao1 b.length cp1) rfl (by kernel_rfl) hf (by kernel_rfl) (by kernel_rfl) (by kernel_rfl) ?_
  clear hf; clear a; intro w1 a hb hx _ hf
  replace hs : Sep w F R w1 F [.box w.heap.size 22 [.slice ao1 b.length cp1], .ro (tI .u8) (.slice ao1 b.length cp1) b] := hs.newBox hb hx
  clear hb hx
  replace hf := Fr.keep (ks := [1]) (L' := [(1, .pointer (some ⟨w.heap.size, 0, none⟩))]) hf (by kernel_rfl)
  refine st tbOk 2 [1] (L' := [(1, .pointer (some ⟨w.heap.size, 0, none⟩))]) hf (by kernel_rfl) ?_
  clear hf; clear a; intro a hf
  refine wpList_nil ?_
  refine sq ?_
  refine sq ?_
  refine reg ?_
  refine ldC tbOk (T := 22) (hs.cbx 0 rfl) (LeH.refl _) 0 (.slice ao1 b.length cp1) hf (by kernel_rfl) (by kernel_rfl) (by kernel_rfl) (by kernel_rfl) ?_
  clear hf; clear a; intro a hf
  replace hf := Fr.keep (ks := [1, 13]) (L' := [(1, .pointer (some ⟨w.heap.size, 0, none⟩)), (13, .slice ao1 b.length cp1)]) hf (by kernel_rfl)
  refine st tbOk 2 [1, 15] (L' := [(1, .pointer (some ⟨w.heap.size, 0, none⟩)), (15, .bool (decide (((b.length : Nat) : Int) > 65536)))]) hf (by kernel_rfl) ?_
  clear hf; clear a; intro a hf
  refine wpList_nil ?_
  refine cnd (b := decide (((b.length : Nat) : Int) > 65536)) hf (by kernel_rfl) (fun hb1 => ?_) (fun hb1 => ?_)
  · replace hS := of_t hb1 hS
    refine sq ?_
    refine reg ?_
    refine st tbOk 2 [2, 3] (L' := [(2, .slice none 0 0), (3, .int .i64 13)]) hf (by kernel_rfl) ?_
    clear hf; clear a; intro a hf
    refine wpList_nil ?_
    have hr := Option.some.inj hS; subst hr
    refine wp_ret ?_
    replace hs : Sep w F R w1 F [.row 54 ty53 (.slice none 0 0) ([] : List ((List UInt8) × Int × (List Int))), .box w.heap.size 22 [.slice ao1 b.length cp1], .ro (tI .u8) (.slice ao1 b.length cp1) b] := hs.addNil 54 ty53
    exact ret_ok hf (vs := [.slice none 0 0, .int .i64 13]) (by kernel_rfl) ⟨none, 0, _, rfl, hs.sel [0] rfl rfl⟩
  · replace hS := of_f hb1 hS
    refine wp_skip ?_
    refine sq ?_
    refine reg ?_
    refine st tbOk 1 [1, 16] (L' := [(1, .pointer (some ⟨w.heap.size, 0, none⟩)), (16, .func (.func 38) #[] #[.pointer (some ⟨w.heap.size, 0, none⟩)])]) hf (by kernel_rfl) ?_
    clear hf; clear a; intro a hf
    refine al tbOk i68 [.nilFunc] rfl (by kernel_rfl) hf (by kernel_rfl) (by kernel_rfl) ?_
    clear hf; clear a; intro w2 a hb hx _ hf
    replace hs : Sep w F R w2 F [.box w1.heap.size 68 [.nilFunc], .box w.heap.size 22 [.slice ao1 b.length cp1], .ro (tI .u8) (.slice ao1 b.length cp1) b] := hs.newBox hb hx
    clear hb hx
    replace hf := Fr.keep (ks := [1, 4, 16]) (L' := [(1, .pointer (some ⟨w.heap.size, 0, none⟩)), (4, .pointer (some ⟨w1.heap.size, 0, none⟩)), (16, .func (.func 38) #[] #[.pointer (some ⟨w.heap.size, 0, none⟩)])]) hf (by kernel_rfl)
    refine stB tbOk i68 (hs.bx 0 rfl) 0 [.func (.func 38) #[] #[.pointer (some ⟨w.heap.size, 0, none⟩)]] [.func (.func 38) #[] #[.pointer (some ⟨w.heap.size, 0, none⟩)]] (v := .func (.func 38) #[] #[.pointer (some ⟨w.heap.size, 0, none⟩)]) rfl rfl (by kernel_rfl) (by kernel_rfl) (by kernel_rfl) (by kernel_rfl) hf (by kernel_rfl) (by kernel_rfl) (by kernel_rfl) ?_
    clear hf; clear a; intro w3 a hb hg _ hf
    replace hs : Sep w F R w3 F [.box w1.heap.size 68 [.func (.func 38) #[] #[.pointer (some ⟨w.heap.size, 0, none⟩)]], .box w.heap.size 22 [.slice ao1 b.length cp1], .ro (tI .u8) (.slice ao1 b.length cp1) b] := hs.updBox 0 rfl hb hg
    clear hb hg
    replace hf := Fr.keep (ks := [1, 4]) (L' := [(1, .pointer (some ⟨w.heap.size, 0, none⟩)), (4, .pointer (some ⟨w1.heap.size, 0, none⟩))]) hf (by kernel_rfl)
    refine wpList_nil ?_
    refine sq ?_
    refine reg ?_
    refine st tbOk 2 [1, 4, 5] (L' := [(1, .pointer (some ⟨w.heap.size, 0, none⟩)), (4, .pointer (some ⟨w1.heap.size, 0, none⟩)), (5, .func (.func 40) #[] #[.pointer (some ⟨w1.heap.size, 0, none⟩)])]) hf (by kernel_rfl) ?_
    clear hf; clear a; intro a hf
    refine wpList_nil ?_
    refine sq ?_
    refine reg ?_
    refine st tbOk 1 [1, 4, 5, 6] (L' := [(1, .pointer (some ⟨w.heap.size, 0, none⟩)), (4, .pointer (some ⟨w1.heap.size, 0, none⟩)), (5, .func (.func 40) #[] #[.pointer (some ⟨w1.heap.size, 0, none⟩)]), (6, .slice none 0 0)]) hf (by kernel_rfl) ?_
    clear hf; clear a; intro a hf
    refine wpList_nil ?_
    refine sq ?_
    obtain ⟨F1, _, hs⟩ := hs.frz 0 rfl
    replace hs : Sep w F R w3 F1 [.cel w1.heap.size 0 [.func (.func 38) #[] #[.pointer (some ⟨w.heap.size, 0, none⟩)]], .box w.heap.size 22 [.slice ao1 b.length cp1], .ro (tI .u8) (.slice ao1 b.length cp1) b] := hs
    refine ctj (fun (s2 : List ((List UInt8) × Int × (List Int))) (a : Act) (w' : World) => ∃ (ao2 : Option Addr) (cp2 : Nat) (F2 : SH), Sep w F R w' F2 [.row 54 ty53 (.slice ao2 s2.length cp2) s2] ∧ Fr 87 [(6, .slice ao2 s2.length cp2)] a) hS ?_ ?_
    · clear hS hf hs; clear a; intro s2 a w18 hM hS
      obtain ⟨ao2, cp2, F2, hs, hf⟩ := hM
      refine sq ?_
      refine reg ?_
      refine st tbOk 3 [2, 3] (L' := [(2, .slice ao2 s2.length cp2), (3, .int .i64 0)]) hf (by kernel_rfl) ?_
      clear hf; clear a; intro a hf
      refine wpList_nil ?_
      have hr := Option.some.inj hS; subst hr
      refine wp_ret ?_
      exact ret_ok hf (vs := [.slice ao2 s2.length cp2, .int .i64 0]) (by kernel_rfl) ⟨ao2, cp2, _, rfl, hs.sel [0] rfl rfl⟩
    · clear hS; intro KK1 k2 hK1 hS
      refine blk ?_
      replace hs : Sep w F R w3 F1 [.row 54 ty53 (.slice none 0 0) ([] : List ((List UInt8) × Int × (List Int))), .cel w1.heap.size 0 [.func (.func 38) #[] #[.pointer (some ⟨w.heap.size, 0, none⟩)]], .box w.heap.size 22 [.slice ao1 b.length cp1], .ro (tI .u8) (.slice ao1 b.length cp1) b] := hs.addNil 54 ty53
      refine lp (st := ([], b)) (fun (s3 : (List ((List UInt8) × Int × (List Int))) × (List Int)) (a : Act) (w' : World) => ∃ (ao3 : Option Addr) (cp3 : Nat) (ao4 : Option Addr) (cp4 : Nat) (F3 : SH), Sep w F R w' F3 [.row 54 ty53 (.slice ao3 s3.1.length cp3) s3.1, .ro (tI .u8) (.slice ao4 s3.2.length cp4) s3.2, .box w.heap.size 22 [.slice ao4 s3.2.length cp4], .cel w1.heap.size 0 [.func (.func 38) #[] #[.pointer (some ⟨w.heap.size, 0, none⟩)]]] ∧ Fr 87 [(1, .pointer (some ⟨w.heap.size, 0, none⟩)), (4, .pointer (some ⟨w1.heap.size, 0, none⟩)), (5, .func (.func 40) #[] #[.pointer (some ⟨w1.heap.size, 0, none⟩)]), (6, .slice ao3 s3.1.length cp3)] a) ?_ ⟨none, 0, ao1, cp1, _, hs.sel [0, 3, 2, 1] rfl rfl, hf.keep (ks := [1, 4, 5, 6]) (by kernel_rfl)⟩ hS
      clear hS hf hs; clear a
      intro rec1 KK2 hK2 s3 a w4 hM hS
      obtain ⟨ao3, cp3, ao4, cp4, F3, hs, hf⟩ := hM
      refine sq ?_
      refine sq ?_
      refine reg ?_
      refine ldC tbOk (T := 22) (hs.cbx 2 rfl) (LeH.refl _) 0 (.slice ao4 s3.2.length cp4) hf (by kernel_rfl) (by kernel_rfl) (by kernel_rfl) (by kernel_rfl) ?_
      clear hf; clear a; intro a hf
      replace hf := Fr.keep (ks := [1, 4, 5, 6, 18]) (L' := [(1, .pointer (some ⟨w.heap.size, 0, none⟩)), (4, .pointer (some ⟨w1.heap.size, 0, none⟩)), (5, .func (.func 40) #[] #[.pointer (some ⟨w1.heap.size, 0, none⟩)]), (6, .slice ao3 s3.1.length cp3), (18, .slice ao4 s3.2.length cp4)]) hf (by kernel_rfl)
      refine st tbOk 2 [1, 4, 5, 6, 20] (L' := [(1, .pointer (some ⟨w.heap.size, 0, none⟩)), (4, .pointer (some ⟨w1.heap.size, 0, none⟩)), (5, .func (.func 40) #[] #[.pointer (some ⟨w1.heap.size, 0, none⟩)]), (6, .slice ao3 s3.1.length cp3), (20, .bool (decide (((s3.2.length : Nat) : Int) > 0)))]) hf (by kernel_rfl) ?_
      clear hf; clear a; intro a hf
      refine wpList_nil ?_
      refine cnd (b := decide (((s3.2.length : Nat) : Int) > 0)) hf (by kernel_rfl) (fun hb2 => ?_) (fun hb2 => ?_)
      · replace hS := of_t hb2 hS
        refine wp_skip ?_
        refine ctj (fun (s4 : (List ((List UInt8) × Int × (List Int))) × (List Int)) (a : Act) (w' : World) => ∃ (ao5 : Option Addr) (cp5 : Nat) (ao6 : Option Addr) (cp6 : Nat) (F4 : SH), Sep w F R w' F4 [.row 54 ty53 (.slice ao5 s4.1.length cp5) s4.1, .ro (tI .u8) (.slice ao6 s4.2.length cp6) s4.2, .box w.heap.size 22 [.slice ao6 s4.2.length cp6], .cel w1.heap.size 0 [.func (.func 38) #[] #[.pointer (some ⟨w.heap.size, 0, none⟩)]]] ∧ Fr 87 [(1, .pointer (some ⟨w.heap.size, 0, none⟩)), (4, .pointer (some ⟨w1.heap.size, 0, none⟩)), (5, .func (.func 40) #[] #[.pointer (some ⟨w1.heap.size, 0, none⟩)]), (6, .slice ao5 s4.1.length cp5)] a) hS ?_ ?_
        · clear hS hf hs; clear a; intro s4 a w17 hM hS
          obtain ⟨ao5, cp5, ao6, cp6, F4, hs, hf⟩ := hM
          exact hK2 (s4.1, s4.2) _ _ ⟨ao5, cp5, ao6, cp6, _, hs.sel [0, 1, 2, 3] rfl rfl, hf.keep (ks := [1, 4, 5, 6]) (by kernel_rfl)⟩ hS
        · clear hS; intro KK3 k3 hK3 hS
          refine blk ?_
          refine sq ?_
          refine reg ?_
          refine ldC tbOk (T := 68) (hs.ccel 3 rfl) (LeH.refl _) 0 (.func (.func 38) #[] #[.pointer (some ⟨w.heap.size, 0, none⟩)]) hf (by kernel_rfl) (by kernel_rfl) (by kernel_rfl) (by kernel_rfl) ?_
          clear hf; clear a; intro a hf
          replace hf := Fr.keep (ks := [1, 4, 5, 6, 22]) (L' := [(1, .pointer (some ⟨w.heap.size, 0, none⟩)), (4, .pointer (some ⟨w1.heap.size, 0, none⟩)), (5, .func (.func 40) #[] #[.pointer (some ⟨w1.heap.size, 0, none⟩)]), (6, .slice ao3 s3.1.length cp3), (22, .func (.func 38) #[] #[.pointer (some ⟨w.heap.size, 0, none⟩)])]) hf (by kernel_rfl)
          have hT := of_bd hS; clear hS; obtain ⟨z1, hz1, hS⟩ := hT
          refine clV ent38 (vs := [.int .u64 12]) (caps := [.pointer (some ⟨w.heap.size, 0, none⟩)]) hf (by kernel_rfl) (by kernel_rfl) (by kernel_rfl) (by kernel_rfl) (notes_Get_1_ok (n := 12) (q_1 := s3.2) (hs.enter [1, 2] rfl rfl) hz1) ?_
          clear hf; clear a; intro v w5 a hT hf; obtain ⟨ao7, cp7, ao8, cp8, F5, rfl, hr⟩ := hT
          replace hs : Sep w F R w5 F5 [.row 5 (tI .u8) (.slice ao7 z1.1.length cp7) z1.1, .box w.heap.size 22 [.slice ao8 z1.2.2.length cp8], .ro (tI .u8) (.slice ao8 z1.2.2.length cp8) z1.2.2, .row 54 ty53 (.slice ao3 s3.1.length cp3) s3.1, .ro (tI .u8) (.slice ao4 s3.2.length cp4) s3.2, .cel w1.heap.size 0 [.func (.func 38) #[] #[.pointer (some ⟨w.heap.size, 0, none⟩)]]] := hs.back [1, 2] [0, 1, 3] rfl rfl rfl rfl hr
          clear hr
          replace hs : Sep w F R w5 F5 [.row 5 (tI .u8) (.slice ao7 z1.1.length cp7) z1.1, .box w.heap.size 22 [.slice ao8 z1.2.2.length cp8], .ro (tI .u8) (.slice ao8 z1.2.2.length cp8) z1.2.2, .row 54 ty53 (.slice ao3 s3.1.length cp3) s3.1, .cel w1.heap.size 0 [.func (.func 38) #[] #[.pointer (some ⟨w.heap.size, 0, none⟩)]]] := hs.sel [0, 1, 2, 3, 5] rfl rfl
          replace hf := Fr.keep (ks := [1, 4, 5, 6, 23]) (L' := [(1, .pointer (some ⟨w.heap.size, 0, none⟩)), (4, .pointer (some ⟨w1.heap.size, 0, none⟩)), (5, .func (.func 40) #[] #[.pointer (some ⟨w1.heap.size, 0, none⟩)]), (6, .slice ao3 s3.1.length cp3), (23, .tuple #[.slice ao7 z1.1.length cp7, .int .i64 z1.2.1])]) hf (by kernel_rfl)
          refine st tbOk 5 [1, 4, 5, 6, 7, 8] (L' := [(1, .pointer (some ⟨w.heap.size, 0, none⟩)), (4, .pointer (some ⟨w1.heap.size, 0, none⟩)), (5, .func (.func 40) #[] #[.pointer (some ⟨w1.heap.size, 0, none⟩)]), (6, .slice ao3 s3.1.length cp3), (7, .slice ao7 z1.1.length cp7), (8, .int .i64 z1.2.1)]) hf (by kernel_rfl) ?_
          clear hf; clear a; intro a hf
          refine wpList_nil ?_
          refine sq ?_
          refine sq ?_
          refine reg ?_
          refine st tbOk 2 [1, 4, 5, 6, 7, 8, 27] (L' := [(1, .pointer (some ⟨w.heap.size, 0, none⟩)), (4, .pointer (some ⟨w1.heap.size, 0, none⟩)), (5, .func (.func 40) #[] #[.pointer (some ⟨w1.heap.size, 0, none⟩)]), (6, .slice ao3 s3.1.length cp3), (7, .slice ao7 z1.1.length cp7), (8, .int .i64 z1.2.1), (27, .bool (z1.2.1 != 0))]) hf (by kernel_rfl) ?_
          clear hf; clear a; intro a hf
          refine wpList_nil ?_
          refine cnd (b := z1.2.1 != 0) hf (by kernel_rfl) (fun hb3 => ?_) (fun hb3 => ?_)
          · replace hS := of_t hb3 hS
            refine sq ?_
            refine reg ?_
            refine st tbOk 3 [2, 3] (L' := [(2, .slice none 0 0), (3, .int .i64 z1.2.1)]) hf (by kernel_rfl) ?_
            clear hf; clear a; intro a hf
            refine wpList_nil ?_
            have hr := Option.some.inj hS; subst hr
            refine wp_ret ?_
            replace hs : Sep w F R w5 F5 [.row 54 ty53 (.slice none 0 0) ([] : List ((List UInt8) × Int × (List Int))), .row 5 (tI .u8) (.slice ao7 z1.1.length cp7) z1.1, .box w.heap.size 22 [.slice ao8 z1.2.2.length cp8], .ro (tI .u8) (.slice ao8 z1.2.2.length cp8) z1.2.2, .row 54 ty53 (.slice ao3 s3.1.length cp3) s3.1, .cel w1.heap.size 0 [.func (.func 38) #[] #[.pointer (some ⟨w.heap.size, 0, none⟩)]]] := hs.addNil 54 ty53
            exact ret_ok hf (vs := [.slice none 0 0, .int .i64 z1.2.1]) (by kernel_rfl) ⟨none, 0, _, rfl, hs.sel [0] rfl rfl⟩
          · replace hS := of_f hb3 hS
            refine wp_skip ?_
            refine sq ?_
            refine reg ?_
            refine al tbOk i69 (List.map (Value.int .u64) (List.replicate 3 0 : List Int)) rfl (by kernel_rfl) hf (by kernel_rfl) (by kernel_rfl) ?_
            clear hf; clear a; intro w6 a hb hx _ hf
            replace hs : Sep w F R w6 F5 [.box w5.heap.size 69 (List.map (Value.int .u64) (List.replicate 3 0 : List Int)), .row 5 (tI .u8) (.slice ao7 z1.1.length cp7) z1.1, .box w.heap.size 22 [.slice ao8 z1.2.2.length cp8], .ro (tI .u8) (.slice ao8 z1.2.2.length cp8) z1.2.2, .row 54 ty53 (.slice ao3 s3.1.length cp3) s3.1, .cel w1.heap.size 0 [.func (.func 38) #[] #[.pointer (some ⟨w.heap.size, 0, none⟩)]]] := hs.newBox hb hx
            clear hb hx
            replace hf := Fr.keep (ks := [1, 4, 5, 6, 7, 9]) (L' := [(1, .pointer (some ⟨w.heap.size, 0, none⟩)), (4, .pointer (some ⟨w1.heap.size, 0, none⟩)), (5, .func (.func 40) #[] #[.pointer (some ⟨w1.heap.size, 0, none⟩)]), (6, .slice ao3 s3.1.length cp3), (7, .slice ao7 z1.1.length cp7), (9, .pointer (some ⟨w5.heap.size, 0, none⟩))]) hf (by kernel_rfl)
            refine wpList_nil ?_
            refine sq ?_
            refine sq ?_
            refine reg ?_
            refine st tbOk 1 [1, 4, 5, 6, 7, 9, 29] (L' := [(1, .pointer (some ⟨w.heap.size, 0, none⟩)), (4, .pointer (some ⟨w1.heap.size, 0, none⟩)), (5, .func (.func 40) #[] #[.pointer (some ⟨w1.heap.size, 0, none⟩)]), (6, .slice ao3 s3.1.length cp3), (7, .slice ao7 z1.1.length cp7), (9, .pointer (some ⟨w5.heap.size, 0, none⟩)), (29, .int .i64 0)]) hf (by kernel_rfl) ?_
            clear hf; clear a; intro a hf
            refine wpList_nil ?_
            refine ctj (fun (s5 : List Int) (a : Act) (w' : World) => ∃ (F6 : SH), Sep w F R w' F6 [.box w5.heap.size 69 (List.map (Value.int .u64) s5), .box w.heap.size 22 [.slice ao8 z1.2.2.length cp8], .ro (tI .u8) (.slice ao8 z1.2.2.length cp8) z1.2.2, .row 54 ty53 (.slice ao3 s3.1.length cp3) s3.1, .cel w1.heap.size 0 [.func (.func 38) #[] #[.pointer (some ⟨w.heap.size, 0, none⟩)]]] ∧ s5.length = 3 ∧ Fr 87 [(1, .pointer (some ⟨w.heap.size, 0, none⟩)), (4, .pointer (some ⟨w1.heap.size, 0, none⟩)), (5, .func (.func 40) #[] #[.pointer (some ⟨w1.heap.size, 0, none⟩)]), (6, .slice ao3 s3.1.length cp3), (9, .pointer (some ⟨w5.heap.size, 0, none⟩))] a) hS ?_ ?_
            · clear hS hf hs; clear a; intro s5 a w10 hM hS
              obtain ⟨F6, hs, hn1, hf⟩ := hM
              refine sq ?_
              refine sq ?_
              refine reg ?_
              have hT := of_gd hS; clear hS; obtain ⟨hc2, hS⟩ := hT
              refine ixB tbOk u69 i23 (b := w5.heap.size) (k := .i64) (i := 0) hc2 hf (by kernel_rfl) (by kernel_rfl) (by kernel_rfl) (by kernel_rfl) ?_
              clear hf; clear a; intro po2 a hq2 hf
              have hp1 := arrCell (hs.cbx 0 rfl) hn1 hc2 hq2
              replace hf := Fr.keep (ks := [1, 4, 5, 6, 9, 43]) (L' := [(1, .pointer (some ⟨w.heap.size, 0, none⟩)), (4, .pointer (some ⟨w1.heap.size, 0, none⟩)), (5, .func (.func 40) #[] #[.pointer (some ⟨w1.heap.size, 0, none⟩)]), (6, .slice ao3 s3.1.length cp3), (9, .pointer (some ⟨w5.heap.size, 0, none⟩)), (43, .pointer (some ⟨w5.heap.size, po2, none⟩))]) hf (by kernel_rfl)
              refine ldC tbOk (T := 23) hp1 (LeH.refl _) 0 (.int .u64 (gt s5 0)) hf (by kernel_rfl) (by kernel_rfl) (by kernel_rfl) (by kernel_rfl) ?_
              clear hf; clear a; intro a hf
              replace hf := Fr.keep (ks := [1, 4, 5, 6, 9, 44]) (L' := [(1, .pointer (some ⟨w.heap.size, 0, none⟩)), (4, .pointer (some ⟨w1.heap.size, 0, none⟩)), (5, .func (.func 40) #[] #[.pointer (some ⟨w1.heap.size, 0, none⟩)]), (6, .slice ao3 s3.1.length cp3), (9, .pointer (some ⟨w5.heap.size, 0, none⟩)), (44, .int .u64 (gt s5 0))]) hf (by kernel_rfl)
              refine st tbOk 1 [1, 4, 5, 6, 9, 45] (L' := [(1, .pointer (some ⟨w.heap.size, 0, none⟩)), (4, .pointer (some ⟨w1.heap.size, 0, none⟩)), (5, .func (.func 40) #[] #[.pointer (some ⟨w1.heap.size, 0, none⟩)]), (6, .slice ao3 s3.1.length cp3), (9, .pointer (some ⟨w5.heap.size, 0, none⟩)), (45, .bool ((gt s5 0) == 0))]) hf (by kernel_rfl) ?_
              clear hf; clear a; intro a hf
              refine wpList_nil ?_
              refine cnd (b := (gt s5 0) == 0) hf (by kernel_rfl) (fun hb5 => ?_) (fun hb5 => ?_)
              · replace hS := of_t hb5 hS
                refine sq ?_
                refine reg ?_
                refine st tbOk 2 [2, 3] (L' := [(2, .slice none 0 0), (3, .int .i64 11)]) hf (by kernel_rfl) ?_
                clear hf; clear a; intro a hf
                refine wpList_nil ?_
                have hr := Option.some.inj hS; subst hr
                refine wp_ret ?_
                replace hs : Sep w F R w10 F6 [.row 54 ty53 (.slice none 0 0) ([] : List ((List UInt8) × Int × (List Int))), .box w5.heap.size 69 (List.map (Value.int .u64) s5), .box w.heap.size 22 [.slice ao8 z1.2.2.length cp8], .ro (tI .u8) (.slice ao8 z1.2.2.length cp8) z1.2.2, .row 54 ty53 (.slice ao3 s3.1.length cp3) s3.1, .cel w1.heap.size 0 [.func (.func 38) #[] #[.pointer (some ⟨w.heap.size, 0, none⟩)]]] := hs.addNil 54 ty53
                exact ret_ok hf (vs := [.slice none 0 0, .int .i64 11]) (by kernel_rfl) ⟨none, 0, _, rfl, hs.sel [0] rfl rfl⟩
              · replace hS := of_f hb5 hS
                refine wp_skip ?_
                refine sq ?_
                refine reg ?_
                refine st tbOk 1 [1, 4, 5, 6, 9, 47] (L' := [(1, .pointer (some ⟨w.heap.size, 0, none⟩)), (4, .pointer (some ⟨w1.heap.size, 0, none⟩)), (5, .func (.func 40) #[] #[.pointer (some ⟨w1.heap.size, 0, none⟩)]), (6, .slice ao3 s3.1.length cp3), (9, .pointer (some ⟨w5.heap.size, 0, none⟩)), (47, .func (.func 40) #[] #[.pointer (some ⟨w1.heap.size, 0, none⟩)])]) hf (by kernel_rfl) ?_
                clear hf; clear a; intro a hf
                have hT := of_gd hS; clear hS; obtain ⟨hc3, hS⟩ := hT
                refine ixB tbOk u69 i23 (b := w5.heap.size) (k := .i64) (i := 0) hc3 hf (by kernel_rfl) (by kernel_rfl) (by kernel_rfl) (by kernel_rfl) ?_
                clear hf; clear a; intro po3 a hq3 hf
                have hp2 := arrCell (hs.cbx 0 rfl) hn1 hc3 hq3
                replace hf := Fr.keep (ks := [1, 4, 5, 6, 9, 47, 48]) (L' := [(1, .pointer (some ⟨w.heap.size, 0, none⟩)), (4, .pointer (some ⟨w1.heap.size, 0, none⟩)), (5, .func (.func 40) #[] #[.pointer (some ⟨w1.heap.size, 0, none⟩)]), (6, .slice ao3 s3.1.length cp3), (9, .pointer (some ⟨w5.heap.size, 0, none⟩)), (47, .func (.func 40) #[] #[.pointer (some ⟨w1.heap.size, 0, none⟩)]), (48, .pointer (some ⟨w5.heap.size, po3, none⟩))]) hf (by kernel_rfl)
                refine ldC tbOk (T := 23) hp2 (LeH.refl _) 0 (.int .u64 (gt s5 0)) hf (by kernel_rfl) (by kernel_rfl) (by kernel_rfl) (by kernel_rfl) ?_
                clear hf; clear a; intro a hf
                replace hf := Fr.keep (ks := [1, 4, 5, 6, 9, 47, 49]) (L' := [(1, .pointer (some ⟨w.heap.size, 0, none⟩)), (4, .pointer (some ⟨w1.heap.size, 0, none⟩)), (5, .func (.func 40) #[] #[.pointer (some ⟨w1.heap.size, 0, none⟩)]), (6, .slice ao3 s3.1.length cp3), (9, .pointer (some ⟨w5.heap.size, 0, none⟩)), (47, .func (.func 40) #[] #[.pointer (some ⟨w1.heap.size, 0, none⟩)]), (49, .int .u64 (gt s5 0))]) hf (by kernel_rfl)
                have hT := of_bd hS; clear hS; obtain ⟨z3, hz3, hS⟩ := hT
                refine clV ent40 (vs := [.int .u64 (gt s5 0)]) (caps := [.pointer (some ⟨w1.heap.size, 0, none⟩)]) hf (by kernel_rfl) (by kernel_rfl) (by kernel_rfl) (by kernel_rfl) (notes_Get_2_Get_1_ok (n := gt s5 0) (q_c0 := z1.2.2) (hs.enter [2, 4, 1] rfl rfl) hz3) ?_
                clear hf; clear a; intro v w11 a hT hf; obtain ⟨ao9, cp9, ao10, cp10, F9, rfl, hr⟩ := hT
                replace hs : Sep w F R w11 F9 [.ro (tI .u8) (.slice ao9 z3.1.length cp9) z3.1, .box w.heap.size 22 [.slice ao10 z3.2.2.length cp10], .ro (tI .u8) (.slice ao10 z3.2.2.length cp10) z3.2.2, .box w5.heap.size 69 (List.map (Value.int .u64) s5), .ro (tI .u8) (.slice ao8 z1.2.2.length cp8) z1.2.2, .row 54 ty53 (.slice ao3 s3.1.length cp3) s3.1, .cel w1.heap.size 0 [.func (.func 38) #[] #[.pointer (some ⟨w.heap.size, 0, none⟩)]]] := hs.back [2, 4, 1] [0, 2, 3, 4] rfl rfl rfl rfl hr
                clear hr
                replace hs : Sep w F R w11 F9 [.ro (tI .u8) (.slice ao9 z3.1.length cp9) z3.1, .box w.heap.size 22 [.slice ao10 z3.2.2.length cp10], .ro (tI .u8) (.slice ao10 z3.2.2.length cp10) z3.2.2, .box w5.heap.size 69 (List.map (Value.int .u64) s5), .row 54 ty53 (.slice ao3 s3.1.length cp3) s3.1, .cel w1.heap.size 0 [.func (.func 38) #[] #[.pointer (some ⟨w.heap.size, 0, none⟩)]]] := hs.sel [0, 1, 2, 3, 5, 6] rfl rfl
                replace hf := Fr.keep (ks := [1, 4, 5, 6, 9, 50]) (L' := [(1, .pointer (some ⟨w.heap.size, 0, none⟩)), (4, .pointer (some ⟨w1.heap.size, 0, none⟩)), (5, .func (.func 40) #[] #[.pointer (some ⟨w1.heap.size, 0, none⟩)]), (6, .slice ao3 s3.1.length cp3), (9, .pointer (some ⟨w5.heap.size, 0, none⟩)), (50, .tuple #[.slice ao9 z3.1.length cp9, .int .i64 z3.2.1])]) hf (by kernel_rfl)
                refine st tbOk 5 [1, 4, 5, 6, 8, 9, 11] (L' := [(1, .pointer (some ⟨w.heap.size, 0, none⟩)), (4, .pointer (some ⟨w1.heap.size, 0, none⟩)), (5, .func (.func 40) #[] #[.pointer (some ⟨w1.heap.size, 0, none⟩)]), (6, .slice ao3 s3.1.length cp3), (8, .int .i64 z3.2.1), (9, .pointer (some ⟨w5.heap.size, 0, none⟩)), (11, .slice ao9 z3.1.length cp9)]) hf (by kernel_rfl) ?_
                clear hf; clear a; intro a hf
                refine wpList_nil ?_
                refine sq ?_
                refine sq ?_
                refine reg ?_
                refine st tbOk 2 [1, 4, 5, 6, 8, 9, 11, 54] (L' := [(1, .pointer (some ⟨w.heap.size, 0, none⟩)), (4, .pointer (some ⟨w1.heap.size, 0, none⟩)), (5, .func (.func 40) #[] #[.pointer (some ⟨w1.heap.size, 0, none⟩)]), (6, .slice ao3 s3.1.length cp3), (8, .int .i64 z3.2.1), (9, .pointer (some ⟨w5.heap.size, 0, none⟩)), (11, .slice ao9 z3.1.length cp9), (54, .bool (z3.2.1 != 0))]) hf (by kernel_rfl) ?_
                clear hf; clear a; intro a hf
                refine wpList_nil ?_
                refine cnd (b := z3.2.1 != 0) hf (by kernel_rfl) (fun hb6 => ?_) (fun hb6 => ?_)
                · replace hS := of_t hb6 hS
                  refine sq ?_
                  refine reg ?_
                  refine st tbOk 3 [2, 3] (L' := [(2, .slice none 0 0), (3, .int .i64 z3.2.1)]) hf (by kernel_rfl) ?_
                  clear hf; clear a; intro a hf
                  refine wpList_nil ?_
                  have hr := Option.some.inj hS; subst hr
                  refine wp_ret ?_
                  replace hs : Sep w F R w11 F9 [.row 54 ty53 (.slice none 0 0) ([] : List ((List UInt8) × Int × (List Int))), .ro (tI .u8) (.slice ao9 z3.1.length cp9) z3.1, .box w.heap.size 22 [.slice ao10 z3.2.2.length cp10], .ro (tI .u8) (.slice ao10 z3.2.2.length cp10) z3.2.2, .box w5.heap.size 69 (List.map (Value.int .u64) s5), .row 54 ty53 (.slice ao3 s3.1.length cp3) s3.1, .cel w1.heap.size 0 [.func (.func 38) #[] #[.pointer (some ⟨w.heap.size, 0, none⟩)]]] := hs.addNil 54 ty53
                  exact ret_ok hf (vs := [.slice none 0 0, .int .i64 z3.2.1]) (by kernel_rfl) ⟨none, 0, _, rfl, hs.sel [0] rfl rfl⟩
                · replace hS := of_f hb6 hS
                  refine wp_skip ?_
                  refine sq ?_
                  refine sq ?_
                  refine reg ?_
                  refine st tbOk 1 [1, 4, 5, 6, 9, 11, 56] (L' := [(1, .pointer (some ⟨w.heap.size, 0, none⟩)), (4, .pointer (some ⟨w1.heap.size, 0, none⟩)), (5, .func (.func 40) #[] #[.pointer (some ⟨w1.heap.size, 0, none⟩)]), (6, .slice ao3 s3.1.length cp3), (9, .pointer (some ⟨w5.heap.size, 0, none⟩)), (11, .slice ao9 z3.1.length cp9), (56, .slice ao9 z3.1.length cp9)]) hf (by kernel_rfl) ?_
                  clear hf; clear a; intro a hf
                  have hT := of_bd hS; clear hS; obtain ⟨z4, hz4, hS⟩ := hT
                  refine clV ent32 (vs := [.slice ao9 z3.1.length cp9, .int .u8 0]) (caps := []) hf (by kernel_rfl) (by kernel_rfl) (by kernel_rfl) (by kernel_rfl) (slices_Index_byte_byte_ok (p_s := z3.1) (p_v := 0) (hs.enter [0] rfl rfl) hz4) ?_
                  clear hf; clear a; intro v w12 a hT hf; obtain ⟨F10, rfl, hr⟩ := hT
                  replace hs : Sep w F R w12 F10 [.ro (tI .u8) (.slice ao9 z3.1.length cp9) z3.1, .box w.heap.size 22 [.slice ao10 z3.2.2.length cp10], .ro (tI .u8) (.slice ao10 z3.2.2.length cp10) z3.2.2, .box w5.heap.size 69 (List.map (Value.int .u64) s5), .row 54 ty53 (.slice ao3 s3.1.length cp3) s3.1, .cel w1.heap.size 0 [.func (.func 38) #[] #[.pointer (some ⟨w.heap.size, 0, none⟩)]]] := hs.back [0] [0, 1, 2, 3, 4, 5] rfl rfl rfl rfl hr
                  clear hr
                  replace hf := Fr.keep (ks := [1, 4, 5, 6, 9, 11, 57]) (L' := [(1, .pointer (some ⟨w.heap.size, 0, none⟩)), (4, .pointer (some ⟨w1.heap.size, 0, none⟩)), (5, .func (.func 40) #[] #[.pointer (some ⟨w1.heap.size, 0, none⟩)]), (6, .slice ao3 s3.1.length cp3), (9, .pointer (some ⟨w5.heap.size, 0, none⟩)), (11, .slice ao9 z3.1.length cp9), (57, .int .i64 z4)]) hf (by kernel_rfl)
                  refine st tbOk 4 [1, 4, 5, 6, 9, 11, 61] (L' := [(1, .pointer (some ⟨w.heap.size, 0, none⟩)), (4, .pointer (some ⟨w1.heap.size, 0, none⟩)), (5, .func (.func 40) #[] #[.pointer (some ⟨w1.heap.size, 0, none⟩)]), (6, .slice ao3 s3.1.length cp3), (9, .pointer (some ⟨w5.heap.size, 0, none⟩)), (11, .slice ao9 z3.1.length cp9), (61, .bool (z4 != (IntKind.i64.wrap (((z3.1.length : Nat) : Int) - 1))))]) hf (by kernel_rfl) ?_
                  clear hf; clear a; intro a hf
                  refine wpList_nil ?_
                  refine cnd (b := z4 != (IntKind.i64.wrap (((z3.1.length : Nat) : Int) - 1))) hf (by kernel_rfl) (fun hb7 => ?_) (fun hb7 => ?_)
                  · replace hS := of_t hb7 hS
                    refine sq ?_
                    refine reg ?_
                    refine st tbOk 2 [2, 3] (L' := [(2, .slice none 0 0), (3, .int .i64 11)]) hf (by kernel_rfl) ?_
                    clear hf; clear a; intro a hf
                    refine wpList_nil ?_
                    have hr := Option.some.inj hS; subst hr
                    refine wp_ret ?_
                    replace hs : Sep w F R w12 F10 [.row 54 ty53 (.slice none 0 0) ([] : List ((List UInt8) × Int × (List Int))), .ro (tI .u8) (.slice ao9 z3.1.length cp9) z3.1, .box w.heap.size 22 [.slice ao10 z3.2.2.length cp10], .ro (tI .u8) (.slice ao10 z3.2.2.length cp10) z3.2.2, .box w5.heap.size 69 (List.map (Value.int .u64) s5), .row 54 ty53 (.slice ao3 s3.1.length cp3) s3.1, .cel w1.heap.size 0 [.func (.func 38) #[] #[.pointer (some ⟨w.heap.size, 0, none⟩)]]] := hs.addNil 54 ty53
                    exact ret_ok hf (vs := [.slice none 0 0, .int .i64 11]) (by kernel_rfl) ⟨none, 0, _, rfl, hs.sel [0] rfl rfl⟩
                  · replace hS := of_f hb7 hS
                    refine wp_skip ?_
                    refine sq ?_
                    refine reg ?_
                    refine st tbOk 1 [1, 4, 5, 6, 9, 11, 63] (L' := [(1, .pointer (some ⟨w.heap.size, 0, none⟩)), (4, .pointer (some ⟨w1.heap.size, 0, none⟩)), (5, .func (.func 40) #[] #[.pointer (some ⟨w1.heap.size, 0, none⟩)]), (6, .slice ao3 s3.1.length cp3), (9, .pointer (some ⟨w5.heap.size, 0, none⟩)), (11, .slice ao9 z3.1.length cp9), (63, .func (.func 40) #[] #[.pointer (some ⟨w1.heap.size, 0, none⟩)])]) hf (by kernel_rfl) ?_
                    clear hf; clear a; intro a hf
                    have hT := of_gd hS; clear hS; obtain ⟨hc4, hS⟩ := hT
                    refine ixB tbOk u69 i23 (b := w5.heap.size) (k := .i64) (i := 1) hc4 hf (by kernel_rfl) (by kernel_rfl) (by kernel_rfl) (by kernel_rfl) ?_
                    clear hf; clear a; intro po4 a hq4 hf
                    have hp3 := arrCell (hs.cbx 3 rfl) hn1 hc4 hq4
                    replace hf := Fr.keep (ks := [1, 4, 5, 6, 9, 11, 63, 64]) (L' := [(1, .pointer (some ⟨w.heap.size, 0, none⟩)), (4, .pointer (some ⟨w1.heap.size, 0, none⟩)), (5, .func (.func 40) #[] #[.pointer (some ⟨w1.heap.size, 0, none⟩)]), (6, .slice ao3 s3.1.length cp3), (9, .pointer (some ⟨w5.heap.size, 0, none⟩)), (11, .slice ao9 z3.1.length cp9), (63, .func (.func 40) #[] #[.pointer (some ⟨w1.heap.size, 0, none⟩)]), (64, .pointer (some ⟨w5.heap.size, po4, none⟩))]) hf (by kernel_rfl)
                    refine ldC tbOk (T := 23) hp3 (LeH.refl _) 0 (.int .u64 (gt s5 1)) hf (by kernel_rfl) (by kernel_rfl) (by kernel_rfl) (by kernel_rfl) ?_
                    clear hf; clear a; intro a hf
                    replace hf := Fr.keep (ks := [1, 4, 5, 6, 9, 11, 63, 65]) (L' := [(1, .pointer (some ⟨w.heap.size, 0, none⟩)), (4, .pointer (some ⟨w1.heap.size, 0, none⟩)), (5, .func (.func 40) #[] #[.pointer (some ⟨w1.heap.size, 0, none⟩)]), (6, .slice ao3 s3.1.length cp3), (9, .pointer (some ⟨w5.heap.size, 0, none⟩)), (11, .slice ao9 z3.1.length cp9), (63, .func (.func 40) #[] #[.pointer (some ⟨w1.heap.size, 0, none⟩)]), (65, .int .u64 (gt s5 1))]) hf (by kernel_rfl)
                    have hT := of_bd hS; clear hS; obtain ⟨z5, hz5, hS⟩ := hT
                    refine clV ent40 (vs := [.int .u64 (gt s5 1)]) (caps := [.pointer (some ⟨w1.heap.size, 0, none⟩)]) hf (by kernel_rfl) (by kernel_rfl) (by kernel_rfl) (by kernel_rfl) (notes_Get_2_Get_1_ok (n := gt s5 1) (q_c0 := z3.2.2) (hs.enter [2, 5, 1] rfl rfl) hz5) ?_
                    clear hf; clear a; intro v w13 a hT hf; obtain ⟨ao11, cp11, ao12, cp12, F11, rfl, hr⟩ := hT
                    replace hs : Sep w F R w13 F11 [.ro (tI .u8) (.slice ao11 z5.1.length cp11) z5.1, .box w.heap.size 22 [.slice ao12 z5.2.2.length cp12], .ro (tI .u8) (.slice ao12 z5.2.2.length cp12) z5.2.2, .ro (tI .u8) (.slice ao9 z3.1.length cp9) z3.1, .ro (tI .u8) (.slice ao10 z3.2.2.length cp10) z3.2.2, .box w5.heap.size 69 (List.map (Value.int .u64) s5), .row 54 ty53 (.slice ao3 s3.1.length cp3) s3.1, .cel w1.heap.size 0 [.func (.func 38) #[] #[.pointer (some ⟨w.heap.size, 0, none⟩)]]] := hs.back [2, 5, 1] [0, 2, 3, 4, 5] rfl rfl rfl rfl hr
                    clear hr
                    replace hs : Sep w F R w13 F11 [.ro (tI .u8) (.slice ao11 z5.1.length cp11) z5.1, .box w.heap.size 22 [.slice ao12 z5.2.2.length cp12], .ro (tI .u8) (.slice ao12 z5.2.2.length cp12) z5.2.2, .ro (tI .u8) (.slice ao9 z3.1.length cp9) z3.1, .box w5.heap.size 69 (List.map (Value.int .u64) s5), .row 54 ty53 (.slice ao3 s3.1.length cp3) s3.1, .cel w1.heap.size 0 [.func (.func 38) #[] #[.pointer (some ⟨w.heap.size, 0, none⟩)]]] := hs.sel [0, 1, 2, 3, 5, 6, 7] rfl rfl
                    replace hf := Fr.keep (ks := [1, 4, 5, 6, 9, 11, 66]) (L' := [(1, .pointer (some ⟨w.heap.size, 0, none⟩)), (4, .pointer (some ⟨w1.heap.size, 0, none⟩)), (5, .func (.func 40) #[] #[.pointer (some ⟨w1.heap.size, 0, none⟩)]), (6, .slice ao3 s3.1.length cp3), (9, .pointer (some ⟨w5.heap.size, 0, none⟩)), (11, .slice ao9 z3.1.length cp9), (66, .tuple #[.slice ao11 z5.1.length cp11, .int .i64 z5.2.1])]) hf (by kernel_rfl)
                    refine st tbOk 5 [1, 4, 5, 6, 8, 9, 11, 12] (L' := [(1, .pointer (some ⟨w.heap.size, 0, none⟩)), (4, .pointer (some ⟨w1.heap.size, 0, none⟩)), (5, .func (.func 40) #[] #[.pointer (some ⟨w1.heap.size, 0, none⟩)]), (6, .slice ao3 s3.1.length cp3), (8, .int .i64 z5.2.1), (9, .pointer (some ⟨w5.heap.size, 0, none⟩)), (11, .slice ao9 z3.1.length cp9), (12, .slice ao11 z5.1.length cp11)]) hf (by kernel_rfl) ?_
                    clear hf; clear a; intro a hf
                    refine wpList_nil ?_
                    refine sq ?_
                    refine sq ?_
                    refine reg ?_
                    refine st tbOk 2 [1, 4, 5, 6, 8, 9, 11, 12, 70] (L' := [(1, .pointer (some ⟨w.heap.size, 0, none⟩)), (4, .pointer (some ⟨w1.heap.size, 0, none⟩)), (5, .func (.func 40) #[] #[.pointer (some ⟨w1.heap.size, 0, none⟩)]), (6, .slice ao3 s3.1.length cp3), (8, .int .i64 z5.2.1), (9, .pointer (some ⟨w5.heap.size, 0, none⟩)), (11, .slice ao9 z3.1.length cp9), (12, .slice ao11 z5.1.length cp11), (70, .bool (z5.2.1 != 0))]) hf (by kernel_rfl) ?_
                    clear hf; clear a; intro a hf
                    refine wpList_nil ?_
                    refine cnd (b := z5.2.1 != 0) hf (by kernel_rfl) (fun hb8 => ?_) (fun hb8 => ?_)
                    · replace hS := of_t hb8 hS
                      refine sq ?_
                      refine reg ?_
                      refine st tbOk 3 [2, 3] (L' := [(2, .slice none 0 0), (3, .int .i64 z5.2.1)]) hf (by kernel_rfl) ?_
                      clear hf; clear a; intro a hf
                      refine wpList_nil ?_
                      have hr := Option.some.inj hS; subst hr
                      refine wp_ret ?_
                      replace hs : Sep w F R w13 F11 [.row 54 ty53 (.slice none 0 0) ([] : List ((List UInt8) × Int × (List Int))), .ro (tI .u8) (.slice ao11 z5.1.length cp11) z5.1, .box w.heap.size 22 [.slice ao12 z5.2.2.length cp12], .ro (tI .u8) (.slice ao12 z5.2.2.length cp12) z5.2.2, .ro (tI .u8) (.slice ao9 z3.1.length cp9) z3.1, .box w5.heap.size 69 (List.map (Value.int .u64) s5), .row 54 ty53 (.slice ao3 s3.1.length cp3) s3.1, .cel w1.heap.size 0 [.func (.func 38) #[] #[.pointer (some ⟨w.heap.size, 0, none⟩)]]] := hs.addNil 54 ty53
                      exact ret_ok hf (vs := [.slice none 0 0, .int .i64 z5.2.1]) (by kernel_rfl) ⟨none, 0, _, rfl, hs.sel [0] rfl rfl⟩
                    · replace hS := of_f hb8 hS
                      refine wp_skip ?_
                      have hT := of_gd hS; clear hS; obtain ⟨hc5, hS⟩ := hT
                      have hT := of_gd hS; clear hS; obtain ⟨hc6, hS⟩ := hT
                      have hs0 := hs
                      refine regF 13 [fun u uw => u = .slice ao3 s3.1.length cp3,
    fun u uw => u = .slice ao9 z3.1.length cp9,
    fun u uw => u = .slice ao9 z3.1.length cp9,
    fun u uw => u = .int .i64 ((z3.1.length : Nat) : Int),
    fun u uw => u = .int .i64 (IntKind.i64.wrap (((z3.1.length : Nat) : Int) - 1)),
    fun u uw => ∃ (ao14 : Option Addr) (cp14 : Nat) (F' : SH), u = .slice ao14 (cutL z3.1 0 (IntKind.i64.wrap (((z3.1.length : Nat) : Int) - 1))).length cp14 ∧ Sep w13 F11 noR uw F' [.ro (tI .u8) (.slice ao14 (cutL z3.1 0 (IntKind.i64.wrap (((z3.1.length : Nat) : Int) - 1))).length cp14) (cutL z3.1 0 (IntKind.i64.wrap (((z3.1.length : Nat) : Int) - 1)))],
    fun u uw => u = strV (toStr (cutL z3.1 0 (IntKind.i64.wrap (((z3.1.length : Nat) : Int) - 1)))),
    fun u uw => ∃ (po6 : Nat), u = .pointer (some ⟨w5.heap.size, po6, none⟩) ∧ CellsAt (hp uw) ⟨w5.heap.size, po6, none⟩ [.int .u64 (gt s5 2)],
    fun u uw => u = .int .u64 (gt s5 2),
    fun u uw => u = .int .u32 (IntKind.u32.wrap (gt s5 2)),
    fun u uw => u = .slice ao11 z5.1.length cp11,
    fun u uw => u = .agg #[strV (toStr (cutL z3.1 0 (IntKind.i64.wrap (((z3.1.length : Nat) : Int) - 1)))), .int .u32 (IntKind.u32.wrap (gt s5 2)), .slice ao11 z5.1.length cp11],
    fun u uw => ∃ (ao15 : Option Addr) (cp15 : Nat) (F' : SH), u = .slice ao15 ([(toStr (cutL z3.1 0 (IntKind.i64.wrap (((z3.1.length : Nat) : Int) - 1))), IntKind.u32.wrap (gt s5 2), z5.1)] : List ((List UInt8) × Int × (List Int))).length cp15 ∧ Sep w13 F11 noR uw F' [.row 54 ty53 (.slice ao15 ([(toStr (cutL z3.1 0 (IntKind.i64.wrap (((z3.1.length : Nat) : Int) - 1))), IntKind.u32.wrap (gt s5 2), z5.1)] : List ((List UInt8) × Int × (List Int))).length cp15) ([(toStr (cutL z3.1 0 (IntKind.i64.wrap (((z3.1.length : Nat) : Int) - 1))), IntKind.u32.wrap (gt s5 2), z5.1)] : List ((List UInt8) × Int × (List Int)))]] mixed (Fr.keep (ks := [1, 4, 5, 6, 8, 9, 11, 12, 70]) (L' := [(1, .pointer (some ⟨w.heap.size, 0, none⟩)), (4, .pointer (some ⟨w1.heap.size, 0, none⟩)), (5, .func (.func 40) #[] #[.pointer (some ⟨w1.heap.size, 0, none⟩)]), (6, .slice ao3 s3.1.length cp3), (8, .int .i64 z5.2.1), (9, .pointer (some ⟨w5.heap.size, 0, none⟩)), (11, .slice ao9 z3.1.length cp9), (12, .slice ao11 z5.1.length cp11), (70, .bool (z5.2.1 != 0))]) hf (by kernel_rfl)) (by kernel_rfl) rfl ?_ ?_ ?_
                      · exact ⟨fun _ _ _ h _ => h, fun _ _ _ h _ => h, fun _ _ _ h _ => h, fun _ _ _ h _ => h, fun _ _ _ h _ => h, fun _ _ _ ⟨ao14, cp14, F', e, h⟩ hx => ⟨ao14, cp14, F', e, h.ext hx⟩, fun _ _ _ h _ => h, fun _ _ _ ⟨po6, e, f0⟩ hx => ⟨po6, e, f0.mono hx.le⟩, fun _ _ _ h _ => h, fun _ _ _ h _ => h, fun _ _ _ h _ => h, fun _ _ _ h _ => h, fun _ _ _ ⟨ao15, cp15, F', e, h⟩ hx => ⟨ao15, cp15, F', e, h.ext hx⟩, trivial⟩
                      · clear hS hf hs; clear a
                        refine ⟨?_, ?_, ?_, ?_, ?_, ?_, ?_, ?_, ?_, ?_, ?_, ?_, ?_, trivial⟩
                        · intro a wf hX hf hd
                          clear hd
                          have hs : Sep wf (star F11 w13 wf) noR wf (star F11 w13 wf) [.ro (tI .u8) (.slice ao11 z5.1.length cp11) z5.1, .ro (tI .u8) (.slice ao12 z5.2.2.length cp12) z5.2.2, .ro (tI .u8) (.slice ao9 z3.1.length cp9) z3.1, .cel w1.heap.size 0 [.func (.func 38) #[] #[.pointer (some ⟨w.heap.size, 0, none⟩)]]] := hs0.fstart hX [0, 2, 3, 6] rfl rfl
                          refine st tbOk 1 [72] (L' := [(72, .slice ao3 s3.1.length cp3)]) hf (by kernel_rfl) ?_
                          clear hf; clear a; intro a hf
                          exact fq_ok (d := 72) rfl hf (hs.ex fun _ h => h) hf.1
                        · intro a wf hX hf hd
                          clear hd
                          have hs : Sep wf (star F11 w13 wf) noR wf (star F11 w13 wf) [.ro (tI .u8) (.slice ao11 z5.1.length cp11) z5.1, .ro (tI .u8) (.slice ao12 z5.2.2.length cp12) z5.2.2, .ro (tI .u8) (.slice ao9 z3.1.length cp9) z3.1, .cel w1.heap.size 0 [.func (.func 38) #[] #[.pointer (some ⟨w.heap.size, 0, none⟩)]]] := hs0.fstart hX [0, 2, 3, 6] rfl rfl
                          refine st tbOk 1 [73] (L' := [(73, .slice ao9 z3.1.length cp9)]) hf (by kernel_rfl) ?_
                          clear hf; clear a; intro a hf
                          exact fq_ok (d := 73) rfl hf (hs.ex fun _ h => h) hf.1
                        · intro a wf hX hf hd
                          clear hd
                          have hs : Sep wf (star F11 w13 wf) noR wf (star F11 w13 wf) [.ro (tI .u8) (.slice ao11 z5.1.length cp11) z5.1, .ro (tI .u8) (.slice ao12 z5.2.2.length cp12) z5.2.2, .ro (tI .u8) (.slice ao9 z3.1.length cp9) z3.1, .cel w1.heap.size 0 [.func (.func 38) #[] #[.pointer (some ⟨w.heap.size, 0, none⟩)]]] := hs0.fstart hX [0, 2, 3, 6] rfl rfl
                          refine st tbOk 1 [74] (L' := [(74, .slice ao9 z3.1.length cp9)]) hf (by kernel_rfl) ?_
                          clear hf; clear a; intro a hf
                          exact fq_ok (d := 74) rfl hf (hs.ex fun _ h => h) hf.1
                        · intro a wf hX hf hd
                          have e_74 : a.tmps.getD 74 undef = .slice ao9 z3.1.length cp9 := hd 2 74 (by kernel_rfl) (by kernel_rfl)
                          replace hf : Fr 87 [(74, .slice ao9 z3.1.length cp9), (1, .pointer (some ⟨w.heap.size, 0, none⟩)), (4, .pointer (some ⟨w1.heap.size, 0, none⟩)), (5, .func (.func 40) #[] #[.pointer (some ⟨w1.heap.size, 0, none⟩)]), (6, .slice ao3 s3.1.length cp3), (8, .int .i64 z5.2.1), (9, .pointer (some ⟨w5.heap.size, 0, none⟩)), (11, .slice ao9 z3.1.length cp9), (12, .slice ao11 z5.1.length cp11), (70, .bool (z5.2.1 != 0))] a := ⟨e_74, hf⟩; clear e_74
                          clear hd
                          have hs : Sep wf (star F11 w13 wf) noR wf (star F11 w13 wf) [.ro (tI .u8) (.slice ao11 z5.1.length cp11) z5.1, .ro (tI .u8) (.slice ao12 z5.2.2.length cp12) z5.2.2, .ro (tI .u8) (.slice ao9 z3.1.length cp9) z3.1, .cel w1.heap.size 0 [.func (.func 38) #[] #[.pointer (some ⟨w.heap.size, 0, none⟩)]]] := hs0.fstart hX [0, 2, 3, 6] rfl rfl
                          refine st tbOk 1 [75] (L' := [(75, .int .i64 ((z3.1.length : Nat) : Int))]) hf (by kernel_rfl) ?_
                          clear hf; clear a; intro a hf
                          exact fq_ok (d := 75) rfl hf (hs.ex fun _ h => h) hf.1
                        · intro a wf hX hf hd
                          have e_75 : a.tmps.getD 75 undef = .int .i64 ((z3.1.length : Nat) : Int) := hd 3 75 (by kernel_rfl) (by kernel_rfl)
                          replace hf : Fr 87 [(75, .int .i64 ((z3.1.length : Nat) : Int)), (1, .pointer (some ⟨w.heap.size, 0, none⟩)), (4, .pointer (some ⟨w1.heap.size, 0, none⟩)), (5, .func (.func 40) #[] #[.pointer (some ⟨w1.heap.size, 0, none⟩)]), (6, .slice ao3 s3.1.length cp3), (8, .int .i64 z5.2.1), (9, .pointer (some ⟨w5.heap.size, 0, none⟩)), (11, .slice ao9 z3.1.length cp9), (12, .slice ao11 z5.1.length cp11), (70, .bool (z5.2.1 != 0))] a := ⟨e_75, hf⟩; clear e_75
                          clear hd
                          have hs : Sep wf (star F11 w13 wf) noR wf (star F11 w13 wf) [.ro (tI .u8) (.slice ao11 z5.1.length cp11) z5.1, .ro (tI .u8) (.slice ao12 z5.2.2.length cp12) z5.2.2, .ro (tI .u8) (.slice ao9 z3.1.length cp9) z3.1, .cel w1.heap.size 0 [.func (.func 38) #[] #[.pointer (some ⟨w.heap.size, 0, none⟩)]]] := hs0.fstart hX [0, 2, 3, 6] rfl rfl
                          refine st tbOk 1 [76] (L' := [(76, .int .i64 (IntKind.i64.wrap (((z3.1.length : Nat) : Int) - 1)))]) hf (by kernel_rfl) ?_
                          clear hf; clear a; intro a hf
                          exact fq_ok (d := 76) rfl hf (hs.ex fun _ h => h) hf.1
                        · intro a wf hX hf hd
                          have e_73 : a.tmps.getD 73 undef = .slice ao9 z3.1.length cp9 := hd 1 73 (by kernel_rfl) (by kernel_rfl)
                          have e_76 : a.tmps.getD 76 undef = .int .i64 (IntKind.i64.wrap (((z3.1.length : Nat) : Int) - 1)) := hd 4 76 (by kernel_rfl) (by kernel_rfl)
                          replace hf : Fr 87 [(73, .slice ao9 z3.1.length cp9), (76, .int .i64 (IntKind.i64.wrap (((z3.1.length : Nat) : Int) - 1))), (1, .pointer (some ⟨w.heap.size, 0, none⟩)), (4, .pointer (some ⟨w1.heap.size, 0, none⟩)), (5, .func (.func 40) #[] #[.pointer (some ⟨w1.heap.size, 0, none⟩)]), (6, .slice ao3 s3.1.length cp3), (8, .int .i64 z5.2.1), (9, .pointer (some ⟨w5.heap.size, 0, none⟩)), (11, .slice ao9 z3.1.length cp9), (12, .slice ao11 z5.1.length cp11), (70, .bool (z5.2.1 != 0))] a := ⟨e_73, e_76, hf⟩; clear e_73 e_76
                          clear hd
                          have hs : Sep wf (star F11 w13 wf) noR wf (star F11 w13 wf) [.ro (tI .u8) (.slice ao11 z5.1.length cp11) z5.1, .ro (tI .u8) (.slice ao12 z5.2.2.length cp12) z5.2.2, .ro (tI .u8) (.slice ao9 z3.1.length cp9) z3.1, .cel w1.heap.size 0 [.func (.func 38) #[] #[.pointer (some ⟨w.heap.size, 0, none⟩)]]] := hs0.fstart hX [0, 2, 3, 6] rfl rfl
                          refine sl tbOk u22 i5 rfl (hs.ro 2 rfl) (lo := 0) (hi := IntKind.i64.wrap (((z3.1.length : Nat) : Int) - 1)) (m := 0) hc5 (.inl ⟨rfl, rfl⟩) (.inr ⟨_, .i64, rfl, by kernel_rfl⟩) (.inl rfl) hf (by kernel_rfl) (by kernel_rfl) (by kernel_rfl) ?_
                          clear hf; clear a; intro ao13 cp13 a hr1 hf
                          replace hs : Sep wf (star F11 w13 wf) noR wf (star F11 w13 wf) [.ro (tI .u8) (.slice ao13 (cutL z3.1 0 (IntKind.i64.wrap (((z3.1.length : Nat) : Int) - 1))).length cp13) (cutL z3.1 0 (IntKind.i64.wrap (((z3.1.length : Nat) : Int) - 1))), .ro (tI .u8) (.slice ao11 z5.1.length cp11) z5.1, .ro (tI .u8) (.slice ao12 z5.2.2.length cp12) z5.2.2, .ro (tI .u8) (.slice ao9 z3.1.length cp9) z3.1, .cel w1.heap.size 0 [.func (.func 38) #[] #[.pointer (some ⟨w.heap.size, 0, none⟩)]]] := hs.addRo hr1
                          exact fq_ok (d := 77) rfl hf (hs.ex fun _ h => h) ⟨ao13, cp13, _, hf.1, (hs.sel [0] rfl rfl).rebase hX⟩
                        · intro a wf hX hf hd
                          obtain ⟨ao14, cp14, F_77, e_77, h_77⟩ : ∃ (ao14 : Option Addr) (cp14 : Nat) (F' : SH), a.tmps.getD 77 undef = .slice ao14 (cutL z3.1 0 (IntKind.i64.wrap (((z3.1.length : Nat) : Int) - 1))).length cp14 ∧ Sep w13 F11 noR wf F' [.ro (tI .u8) (.slice ao14 (cutL z3.1 0 (IntKind.i64.wrap (((z3.1.length : Nat) : Int) - 1))).length cp14) (cutL z3.1 0 (IntKind.i64.wrap (((z3.1.length : Nat) : Int) - 1)))] := hd 5 77 (by kernel_rfl) (by kernel_rfl)
                          replace hf : Fr 87 [(77, .slice ao14 (cutL z3.1 0 (IntKind.i64.wrap (((z3.1.length : Nat) : Int) - 1))).length cp14), (1, .pointer (some ⟨w.heap.size, 0, none⟩)), (4, .pointer (some ⟨w1.heap.size, 0, none⟩)), (5, .func (.func 40) #[] #[.pointer (some ⟨w1.heap.size, 0, none⟩)]), (6, .slice ao3 s3.1.length cp3), (8, .int .i64 z5.2.1), (9, .pointer (some ⟨w5.heap.size, 0, none⟩)), (11, .slice ao9 z3.1.length cp9), (12, .slice ao11 z5.1.length cp11), (70, .bool (z5.2.1 != 0))] a := ⟨e_77, hf⟩; clear e_77
                          clear hd
                          have hs : Sep wf (star F11 w13 wf) noR wf (star F11 w13 wf) [.ro (tI .u8) (.slice ao11 z5.1.length cp11) z5.1, .ro (tI .u8) (.slice ao12 z5.2.2.length cp12) z5.2.2, .ro (tI .u8) (.slice ao9 z3.1.length cp9) z3.1, .cel w1.heap.size 0 [.func (.func 38) #[] #[.pointer (some ⟨w.heap.size, 0, none⟩)]]] := hs0.fstart hX [0, 2, 3, 6] rfl rfl
                          replace hs : Sep wf (star F11 w13 wf) noR wf (star F11 w13 wf) [.ro (tI .u8) (.slice ao14 (cutL z3.1 0 (IntKind.i64.wrap (((z3.1.length : Nat) : Int) - 1))).length cp14) (cutL z3.1 0 (IntKind.i64.wrap (((z3.1.length : Nat) : Int) - 1))), .ro (tI .u8) (.slice ao11 z5.1.length cp11) z5.1, .ro (tI .u8) (.slice ao12 z5.2.2.length cp12) z5.2.2, .ro (tI .u8) (.slice ao9 z3.1.length cp9) z3.1, .cel w1.heap.size 0 [.func (.func 38) #[] #[.pointer (some ⟨w.heap.size, 0, none⟩)]]] := hs.addStar h_77 0 rfl rfl
                          clear h_77
                          refine b2sR tbOk u22 u5 u9 (hs.raR 0 rfl) hf (by kernel_rfl) (by kernel_rfl) (by kernel_rfl) ?_
                          clear hf; clear a; intro a hf
                          exact fq_ok (d := 78) rfl hf (hs.ex fun _ h => h) hf.1
                        · intro a wf hX hf hd
                          clear hd
                          have hs : Sep wf (star F11 w13 wf) noR wf (star F11 w13 wf) [.ro (tI .u8) (.slice ao11 z5.1.length cp11) z5.1, .ro (tI .u8) (.slice ao12 z5.2.2.length cp12) z5.2.2, .ro (tI .u8) (.slice ao9 z3.1.length cp9) z3.1, .cel w1.heap.size 0 [.func (.func 38) #[] #[.pointer (some ⟨w.heap.size, 0, none⟩)]]] := hs0.fstart hX [0, 2, 3, 6] rfl rfl
                          refine ixB tbOk u69 i23 (b := w5.heap.size) (k := .i64) (i := 2) hc6 hf (by kernel_rfl) (by kernel_rfl) (by kernel_rfl) (by kernel_rfl) ?_
                          clear hf; clear a; intro po5 a hq5 hf
                          have hp4 := arrCell ((hs0.cbx 4 rfl).mono hX.le) hn1 hc6 hq5
                          exact fq_ok (d := 79) rfl hf (hs.ex fun _ h => h) ⟨po5, hf.1, hp4⟩
                        · intro a wf hX hf hd
                          obtain ⟨po6, e_79, hp5⟩ : ∃ (po6 : Nat), a.tmps.getD 79 undef = .pointer (some ⟨w5.heap.size, po6, none⟩) ∧ CellsAt (hp wf) ⟨w5.heap.size, po6, none⟩ [.int .u64 (gt s5 2)] := hd 7 79 (by kernel_rfl) (by kernel_rfl)
                          replace hf : Fr 87 [(79, .pointer (some ⟨w5.heap.size, po6, none⟩)), (1, .pointer (some ⟨w.heap.size, 0, none⟩)), (4, .pointer (some ⟨w1.heap.size, 0, none⟩)), (5, .func (.func 40) #[] #[.pointer (some ⟨w1.heap.size, 0, none⟩)]), (6, .slice ao3 s3.1.length cp3), (8, .int .i64 z5.2.1), (9, .pointer (some ⟨w5.heap.size, 0, none⟩)), (11, .slice ao9 z3.1.length cp9), (12, .slice ao11 z5.1.length cp11), (70, .bool (z5.2.1 != 0))] a := ⟨e_79, hf⟩; clear e_79
                          clear hd
                          have hs : Sep wf (star F11 w13 wf) noR wf (star F11 w13 wf) [.ro (tI .u8) (.slice ao11 z5.1.length cp11) z5.1, .ro (tI .u8) (.slice ao12 z5.2.2.length cp12) z5.2.2, .ro (tI .u8) (.slice ao9 z3.1.length cp9) z3.1, .cel w1.heap.size 0 [.func (.func 38) #[] #[.pointer (some ⟨w.heap.size, 0, none⟩)]]] := hs0.fstart hX [0, 2, 3, 6] rfl rfl
                          refine ldC tbOk (T := 23) hp5 (LeH.refl _) 0 (.int .u64 (gt s5 2)) hf (by kernel_rfl) (by kernel_rfl) (by kernel_rfl) (by kernel_rfl) ?_
                          clear hf; clear a; intro a hf
                          exact fq_ok (d := 80) rfl hf (hs.ex fun _ h => h) hf.1
                        · intro a wf hX hf hd
                          have e_80 : a.tmps.getD 80 undef = .int .u64 (gt s5 2) := hd 8 80 (by kernel_rfl) (by kernel_rfl)
                          replace hf : Fr 87 [(80, .int .u64 (gt s5 2)), (1, .pointer (some ⟨w.heap.size, 0, none⟩)), (4, .pointer (some ⟨w1.heap.size, 0, none⟩)), (5, .func (.func 40) #[] #[.pointer (some ⟨w1.heap.size, 0, none⟩)]), (6, .slice ao3 s3.1.length cp3), (8, .int .i64 z5.2.1), (9, .pointer (some ⟨w5.heap.size, 0, none⟩)), (11, .slice ao9 z3.1.length cp9), (12, .slice ao11 z5.1.length cp11), (70, .bool (z5.2.1 != 0))] a := ⟨e_80, hf⟩; clear e_80
                          clear hd
                          have hs : Sep wf (star F11 w13 wf) noR wf (star F11 w13 wf) [.ro (tI .u8) (.slice ao11 z5.1.length cp11) z5.1, .ro (tI .u8) (.slice ao12 z5.2.2.length cp12) z5.2.2, .ro (tI .u8) (.slice ao9 z3.1.length cp9) z3.1, .cel w1.heap.size 0 [.func (.func 38) #[] #[.pointer (some ⟨w.heap.size, 0, none⟩)]]] := hs0.fstart hX [0, 2, 3, 6] rfl rfl
                          refine st tbOk 1 [81] (L' := [(81, .int .u32 (IntKind.u32.wrap (gt s5 2)))]) hf (by kernel_rfl) ?_
                          clear hf; clear a; intro a hf
                          exact fq_ok (d := 81) rfl hf (hs.ex fun _ h => h) hf.1
                        · intro a wf hX hf hd
                          clear hd
                          have hs : Sep wf (star F11 w13 wf) noR wf (star F11 w13 wf) [.ro (tI .u8) (.slice ao11 z5.1.length cp11) z5.1, .ro (tI .u8) (.slice ao12 z5.2.2.length cp12) z5.2.2, .ro (tI .u8) (.slice ao9 z3.1.length cp9) z3.1, .cel w1.heap.size 0 [.func (.func 38) #[] #[.pointer (some ⟨w.heap.size, 0, none⟩)]]] := hs0.fstart hX [0, 2, 3, 6] rfl rfl
                          refine st tbOk 1 [82] (L' := [(82, .slice ao11 z5.1.length cp11)]) hf (by kernel_rfl) ?_
                          clear hf; clear a; intro a hf
                          exact fq_ok (d := 82) rfl hf (hs.ex fun _ h => h) hf.1
                        · intro a wf hX hf hd
                          have e_78 : a.tmps.getD 78 undef = strV (toStr (cutL z3.1 0 (IntKind.i64.wrap (((z3.1.length : Nat) : Int) - 1)))) := hd 6 78 (by kernel_rfl) (by kernel_rfl)
                          have e_81 : a.tmps.getD 81 undef = .int .u32 (IntKind.u32.wrap (gt s5 2)) := hd 9 81 (by kernel_rfl) (by kernel_rfl)
                          have e_82 : a.tmps.getD 82 undef = .slice ao11 z5.1.length cp11 := hd 10 82 (by kernel_rfl) (by kernel_rfl)
                          replace hf : Fr 87 [(78, strV (toStr (cutL z3.1 0 (IntKind.i64.wrap (((z3.1.length : Nat) : Int) - 1))))), (81, .int .u32 (IntKind.u32.wrap (gt s5 2))), (82, .slice ao11 z5.1.length cp11), (1, .pointer (some ⟨w.heap.size, 0, none⟩)), (4, .pointer (some ⟨w1.heap.size, 0, none⟩)), (5, .func (.func 40) #[] #[.pointer (some ⟨w1.heap.size, 0, none⟩)]), (6, .slice ao3 s3.1.length cp3), (8, .int .i64 z5.2.1), (9, .pointer (some ⟨w5.heap.size, 0, none⟩)), (11, .slice ao9 z3.1.length cp9), (12, .slice ao11 z5.1.length cp11), (70, .bool (z5.2.1 != 0))] a := ⟨e_78, e_81, e_82, hf⟩; clear e_78 e_81 e_82
                          clear hd
                          have hs : Sep wf (star F11 w13 wf) noR wf (star F11 w13 wf) [.ro (tI .u8) (.slice ao11 z5.1.length cp11) z5.1, .ro (tI .u8) (.slice ao12 z5.2.2.length cp12) z5.2.2, .ro (tI .u8) (.slice ao9 z3.1.length cp9) z3.1, .cel w1.heap.size 0 [.func (.func 38) #[] #[.pointer (some ⟨w.heap.size, 0, none⟩)]]] := hs0.fstart hX [0, 2, 3, 6] rfl rfl
                          refine st tbOk 1 [83] (L' := [(83, .agg #[strV (toStr (cutL z3.1 0 (IntKind.i64.wrap (((z3.1.length : Nat) : Int) - 1)))), .int .u32 (IntKind.u32.wrap (gt s5 2)), .slice ao11 z5.1.length cp11])]) hf (by kernel_rfl) ?_
                          clear hf; clear a; intro a hf
                          exact fq_ok (d := 83) rfl hf (hs.ex fun _ h => h) hf.1
                        · intro a wf hX hf hd
                          have e_83 : a.tmps.getD 83 undef = .agg #[strV (toStr (cutL z3.1 0 (IntKind.i64.wrap (((z3.1.length : Nat) : Int) - 1)))), .int .u32 (IntKind.u32.wrap (gt s5 2)), .slice ao11 z5.1.length cp11] := hd 11 83 (by kernel_rfl) (by kernel_rfl)
                          replace hf : Fr 87 [(83, .agg #[strV (toStr (cutL z3.1 0 (IntKind.i64.wrap (((z3.1.length : Nat) : Int) - 1)))), .int .u32 (IntKind.u32.wrap (gt s5 2)), .slice ao11 z5.1.length cp11]), (1, .pointer (some ⟨w.heap.size, 0, none⟩)), (4, .pointer (some ⟨w1.heap.size, 0, none⟩)), (5, .func (.func 40) #[] #[.pointer (some ⟨w1.heap.size, 0, none⟩)]), (6, .slice ao3 s3.1.length cp3), (8, .int .i64 z5.2.1), (9, .pointer (some ⟨w5.heap.size, 0, none⟩)), (11, .slice ao9 z3.1.length cp9), (12, .slice ao11 z5.1.length cp11), (70, .bool (z5.2.1 != 0))] a := ⟨e_83, hf⟩; clear e_83
                          clear hd
                          have hs : Sep wf (star F11 w13 wf) noR wf (star F11 w13 wf) [.ro (tI .u8) (.slice ao11 z5.1.length cp11) z5.1, .ro (tI .u8) (.slice ao12 z5.2.2.length cp12) z5.2.2, .ro (tI .u8) (.slice ao9 z3.1.length cp9) z3.1, .cel w1.heap.size 0 [.func (.func 38) #[] #[.pointer (some ⟨w.heap.size, 0, none⟩)]]] := hs0.fstart hX [0, 2, 3, 6] rfl rfl
                          refine bsR tbOk u37 i54 rfl (t := ty53) (vs := [(0, .agg #[strV (toStr (cutL z3.1 0 (IntKind.i64.wrap (((z3.1.length : Nat) : Int) - 1)))), .int .u32 (IntKind.u32.wrap (gt s5 2)), .slice ao11 z5.1.length cp11])]) (cells := #[strV (toStr (cutL z3.1 0 (IntKind.i64.wrap (((z3.1.length : Nat) : Int) - 1)))), .int .u32 (IntKind.u32.wrap (gt s5 2)), .slice ao11 z5.1.length cp11]) ([(toStr (cutL z3.1 0 (IntKind.i64.wrap (((z3.1.length : Nat) : Int) - 1))), IntKind.u32.wrap (gt s5 2), z5.1)] : List ((List UInt8) × Int × (List Int))) hs.le hf (by kernel_rfl) (by kernel_rfl) (by kernel_rfl) rfl (by kernel_rfl) ⟨_, _, rfl, ⟨ao11, cp11, rfl, hs.ro 0 rfl⟩, rfl⟩ rfl ?_
                          clear hf; clear a; intro w14 a ho hx hf
                          replace hs : Sep wf (star F11 w13 wf) noR w14 (star F11 w13 wf) [.row 54 ty53 (.slice (some ⟨wf.heap.size, 0, none⟩) ([(toStr (cutL z3.1 0 (IntKind.i64.wrap (((z3.1.length : Nat) : Int) - 1))), IntKind.u32.wrap (gt s5 2), z5.1)] : List ((List UInt8) × Int × (List Int))).length ([(toStr (cutL z3.1 0 (IntKind.i64.wrap (((z3.1.length : Nat) : Int) - 1))), IntKind.u32.wrap (gt s5 2), z5.1)] : List ((List UInt8) × Int × (List Int))).length) ([(toStr (cutL z3.1 0 (IntKind.i64.wrap (((z3.1.length : Nat) : Int) - 1))), IntKind.u32.wrap (gt s5 2), z5.1)] : List ((List UInt8) × Int × (List Int))), .ro (tI .u8) (.slice ao11 z5.1.length cp11) z5.1, .ro (tI .u8) (.slice ao12 z5.2.2.length cp12) z5.2.2, .ro (tI .u8) (.slice ao9 z3.1.length cp9) z3.1, .cel w1.heap.size 0 [.func (.func 38) #[] #[.pointer (some ⟨w.heap.size, 0, none⟩)]]] := hs.newRow ho hx
                          clear ho hx
                          exact fq_ok (d := 84) rfl hf (hs.ex fun _ h => h) ⟨(some ⟨wf.heap.size, 0, none⟩), ([(toStr (cutL z3.1 0 (IntKind.i64.wrap (((z3.1.length : Nat) : Int) - 1))), IntKind.u32.wrap (gt s5 2), z5.1)] : List ((List UInt8) × Int × (List Int))).length, _, hf.1, (hs.sel [0] rfl rfl).rebase hX⟩
                      · clear hf hs; clear a; intro a w15 hx hf hd
                        have hs : Sep w F R w15 (star F11 w13 w15) [.ro (tI .u8) (.slice ao11 z5.1.length cp11) z5.1, .box w.heap.size 22 [.slice ao12 z5.2.2.length cp12], .ro (tI .u8) (.slice ao12 z5.2.2.length cp12) z5.2.2, .ro (tI .u8) (.slice ao9 z3.1.length cp9) z3.1, .box w5.heap.size 69 (List.map (Value.int .u64) s5), .row 54 ty53 (.slice ao3 s3.1.length cp3) s3.1, .cel w1.heap.size 0 [.func (.func 38) #[] #[.pointer (some ⟨w.heap.size, 0, none⟩)]]] := hs0.starX hx
                        have e_72 : a.tmps.getD 72 undef = .slice ao3 s3.1.length cp3 := hd 0 72 (by kernel_rfl) (by kernel_rfl)
                        obtain ⟨ao15, cp15, F_84, e_84, h_84⟩ : ∃ (ao15 : Option Addr) (cp15 : Nat) (F' : SH), a.tmps.getD 84 undef = .slice ao15 ([(toStr (cutL z3.1 0 (IntKind.i64.wrap (((z3.1.length : Nat) : Int) - 1))), IntKind.u32.wrap (gt s5 2), z5.1)] : List ((List UInt8) × Int × (List Int))).length cp15 ∧ Sep w13 F11 noR w15 F' [.row 54 ty53 (.slice ao15 ([(toStr (cutL z3.1 0 (IntKind.i64.wrap (((z3.1.length : Nat) : Int) - 1))), IntKind.u32.wrap (gt s5 2), z5.1)] : List ((List UInt8) × Int × (List Int))).length cp15) ([(toStr (cutL z3.1 0 (IntKind.i64.wrap (((z3.1.length : Nat) : Int) - 1))), IntKind.u32.wrap (gt s5 2), z5.1)] : List ((List UInt8) × Int × (List Int)))] := hd 12 84 (by kernel_rfl) (by kernel_rfl)
                        clear hd hx
                        replace hs : Sep w F R w15 (star F11 w13 w15) [.ro ty53 (.slice ao15 ([(toStr (cutL z3.1 0 (IntKind.i64.wrap (((z3.1.length : Nat) : Int) - 1))), IntKind.u32.wrap (gt s5 2), z5.1)] : List ((List UInt8) × Int × (List Int))).length cp15) ([(toStr (cutL z3.1 0 (IntKind.i64.wrap (((z3.1.length : Nat) : Int) - 1))), IntKind.u32.wrap (gt s5 2), z5.1)] : List ((List UInt8) × Int × (List Int))), .ro (tI .u8) (.slice ao11 z5.1.length cp11) z5.1, .box w.heap.size 22 [.slice ao12 z5.2.2.length cp12], .ro (tI .u8) (.slice ao12 z5.2.2.length cp12) z5.2.2, .ro (tI .u8) (.slice ao9 z3.1.length cp9) z3.1, .box w5.heap.size 69 (List.map (Value.int .u64) s5), .row 54 ty53 (.slice ao3 s3.1.length cp3) s3.1, .cel w1.heap.size 0 [.func (.func 38) #[] #[.pointer (some ⟨w.heap.size, 0, none⟩)]]] := hs.addStar h_84 0 rfl rfl
                        clear h_84
                        clear hs0
                        replace hf : Fr 87 [(72, .slice ao3 s3.1.length cp3), (84, .slice ao15 ([(toStr (cutL z3.1 0 (IntKind.i64.wrap (((z3.1.length : Nat) : Int) - 1))), IntKind.u32.wrap (gt s5 2), z5.1)] : List ((List UInt8) × Int × (List Int))).length cp15), (1, .pointer (some ⟨w.heap.size, 0, none⟩)), (4, .pointer (some ⟨w1.heap.size, 0, none⟩)), (5, .func (.func 40) #[] #[.pointer (some ⟨w1.heap.size, 0, none⟩)]), (6, .slice ao3 s3.1.length cp3), (8, .int .i64 z5.2.1), (9, .pointer (some ⟨w5.heap.size, 0, none⟩)), (11, .slice ao9 z3.1.length cp9), (12, .slice ao11 z5.1.length cp11), (70, .bool (z5.2.1 != 0))] a := ⟨e_72, e_84, hf⟩
                        clear e_72 e_84
                        replace hs : Sep w F R w15 (star F11 w13 w15) [.ro ty53 (.slice ao15 ([(toStr (cutL z3.1 0 (IntKind.i64.wrap (((z3.1.length : Nat) : Int) - 1))), IntKind.u32.wrap (gt s5 2), z5.1)] : List ((List UInt8) × Int × (List Int))).length cp15) ([(toStr (cutL z3.1 0 (IntKind.i64.wrap (((z3.1.length : Nat) : Int) - 1))), IntKind.u32.wrap (gt s5 2), z5.1)] : List ((List UInt8) × Int × (List Int))), .box w.heap.size 22 [.slice ao12 z5.2.2.length cp12], .ro (tI .u8) (.slice ao12 z5.2.2.length cp12) z5.2.2, .row 54 ty53 (.slice ao3 s3.1.length cp3) s3.1, .cel w1.heap.size 0 [.func (.func 38) #[] #[.pointer (some ⟨w.heap.size, 0, none⟩)]]] := hs.sel [0, 2, 3, 6, 7] rfl rfl
                        replace hf := Fr.keep (ks := [1, 4, 5, 72, 84]) (L' := [(1, .pointer (some ⟨w.heap.size, 0, none⟩)), (4, .pointer (some ⟨w1.heap.size, 0, none⟩)), (5, .func (.func 40) #[] #[.pointer (some ⟨w1.heap.size, 0, none⟩)]), (72, .slice ao3 s3.1.length cp3), (84, .slice ao15 ([(toStr (cutL z3.1 0 (IntKind.i64.wrap (((z3.1.length : Nat) : Int) - 1))), IntKind.u32.wrap (gt s5 2), z5.1)] : List ((List UInt8) × Int × (List Int))).length cp15)]) hf (by kernel_rfl)
                        have hT := of_gd hS; clear hS; obtain ⟨hc7, hS⟩ := hT
                        refine apR tbOk u37 i54 rfl rfl rfl rfl hs.le (hs.own 3 rfl) (hs.raR 0 rfl) hc7 hf (by kernel_rfl) (by kernel_rfl) (by kernel_rfl) (by kernel_rfl) ?_
                        clear hf; clear a; intro ao16 cp16 w16 a ho hg hl hf
                        replace hs : Sep w F R w16 (star F11 w13 w15) [.ro ty53 (.slice ao15 ([(toStr (cutL z3.1 0 (IntKind.i64.wrap (((z3.1.length : Nat) : Int) - 1))), IntKind.u32.wrap (gt s5 2), z5.1)] : List ((List UInt8) × Int × (List Int))).length cp15) ([(toStr (cutL z3.1 0 (IntKind.i64.wrap (((z3.1.length : Nat) : Int) - 1))), IntKind.u32.wrap (gt s5 2), z5.1)] : List ((List UInt8) × Int × (List Int))), .box w.heap.size 22 [.slice ao12 z5.2.2.length cp12], .ro (tI .u8) (.slice ao12 z5.2.2.length cp12) z5.2.2, .row 54 ty53 (.slice ao16 (s3.1 ++ ([(toStr (cutL z3.1 0 (IntKind.i64.wrap (((z3.1.length : Nat) : Int) - 1))), IntKind.u32.wrap (gt s5 2), z5.1)] : List ((List UInt8) × Int × (List Int)))).length cp16) (s3.1 ++ ([(toStr (cutL z3.1 0 (IntKind.i64.wrap (((z3.1.length : Nat) : Int) - 1))), IntKind.u32.wrap (gt s5 2), z5.1)] : List ((List UInt8) × Int × (List Int)))), .cel w1.heap.size 0 [.func (.func 38) #[] #[.pointer (some ⟨w.heap.size, 0, none⟩)]]] := hs.updRow 3 rfl ho hg hl
                        clear ho hg hl
                        replace hs : Sep w F R w16 (star F11 w13 w15) [.box w.heap.size 22 [.slice ao12 z5.2.2.length cp12], .ro (tI .u8) (.slice ao12 z5.2.2.length cp12) z5.2.2, .row 54 ty53 (.slice ao16 (s3.1 ++ ([(toStr (cutL z3.1 0 (IntKind.i64.wrap (((z3.1.length : Nat) : Int) - 1))), IntKind.u32.wrap (gt s5 2), z5.1)] : List ((List UInt8) × Int × (List Int)))).length cp16) (s3.1 ++ ([(toStr (cutL z3.1 0 (IntKind.i64.wrap (((z3.1.length : Nat) : Int) - 1))), IntKind.u32.wrap (gt s5 2), z5.1)] : List ((List UInt8) × Int × (List Int)))), .cel w1.heap.size 0 [.func (.func 38) #[] #[.pointer (some ⟨w.heap.size, 0, none⟩)]]] := hs.sel [1, 2, 3, 4] rfl rfl
                        replace hf := Fr.keep (ks := [1, 4, 5, 85]) (L' := [(1, .pointer (some ⟨w.heap.size, 0, none⟩)), (4, .pointer (some ⟨w1.heap.size, 0, none⟩)), (5, .func (.func 40) #[] #[.pointer (some ⟨w1.heap.size, 0, none⟩)]), (85, .slice ao16 (s3.1 ++ ([(toStr (cutL z3.1 0 (IntKind.i64.wrap (((z3.1.length : Nat) : Int) - 1))), IntKind.u32.wrap (gt s5 2), z5.1)] : List ((List UInt8) × Int × (List Int)))).length cp16)]) hf (by kernel_rfl)
                        refine st tbOk 1 [1, 4, 5, 6] (L' := [(1, .pointer (some ⟨w.heap.size, 0, none⟩)), (4, .pointer (some ⟨w1.heap.size, 0, none⟩)), (5, .func (.func 40) #[] #[.pointer (some ⟨w1.heap.size, 0, none⟩)]), (6, .slice ao16 (s3.1 ++ ([(toStr (cutL z3.1 0 (IntKind.i64.wrap (((z3.1.length : Nat) : Int) - 1))), IntKind.u32.wrap (gt s5 2), z5.1)] : List ((List UInt8) × Int × (List Int)))).length cp16)]) hf (by kernel_rfl) ?_
                        clear hf; clear a; intro a hf
                        refine wpList_nil ?_
                        exact hK3 ((s3.1 ++ ([(toStr (cutL z3.1 0 (IntKind.i64.wrap (((z3.1.length : Nat) : Int) - 1))), IntKind.u32.wrap (gt s5 2), z5.1)] : List ((List UInt8) × Int × (List Int)))), z5.2.2) _ _ ⟨ao16, cp16, ao12, cp12, _, hs.sel [2, 1, 0, 3] rfl rfl, hf.keep (ks := [1, 4, 5, 6]) (by kernel_rfl)⟩ hS
            · clear hS; intro KK4 k4 hK4 hS
              refine blk ?_
              refine lp (st := (0, (List.replicate 3 0 : List Int))) (fun (s6 : Int × (List Int)) (a : Act) (w' : World) => ∃ (F7 : SH), Sep w F R w' F7 [.box w5.heap.size 69 (List.map (Value.int .u64) s6.2), .row 5 (tI .u8) (.slice ao7 z1.1.length cp7) z1.1, .box w.heap.size 22 [.slice ao8 z1.2.2.length cp8], .ro (tI .u8) (.slice ao8 z1.2.2.length cp8) z1.2.2, .row 54 ty53 (.slice ao3 s3.1.length cp3) s3.1, .cel w1.heap.size 0 [.func (.func 38) #[] #[.pointer (some ⟨w.heap.size, 0, none⟩)]]] ∧ s6.2.length = 3 ∧ Fr 87 [(1, .pointer (some ⟨w.heap.size, 0, none⟩)), (4, .pointer (some ⟨w1.heap.size, 0, none⟩)), (5, .func (.func 40) #[] #[.pointer (some ⟨w1.heap.size, 0, none⟩)]), (6, .slice ao3 s3.1.length cp3), (7, .slice ao7 z1.1.length cp7), (9, .pointer (some ⟨w5.heap.size, 0, none⟩)), (29, .int .i64 s6.1)] a) ?_ ⟨_, hs.sel [0, 1, 2, 3, 4, 5] rfl rfl, rfl, hf.keep (ks := [1, 4, 5, 6, 7, 9, 29]) (by kernel_rfl)⟩ hS
              clear hS hf hs; clear a
              intro rec2 KK5 hK5 s6 a w7 hM hS
              obtain ⟨F7, hs, hn2, hf⟩ := hM
              refine sq ?_
              refine reg ?_
              refine st tbOk 1 [1, 4, 5, 6, 7, 9, 29, 30] (L' := [(1, .pointer (some ⟨w.heap.size, 0, none⟩)), (4, .pointer (some ⟨w1.heap.size, 0, none⟩)), (5, .func (.func 40) #[] #[.pointer (some ⟨w1.heap.size, 0, none⟩)]), (6, .slice ao3 s3.1.length cp3), (7, .slice ao7 z1.1.length cp7), (9, .pointer (some ⟨w5.heap.size, 0, none⟩)), (29, .int .i64 s6.1), (30, .bool (decide (s6.1 < 3)))]) hf (by kernel_rfl) ?_
              clear hf; clear a; intro a hf
              refine wpList_nil ?_
              refine sq ?_
              refine cnd (b := decide (s6.1 < 3)) hf (by kernel_rfl) (fun hb4 => ?_) (fun hb4 => ?_)
              · replace hS := of_t hb4 hS
                refine wp_skip ?_
                refine sq ?_
                refine blk ?_
                refine sq ?_
                refine reg ?_
                refine st tbOk 2 [1, 4, 5, 6, 7, 9, 10, 29] (L' := [(1, .pointer (some ⟨w.heap.size, 0, none⟩)), (4, .pointer (some ⟨w1.heap.size, 0, none⟩)), (5, .func (.func 40) #[] #[.pointer (some ⟨w1.heap.size, 0, none⟩)]), (6, .slice ao3 s3.1.length cp3), (7, .slice ao7 z1.1.length cp7), (9, .pointer (some ⟨w5.heap.size, 0, none⟩)), (10, .int .i64 s6.1), (29, .int .i64 s6.1)]) hf (by kernel_rfl) ?_
                clear hf; clear a; intro a hf
                refine wpList_nil ?_
                refine reg ?_
                refine st tbOk 5 [1, 4, 5, 6, 7, 9, 29, 33, 34, 37] (L' := [(1, .pointer (some ⟨w.heap.size, 0, none⟩)), (4, .pointer (some ⟨w1.heap.size, 0, none⟩)), (5, .func (.func 40) #[] #[.pointer (some ⟨w1.heap.size, 0, none⟩)]), (6, .slice ao3 s3.1.length cp3), (7, .slice ao7 z1.1.length cp7), (9, .pointer (some ⟨w5.heap.size, 0, none⟩)), (29, .int .i64 s6.1), (33, .int .i64 s6.1), (34, .slice ao7 z1.1.length cp7), (37, .int .u64 (IntKind.u64.wrap (IntKind.i64.wrap (4 * s6.1))))]) hf (by kernel_rfl) ?_
                clear hf; clear a; intro a hf
                have hT := of_bd hS; clear hS; obtain ⟨z2, hz2, hS⟩ := hT
                refine clV ent42 (vs := [.slice ao7 z1.1.length cp7, .int .u64 (IntKind.u64.wrap (IntKind.i64.wrap (4 * s6.1))), .int .i64 4]) (caps := []) hf (by kernel_rfl) (by kernel_rfl) (by kernel_rfl) (by kernel_rfl) (octets_Get_ok (b := z1.1) (p_at := IntKind.u64.wrap (IntKind.i64.wrap (4 * s6.1))) (n := 4) (hs.lend [1] [] rfl rfl rfl rfl rfl) hz2) ?_
                clear hf; clear a; intro v w8 a hT hf; obtain ⟨F8, rfl, hr⟩ := hT
                replace hs : Sep w F R w8 F7 [.box w5.heap.size 69 (List.map (Value.int .u64) s6.2), .row 5 (tI .u8) (.slice ao7 z1.1.length cp7) z1.1, .box w.heap.size 22 [.slice ao8 z1.2.2.length cp8], .ro (tI .u8) (.slice ao8 z1.2.2.length cp8) z1.2.2, .row 54 ty53 (.slice ao3 s3.1.length cp3) s3.1, .cel w1.heap.size 0 [.func (.func 38) #[] #[.pointer (some ⟨w.heap.size, 0, none⟩)]]] := hs.backL [1] [] [0, 1, 2, 3, 4, 5] rfl rfl rfl rfl rfl rfl hr trivial
                clear hr
                replace hf := Fr.keep (ks := [1, 4, 5, 6, 7, 9, 29, 33, 38]) (L' := [(1, .pointer (some ⟨w.heap.size, 0, none⟩)), (4, .pointer (some ⟨w1.heap.size, 0, none⟩)), (5, .func (.func 40) #[] #[.pointer (some ⟨w1.heap.size, 0, none⟩)]), (6, .slice ao3 s3.1.length cp3), (7, .slice ao7 z1.1.length cp7), (9, .pointer (some ⟨w5.heap.size, 0, none⟩)), (29, .int .i64 s6.1), (33, .int .i64 s6.1), (38, .tuple #[.int .u64 z2.1, .int .i64 z2.2])]) hf (by kernel_rfl)
                refine st tbOk 3 [1, 4, 5, 6, 7, 9, 29, 33, 39] (L' := [(1, .pointer (some ⟨w.heap.size, 0, none⟩)), (4, .pointer (some ⟨w1.heap.size, 0, none⟩)), (5, .func (.func 40) #[] #[.pointer (some ⟨w1.heap.size, 0, none⟩)]), (6, .slice ao3 s3.1.length cp3), (7, .slice ao7 z1.1.length cp7), (9, .pointer (some ⟨w5.heap.size, 0, none⟩)), (29, .int .i64 s6.1), (33, .int .i64 s6.1), (39, .int .u64 z2.1)]) hf (by kernel_rfl) ?_
                clear hf; clear a; intro a hf
                have hT := of_gd hS; clear hS; obtain ⟨hc1, hS⟩ := hT
                refine ixB tbOk u69 i23 (b := w5.heap.size) (k := .i64) (i := s6.1) hc1 hf (by kernel_rfl) (by kernel_rfl) (by kernel_rfl) (by kernel_rfl) ?_
                clear hf; clear a; intro po1 a hq1 hf
                replace hf := Fr.keep (ks := [1, 4, 5, 6, 7, 9, 29, 39, 41]) (L' := [(1, .pointer (some ⟨w.heap.size, 0, none⟩)), (4, .pointer (some ⟨w1.heap.size, 0, none⟩)), (5, .func (.func 40) #[] #[.pointer (some ⟨w1.heap.size, 0, none⟩)]), (6, .slice ao3 s3.1.length cp3), (7, .slice ao7 z1.1.length cp7), (9, .pointer (some ⟨w5.heap.size, 0, none⟩)), (29, .int .i64 s6.1), (39, .int .u64 z2.1), (41, .pointer (some ⟨w5.heap.size, po1, none⟩))]) hf (by kernel_rfl)
                refine stA tbOk i23 (Value.int .u64) (fun _ => rfl) (fun _ => rfl) (hs.bx 0 rfl) hn2 hc1 hq1 z2.1 hf (by kernel_rfl) (by kernel_rfl) (by kernel_rfl) ?_
                clear hf; clear a; intro w9 a hb hg hf
                replace hs : Sep w F R w9 F7 [.box w5.heap.size 69 (List.map (Value.int .u64) (s6.2.set (Int.toNat s6.1) z2.1)), .row 5 (tI .u8) (.slice ao7 z1.1.length cp7) z1.1, .box w.heap.size 22 [.slice ao8 z1.2.2.length cp8], .ro (tI .u8) (.slice ao8 z1.2.2.length cp8) z1.2.2, .row 54 ty53 (.slice ao3 s3.1.length cp3) s3.1, .cel w1.heap.size 0 [.func (.func 38) #[] #[.pointer (some ⟨w.heap.size, 0, none⟩)]]] := hs.updBox 0 rfl hb hg
                clear hb hg
                replace hf := Fr.keep (ks := [1, 4, 5, 6, 7, 9, 29]) (L' := [(1, .pointer (some ⟨w.heap.size, 0, none⟩)), (4, .pointer (some ⟨w1.heap.size, 0, none⟩)), (5, .func (.func 40) #[] #[.pointer (some ⟨w1.heap.size, 0, none⟩)]), (6, .slice ao3 s3.1.length cp3), (7, .slice ao7 z1.1.length cp7), (9, .pointer (some ⟨w5.heap.size, 0, none⟩)), (29, .int .i64 s6.1)]) hf (by kernel_rfl)
                refine wpList_nil ?_
                refine reg ?_
                refine st tbOk 2 [1, 4, 5, 6, 7, 9, 29] (L' := [(1, .pointer (some ⟨w.heap.size, 0, none⟩)), (4, .pointer (some ⟨w1.heap.size, 0, none⟩)), (5, .func (.func 40) #[] #[.pointer (some ⟨w1.heap.size, 0, none⟩)]), (6, .slice ao3 s3.1.length cp3), (7, .slice ao7 z1.1.length cp7), (9, .pointer (some ⟨w5.heap.size, 0, none⟩)), (29, .int .i64 (IntKind.i64.wrap (s6.1 + 1)))]) hf (by kernel_rfl) ?_
                clear hf; clear a; intro a hf
                refine wpList_nil ?_
                exact hK5 (IntKind.i64.wrap (s6.1 + 1), (s6.2.set (Int.toNat s6.1) z2.1)) _ _ ⟨_, hs.sel [0, 1, 2, 3, 4, 5] rfl rfl, (List.length_set.trans hn2), hf.keep (ks := [1, 4, 5, 6, 7, 9, 29]) (by kernel_rfl)⟩ hS
              · replace hS := of_f hb4 hS
                refine wp_exit ?_
                exact hK4 s6.2 _ _ ⟨_, hs.sel [0, 2, 3, 4, 5] rfl rfl, hn2, hf.keep (ks := [1, 4, 5, 6, 9]) (by kernel_rfl)⟩ hS
      · replace hS := of_f hb2 hS
        refine wp_exit ?_
        exact hK1 s3.1 _ _ ⟨ao3, cp3, _, hs.sel [0] rfl rfl, hf.keep (ks := [6]) (by kernel_rfl)⟩ hS

set_option maxHeartbeats 4000000 in
theorem notes_Find_ok {w : World} {F : SH} {p_l : List ((List UInt8) × Int × (List Int))} {name : List UInt8} {kind : Int} {ao1 : Option Addr} {cp1 : Nat} (hs : Sep w F (blks [.ro ty53 (.slice ao1 p_l.length cp1) p_l]) w F [.ro ty53 (.slice ao1 p_l.length cp1) p_l]) {r : (List Int) × Bool} (hS : notes_Find p_l name kind = some r) :
    Calls Try.prog 31 [.slice ao1 p_l.length cp1, strV name, .int .u32 kind].toArray w (Gives (fun u w' => ∃ (ao4 : Option Addr) (cp4 : Nat) (F' : SH), u = .tuple #[.slice ao4 r.1.length cp4, .bool r.2] ∧ Sep w F (blks [.ro ty53 (.slice ao1 p_l.length cp1) p_l]) w' F' [.row 5 (tI .u8) (.slice ao4 r.1.length cp4) r.1])) := by
  generalize (blks [.ro ty53 (.slice ao1 p_l.length cp1) p_l]) = R at hs ⊢
  unfold notes_Find at hS
  refine fn_ok (vs := [.slice ao1 p_l.length cp1, strV name, .int .u32 kind]) Try.func31 rfl 30 Try.ntmps31 (Nat.le_of_ble_eq_true rfl) ?_
  intro a hf
  replace hf := Fr.cast (L' := [(0, .slice ao1 p_l.length cp1), (1, strV name), (2, .int .u32 kind)]) hf (by kernel_rfl)
  refine sq ?_
  refine reg ?_
  refine st tbOk 2 [0, 1, 2] (L' := [(0, .slice ao1 p_l.length cp1), (1, strV name), (2, .int .u32 kind)]) hf (by kernel_rfl) ?_
  clear hf; clear a; intro a hf
  refine wpList_nil ?_
  refine sq ?_
  refine sq ?_
  refine reg ?_
  refine st tbOk 3 [1, 2, 10, 11, 12] (L' := [(1, strV name), (2, .int .u32 kind), (10, .slice ao1 p_l.length cp1), (11, .int .i64 ((p_l.length : Nat) : Int)), (12, .int .i64 0)]) hf (by kernel_rfl) ?_
  clear hf; clear a; intro a hf
  refine wpList_nil ?_
  refine ctj (fun (s1 : Unit) (a : Act) (w' : World) => ∃ (F1 : SH), Sep w F R w' F1 [] ∧ Fr 30 [] a) hS ?_ ?_
  · clear hS hf hs; clear a; intro s1 a w6 hM hS
    obtain ⟨F1, hs, hf⟩ := hM
    refine sq ?_
    refine reg ?_
    refine st tbOk 2 [6, 7] (L' := [(6, .slice none 0 0), (7, .bool false)]) hf (by kernel_rfl) ?_
    clear hf; clear a; intro a hf
    refine wpList_nil ?_
    have hr := Option.some.inj hS; subst hr
    refine wp_ret ?_
    replace hs : Sep w F R w6 F1 [.row 5 (tI .u8) (.slice none 0 0) ([] : List Int)] := hs.addNil 5 (tI .u8)
    exact ret_ok hf (vs := [.slice none 0 0, .bool false]) (by kernel_rfl) ⟨none, 0, _, rfl, hs.sel [0] rfl rfl⟩
  · clear hS; intro KK1 k1 hK1 hS
    refine blk ?_
    refine lp (st := 0) (fun (s2 : Int) (a : Act) (w' : World) => ∃ (F2 : SH), Sep w F R w' F2 [.ro ty53 (.slice ao1 p_l.length cp1) p_l] ∧ Fr 30 [(1, strV name), (2, .int .u32 kind), (10, .slice ao1 p_l.length cp1), (11, .int .i64 ((p_l.length : Nat) : Int)), (12, .int .i64 s2)] a) ?_ ⟨_, hs.sel [0] rfl rfl, hf.keep (ks := [1, 2, 10, 11, 12]) (by kernel_rfl)⟩ hS
    clear hS hf hs; clear a
    intro rec1 KK2 hK2 s2 a w1 hM hS
    obtain ⟨F2, hs, hf⟩ := hM
    refine sq ?_
    refine reg ?_
    refine st tbOk 1 [1, 2, 10, 11, 12, 13] (L' := [(1, strV name), (2, .int .u32 kind), (10, .slice ao1 p_l.length cp1), (11, .int .i64 ((p_l.length : Nat) : Int)), (12, .int .i64 s2), (13, .bool (decide (s2 < ((p_l.length : Nat) : Int))))]) hf (by kernel_rfl) ?_
    clear hf; clear a; intro a hf
    refine wpList_nil ?_
    refine sq ?_
    refine cnd (b := decide (s2 < ((p_l.length : Nat) : Int))) hf (by kernel_rfl) (fun hb1 => ?_) (fun hb1 => ?_)
    · replace hS := of_t hb1 hS
      refine wp_skip ?_
      refine sq ?_
      refine blk ?_
      refine sq ?_
      refine reg ?_
      have hT := of_gd hS; clear hS; obtain ⟨hc1, hS⟩ := hT
      refine ixR tbOk u37 i54 rfl rfl ((hs.ro 0 rfl).ra (LeH.refl _)) (k := .i64) (n := s2) hc1 hf (by kernel_rfl) (by kernel_rfl) (by kernel_rfl) (by kernel_rfl) ?_
      clear hf; clear a; intro pb1 po1 c1 a hp1 hr1 hf
      obtain ⟨ao2, cp2, rfl, hr2⟩ := hr1
      replace hs : Sep w F R w1 F2 [.ro (tI .u8) (.slice ao2 ((gt p_l s2).2.2).length cp2) ((gt p_l s2).2.2), .ro ty53 (.slice ao1 p_l.length cp1) p_l] := hs.addRo hr2
      replace hs : Sep w F R w1 F2 [.cel pb1 po1 [strV ((gt p_l s2).1), .int .u32 ((gt p_l s2).2.1), .slice ao2 ((gt p_l s2).2.2).length cp2], .ro (tI .u8) (.slice ao2 ((gt p_l s2).2.2).length cp2) ((gt p_l s2).2.2), .ro ty53 (.slice ao1 p_l.length cp1) p_l] := hs.addCel hp1
      replace hf := Fr.keep (ks := [1, 2, 10, 11, 12, 14]) (L' := [(1, strV name), (2, .int .u32 kind), (10, .slice ao1 p_l.length cp1), (11, .int .i64 ((p_l.length : Nat) : Int)), (12, .int .i64 s2), (14, .pointer (some ⟨pb1, po1, none⟩))]) hf (by kernel_rfl)
      refine ldC tbOk (T := 54) (hs.ccel 0 rfl) (LeH.refl _) 0 (.agg #[strV ((gt p_l s2).1), .int .u32 ((gt p_l s2).2.1), .slice ao2 ((gt p_l s2).2.2).length cp2]) hf (by kernel_rfl) (by kernel_rfl) (by kernel_rfl) (by kernel_rfl) ?_
      clear hf; clear a; intro a hf
      replace hs : Sep w F R w1 F2 [.ro (tI .u8) (.slice ao2 ((gt p_l s2).2.2).length cp2) ((gt p_l s2).2.2), .ro ty53 (.slice ao1 p_l.length cp1) p_l] := hs.sel [1, 2] rfl rfl
      replace hf := Fr.keep (ks := [1, 2, 10, 11, 12, 15]) (L' := [(1, strV name), (2, .int .u32 kind), (10, .slice ao1 p_l.length cp1), (11, .int .i64 ((p_l.length : Nat) : Int)), (12, .int .i64 s2), (15, .agg #[strV ((gt p_l s2).1), .int .u32 ((gt p_l s2).2.1), .slice ao2 ((gt p_l s2).2.2).length cp2])]) hf (by kernel_rfl)
      refine al tbOk i54 [strV [], .int .u32 0, .slice none 0 0] rfl (by kernel_rfl) hf (by kernel_rfl) (by kernel_rfl) ?_
      clear hf; clear a; intro w2 a hb hx _ hf
      replace hs : Sep w F R w2 F2 [.box w1.heap.size 54 [strV [], .int .u32 0, .slice none 0 0], .ro (tI .u8) (.slice ao2 ((gt p_l s2).2.2).length cp2) ((gt p_l s2).2.2), .ro ty53 (.slice ao1 p_l.length cp1) p_l] := hs.newBox hb hx
      clear hb hx
      replace hf := Fr.keep (ks := [1, 2, 9, 10, 11, 12, 15]) (L' := [(1, strV name), (2, .int .u32 kind), (9, .pointer (some ⟨w1.heap.size, 0, none⟩)), (10, .slice ao1 p_l.length cp1), (11, .int .i64 ((p_l.length : Nat) : Int)), (12, .int .i64 s2), (15, .agg #[strV ((gt p_l s2).1), .int .u32 ((gt p_l s2).2.1), .slice ao2 ((gt p_l s2).2.2).length cp2])]) hf (by kernel_rfl)
      refine stB tbOk i54 (hs.bx 0 rfl) 0 [strV ((gt p_l s2).1), .int .u32 ((gt p_l s2).2.1), .slice ao2 ((gt p_l s2).2.2).length cp2] [strV ((gt p_l s2).1), .int .u32 ((gt p_l s2).2.1), .slice ao2 ((gt p_l s2).2.2).length cp2] (v := .agg #[strV ((gt p_l s2).1), .int .u32 ((gt p_l s2).2.1), .slice ao2 ((gt p_l s2).2.2).length cp2]) rfl rfl (by kernel_rfl) (by kernel_rfl) (by kernel_rfl) (by kernel_rfl) hf (by kernel_rfl) (by kernel_rfl) (by kernel_rfl) ?_
      clear hf; clear a; intro w3 a hb hg _ hf
      replace hs : Sep w F R w3 F2 [.box w1.heap.size 54 [strV ((gt p_l s2).1), .int .u32 ((gt p_l s2).2.1), .slice ao2 ((gt p_l s2).2.2).length cp2], .ro (tI .u8) (.slice ao2 ((gt p_l s2).2.2).length cp2) ((gt p_l s2).2.2), .ro ty53 (.slice ao1 p_l.length cp1) p_l] := hs.updBox 0 rfl hb hg
      clear hb hg
      replace hf := Fr.keep (ks := [1, 2, 9, 10, 11, 12]) (L' := [(1, strV name), (2, .int .u32 kind), (9, .pointer (some ⟨w1.heap.size, 0, none⟩)), (10, .slice ao1 p_l.length cp1), (11, .int .i64 ((p_l.length : Nat) : Int)), (12, .int .i64 s2)]) hf (by kernel_rfl)
      refine wpList_nil ?_
      refine sq ?_
      refine ctj (fun (s3 : Bool) (a : Act) (w' : World) => ∃ (F3 : SH), Sep w F R w' F3 [.box w1.heap.size 54 [strV ((gt p_l s2).1), .int .u32 ((gt p_l s2).2.1), .slice ao2 ((gt p_l s2).2.2).length cp2], .ro (tI .u8) (.slice ao2 ((gt p_l s2).2.2).length cp2) ((gt p_l s2).2.2), .ro ty53 (.slice ao1 p_l.length cp1) p_l] ∧ Fr 30 [(1, strV name), (2, .int .u32 kind), (9, .pointer (some ⟨w1.heap.size, 0, none⟩)), (10, .slice ao1 p_l.length cp1), (11, .int .i64 ((p_l.length : Nat) : Int)), (12, .int .i64 s2), (25, .bool s3)] a) hS ?_ ?_
      · clear hS hf hs; clear a; intro s3 a w4 hM hS
        obtain ⟨F3, hs, hf⟩ := hM
        refine cnd (b := s3) hf (by kernel_rfl) (fun hb3 => ?_) (fun hb3 => ?_)
        · replace hS := of_t hb3 hS
          refine sq ?_
          refine reg ?_
          refine st tbOk 1 [26] (L' := [(26, .pointer (some ⟨w1.heap.size, 2, none⟩))]) hf (by kernel_rfl) ?_
          clear hf; clear a; intro a hf
          refine ldC tbOk (T := 22) (hs.cbx 0 rfl) (LeH.refl _) 2 (.slice ao2 ((gt p_l s2).2.2).length cp2) hf (by kernel_rfl) (by kernel_rfl) (by kernel_rfl) (by kernel_rfl) ?_
          clear hf; clear a; intro a hf
          replace hs : Sep w F R w4 F3 [.ro (tI .u8) (.slice ao2 ((gt p_l s2).2.2).length cp2) ((gt p_l s2).2.2)] := hs.sel [1] rfl rfl
          replace hf := Fr.keep (ks := [27]) (L' := [(27, .slice ao2 ((gt p_l s2).2.2).length cp2)]) hf (by kernel_rfl)
          have hT := of_bd hS; clear hS; obtain ⟨z1, hz1, hS⟩ := hT
          refine clV ent39 (vs := [.slice ao2 ((gt p_l s2).2.2).length cp2]) (caps := []) hf (by kernel_rfl) (by kernel_rfl) (by kernel_rfl) (by kernel_rfl) (slices_Clone_byte_byte_ok (s := (gt p_l s2).2.2) (hs.enter [0] rfl rfl) hz1) ?_
          clear hf; clear a; intro v w5 a hT hf; obtain ⟨ao3, cp3, F4, rfl, hr⟩ := hT
          replace hs : Sep w F R w5 F4 [.row 5 (tI .u8) (.slice ao3 z1.length cp3) z1, .ro (tI .u8) (.slice ao2 ((gt p_l s2).2.2).length cp2) ((gt p_l s2).2.2)] := hs.back [0] [0] rfl rfl rfl rfl hr
          clear hr
          replace hs : Sep w F R w5 F4 [.row 5 (tI .u8) (.slice ao3 z1.length cp3) z1] := hs.sel [0] rfl rfl
          replace hf := Fr.keep (ks := [28]) (L' := [(28, .slice ao3 z1.length cp3)]) hf (by kernel_rfl)
          refine st tbOk 2 [6, 7] (L' := [(6, .slice ao3 z1.length cp3), (7, .bool true)]) hf (by kernel_rfl) ?_
          clear hf; clear a; intro a hf
          refine wpList_nil ?_
          have hr := Option.some.inj hS; subst hr
          refine wp_ret ?_
          exact ret_ok hf (vs := [.slice ao3 z1.length cp3, .bool true]) (by kernel_rfl) ⟨ao3, cp3, _, rfl, hs.sel [0] rfl rfl⟩
        · replace hS := of_f hb3 hS
          refine wp_skip ?_
          refine reg ?_
          refine st tbOk 2 [1, 2, 10, 11, 12] (L' := [(1, strV name), (2, .int .u32 kind), (10, .slice ao1 p_l.length cp1), (11, .int .i64 ((p_l.length : Nat) : Int)), (12, .int .i64 (IntKind.i64.wrap (s2 + 1)))]) hf (by kernel_rfl) ?_
          clear hf; clear a; intro a hf
          refine wpList_nil ?_
          exact hK2 (IntKind.i64.wrap (s2 + 1)) _ _ ⟨_, hs.sel [2] rfl rfl, hf.keep (ks := [1, 2, 10, 11, 12]) (by kernel_rfl)⟩ hS
      · clear hS; intro KK3 k2 hK3 hS
        refine reg ?_
        refine st tbOk 1 [1, 2, 9, 10, 11, 12, 16] (L' := [(1, strV name), (2, .int .u32 kind), (9, .pointer (some ⟨w1.heap.size, 0, none⟩)), (10, .slice ao1 p_l.length cp1), (11, .int .i64 ((p_l.length : Nat) : Int)), (12, .int .i64 s2), (16, .pointer (some ⟨w1.heap.size, 0, none⟩))]) hf (by kernel_rfl) ?_
        clear hf; clear a; intro a hf
        refine ldC tbOk (T := 9) (hs.cbx 0 rfl) (LeH.refl _) 0 (strV ((gt p_l s2).1)) hf (by kernel_rfl) (by kernel_rfl) (by kernel_rfl) (by kernel_rfl) ?_
        clear hf; clear a; intro a hf
        replace hf := Fr.keep (ks := [1, 2, 9, 10, 11, 12, 17]) (L' := [(1, strV name), (2, .int .u32 kind), (9, .pointer (some ⟨w1.heap.size, 0, none⟩)), (10, .slice ao1 p_l.length cp1), (11, .int .i64 ((p_l.length : Nat) : Int)), (12, .int .i64 s2), (17, strV ((gt p_l s2).1))]) hf (by kernel_rfl)
        refine st tbOk 3 [1, 2, 9, 10, 11, 12, 20] (L' := [(1, strV name), (2, .int .u32 kind), (9, .pointer (some ⟨w1.heap.size, 0, none⟩)), (10, .slice ao1 p_l.length cp1), (11, .int .i64 ((p_l.length : Nat) : Int)), (12, .int .i64 s2), (20, .bool (((gt p_l s2).1) == name))]) hf (by kernel_rfl) ?_
        clear hf; clear a; intro a hf
        rcases Bool.eq_false_or_eq_true (((gt p_l s2).1) == name) with hb2 | hb2
        · replace hS := of_t hb2 hS
          replace hf := Fr.cast (L' := [(1, strV name), (2, .int .u32 kind), (9, .pointer (some ⟨w1.heap.size, 0, none⟩)), (10, .slice ao1 p_l.length cp1), (11, .int .i64 ((p_l.length : Nat) : Int)), (12, .int .i64 s2), (20, .bool true)]) hf (by rw [hb2])
          refine st tbOk 1 [1, 2, 9, 10, 11, 12, 20, 21] (L' := [(1, strV name), (2, .int .u32 kind), (9, .pointer (some ⟨w1.heap.size, 0, none⟩)), (10, .slice ao1 p_l.length cp1), (11, .int .i64 ((p_l.length : Nat) : Int)), (12, .int .i64 s2), (20, .bool true), (21, .pointer (some ⟨w1.heap.size, 1, none⟩))]) hf (by kernel_rfl) ?_
          clear hf; clear a; intro a hf
          refine ldC tbOk (T := 50) (hs.cbx 0 rfl) (LeH.refl _) 1 (.int .u32 ((gt p_l s2).2.1)) hf (by kernel_rfl) (by kernel_rfl) (by kernel_rfl) (by kernel_rfl) ?_
          clear hf; clear a; intro a hf
          replace hf := Fr.keep (ks := [1, 2, 9, 10, 11, 12, 20, 22]) (L' := [(1, strV name), (2, .int .u32 kind), (9, .pointer (some ⟨w1.heap.size, 0, none⟩)), (10, .slice ao1 p_l.length cp1), (11, .int .i64 ((p_l.length : Nat) : Int)), (12, .int .i64 s2), (20, .bool true), (22, .int .u32 ((gt p_l s2).2.1))]) hf (by kernel_rfl)
          refine st tbOk 3 [1, 2, 9, 10, 11, 12, 25] (L' := [(1, strV name), (2, .int .u32 kind), (9, .pointer (some ⟨w1.heap.size, 0, none⟩)), (10, .slice ao1 p_l.length cp1), (11, .int .i64 ((p_l.length : Nat) : Int)), (12, .int .i64 s2), (25, .bool (((gt p_l s2).2.1) == kind))]) hf (by kernel_rfl) ?_
          clear hf; clear a; intro a hf
          refine wpList_nil ?_
          exact hK3 (((gt p_l s2).2.1) == kind) _ _ ⟨_, hs.sel [0, 1, 2] rfl rfl, hf.keep (ks := [1, 2, 9, 10, 11, 12, 25]) (by kernel_rfl)⟩ hS
        · replace hS := of_f hb2 hS
          replace hf := Fr.cast (L' := [(1, strV name), (2, .int .u32 kind), (9, .pointer (some ⟨w1.heap.size, 0, none⟩)), (10, .slice ao1 p_l.length cp1), (11, .int .i64 ((p_l.length : Nat) : Int)), (12, .int .i64 s2), (20, .bool false)]) hf (by rw [hb2])
          refine st tbOk 5 [1, 2, 9, 10, 11, 12, 25] (L' := [(1, strV name), (2, .int .u32 kind), (9, .pointer (some ⟨w1.heap.size, 0, none⟩)), (10, .slice ao1 p_l.length cp1), (11, .int .i64 ((p_l.length : Nat) : Int)), (12, .int .i64 s2), (25, .bool false)]) hf (by kernel_rfl) ?_
          clear hf; clear a; intro a hf
          refine wpList_nil ?_
          exact hK3 false _ _ ⟨_, hs.sel [0, 1, 2] rfl rfl, hf.keep (ks := [1, 2, 9, 10, 11, 12, 25]) (by kernel_rfl)⟩ hS
    · replace hS := of_f hb1 hS
      refine wp_exit ?_
      exact hK1 () _ _ ⟨_, hs.sel [] rfl rfl, hf.keep (ks := []) (by kernel_rfl)⟩ hS

set_option maxHeartbeats 4000000 in
theorem law08_awake_ok {w : World} {F : SH}   (hs : Sep w F (blks []) w F []) {r : Bool} (hS : law08_awake = some r) :
    Calls Try.prog 23 [].toArray w (Gives (fun u w' => ∃ (F' : SH), u = .bool r ∧ Sep w F (blks []) w' F' [])) := by
  generalize (blks []) = R at hs ⊢
  unfold law08_awake at hS
  refine fn_ok (vs := []) Try.func23 rfl 58 Try.ntmps23 (Nat.le_of_ble_eq_true rfl) ?_
  intro a hf
  replace hf := Fr.cast (L' := []) hf (by kernel_rfl)
  refine sq ?_
  refine reg ?_
  refine st tbOk 1 [] (L' := []) hf (by kernel_rfl) ?_
  clear hf; clear a; intro a hf
  refine wpList_nil ?_
  refine sq ?_
  refine reg ?_
  refine bsR tbOk u22 i5 rfl (t := (tI .u8)) (vs := [(0, .int .u8 7)]) (cells := #[.int .u8 7]) ([7] : List Int) hs.le hf (by kernel_rfl) (by kernel_rfl) (by kernel_rfl) rfl (by kernel_rfl) (reps_flat _) rfl ?_
  clear hf; clear a; intro w1 a ho hx hf
  replace hs : Sep w F R w1 F [.row 5 (tI .u8) (.slice (some ⟨w.heap.size, 0, none⟩) ([7] : List Int).length ([7] : List Int).length) ([7] : List Int)] := hs.newRow ho hx
  clear ho hx
  replace hf := Fr.keep (ks := [10]) (L' := [(10, .slice (some ⟨w.heap.size, 0, none⟩) ([7] : List Int).length ([7] : List Int).length)]) hf (by kernel_rfl)
  refine st tbOk 1 [11] (L' := [(11, .agg #[strV [97], .int .u32 5, .slice (some ⟨w.heap.size, 0, none⟩) ([7] : List Int).length ([7] : List Int).length])]) hf (by kernel_rfl) ?_
  clear hf; clear a; intro a hf
  obtain ⟨F1, _, hs⟩ := hs.frz 0 rfl
  replace hs : Sep w F R w1 F1 [.ro (tI .u8) (.slice (some ⟨w.heap.size, 0, none⟩) ([7] : List Int).length ([7] : List Int).length) ([7] : List Int)] := hs
  refine bsR tbOk u37 i54 rfl (t := ty53) (vs := [(0, .agg #[strV [97], .int .u32 5, .slice (some ⟨w.heap.size, 0, none⟩) ([7] : List Int).length ([7] : List Int).length])]) (cells := #[strV [97], .int .u32 5, .slice (some ⟨w.heap.size, 0, none⟩) ([7] : List Int).length ([7] : List Int).length]) ([([97], 5, ([7] : List Int))] : List ((List UInt8) × Int × (List Int))) hs.le hf (by kernel_rfl) (by kernel_rfl) (by kernel_rfl) rfl (by kernel_rfl) ⟨_, _, rfl, ⟨(some ⟨w.heap.size, 0, none⟩), ([7] : List Int).length, rfl, hs.ro 0 rfl⟩, rfl⟩ rfl ?_
  clear hf; clear a; intro w2 a ho hx hf
  replace hs : Sep w F R w2 F1 [.row 54 ty53 (.slice (some ⟨w1.heap.size, 0, none⟩) ([([97], 5, ([7] : List Int))] : List ((List UInt8) × Int × (List Int))).length ([([97], 5, ([7] : List Int))] : List ((List UInt8) × Int × (List Int))).length) ([([97], 5, ([7] : List Int))] : List ((List UInt8) × Int × (List Int))), .ro (tI .u8) (.slice (some ⟨w.heap.size, 0, none⟩) ([7] : List Int).length ([7] : List Int).length) ([7] : List Int)] := hs.newRow ho hx
  clear ho hx
  replace hs : Sep w F R w2 F1 [.row 54 ty53 (.slice (some ⟨w1.heap.size, 0, none⟩) ([([97], 5, ([7] : List Int))] : List ((List UInt8) × Int × (List Int))).length ([([97], 5, ([7] : List Int))] : List ((List UInt8) × Int × (List Int))).length) ([([97], 5, ([7] : List Int))] : List ((List UInt8) × Int × (List Int)))] := hs.sel [0] rfl rfl
  replace hf := Fr.keep (ks := [12]) (L' := [(12, .slice (some ⟨w1.heap.size, 0, none⟩) ([([97], 5, ([7] : List Int))] : List ((List UInt8) × Int × (List Int))).length ([([97], 5, ([7] : List Int))] : List ((List UInt8) × Int × (List Int))).length)]) hf (by kernel_rfl)
  have hT := of_bd hS; clear hS; obtain ⟨z1, hz1, hS⟩ := hT
  refine clV ent25 (vs := [.slice (some ⟨w1.heap.size, 0, none⟩) ([([97], 5, ([7] : List Int))] : List ((List UInt8) × Int × (List Int))).length ([([97], 5, ([7] : List Int))] : List ((List UInt8) × Int × (List Int))).length]) (caps := []) hf (by kernel_rfl) (by kernel_rfl) (by kernel_rfl) (by kernel_rfl) (notes_Put_ok (p_l := ([([97], 5, ([7] : List Int))] : List ((List UInt8) × Int × (List Int)))) (hs.lend [0] [] rfl rfl rfl rfl rfl) hz1) ?_
  clear hf; clear a; intro v w3 a hT hf; obtain ⟨ao1, cp1, F2, rfl, hr⟩ := hT
  replace hs : Sep w F R w3 F1 [.row 5 (tI .u8) (.slice ao1 z1.1.length cp1) z1.1, .row 54 ty53 (.slice (some ⟨w1.heap.size, 0, none⟩) ([([97], 5, ([7] : List Int))] : List ((List UInt8) × Int × (List Int))).length ([([97], 5, ([7] : List Int))] : List ((List UInt8) × Int × (List Int))).length) ([([97], 5, ([7] : List Int))] : List ((List UInt8) × Int × (List Int)))] := hs.backL [0] [] [0] rfl rfl rfl rfl rfl rfl hr ⟨(flat_I .u8), trivial⟩
  clear hr
  replace hs : Sep w F R w3 F1 [.row 5 (tI .u8) (.slice ao1 z1.1.length cp1) z1.1] := hs.sel [0] rfl rfl
  replace hf := Fr.keep (ks := [13]) (L' := [(13, .tuple #[.slice ao1 z1.1.length cp1, .int .i64 z1.2])]) hf (by kernel_rfl)
  refine st tbOk 5 [1, 2] (L' := [(1, .slice ao1 z1.1.length cp1), (2, .int .i64 z1.2)]) hf (by kernel_rfl) ?_
  clear hf; clear a; intro a hf
  refine wpList_nil ?_
  refine sq ?_
  refine sq ?_
  refine ctj (fun (s1 : Bool) (a : Act) (w' : World) => ∃ (F3 : SH), Sep w F R w' F3 [.row 5 (tI .u8) (.slice ao1 z1.1.length cp1) z1.1] ∧ Fr 58 [(1, .slice ao1 z1.1.length cp1), (22, .bool s1)] a) hS ?_ ?_
  · clear hS hf hs; clear a; intro s1 a w4 hM hS
    obtain ⟨F3, hs, hf⟩ := hM
    refine cnd (b := s1) hf (by kernel_rfl) (fun hb2 => ?_) (fun hb2 => ?_)
    · replace hS := of_t hb2 hS
      refine sq ?_
      refine reg ?_
      refine st tbOk 1 [0] (L' := [(0, .bool false)]) hf (by kernel_rfl) ?_
      clear hf; clear a; intro a hf
      refine wpList_nil ?_
      have hr := Option.some.inj hS; subst hr
      refine wp_ret ?_
      exact ret_ok hf (vs := [.bool false]) (by kernel_rfl) ⟨_, rfl, hs.sel [] rfl rfl⟩
    · replace hS := of_f hb2 hS
      refine wp_skip ?_
      refine sq ?_
      refine reg ?_
      refine st tbOk 1 [1, 24] (L' := [(1, .slice ao1 z1.1.length cp1), (24, .slice ao1 z1.1.length cp1)]) hf (by kernel_rfl) ?_
      clear hf; clear a; intro a hf
      have hT := of_bd hS; clear hS; obtain ⟨z2, hz2, hS⟩ := hT
      obtain ⟨F4, _, hs⟩ := hs.frz 0 rfl
      replace hs : Sep w F R w4 F4 [.ro (tI .u8) (.slice ao1 z1.1.length cp1) z1.1] := hs
      refine clV ent28 (vs := [.slice ao1 z1.1.length cp1]) (caps := []) hf (by kernel_rfl) (by kernel_rfl) (by kernel_rfl) (by kernel_rfl) (notes_Get_ok (b := z1.1) (hs.enter [0] rfl rfl) hz2) ?_
      clear hf; clear a; intro v w5 a hT hf; obtain ⟨ao2, cp2, F5, rfl, hr⟩ := hT
      replace hs : Sep w F R w5 F5 [.row 54 ty53 (.slice ao2 z2.1.length cp2) z2.1, .ro (tI .u8) (.slice ao1 z1.1.length cp1) z1.1] := hs.back [0] [0] rfl rfl rfl rfl hr
      clear hr
      replace hf := Fr.keep (ks := [1, 25]) (L' := [(1, .slice ao1 z1.1.length cp1), (25, .tuple #[.slice ao2 z2.1.length cp2, .int .i64 z2.2])]) hf (by kernel_rfl)
      refine st tbOk 5 [1, 3, 4] (L' := [(1, .slice ao1 z1.1.length cp1), (3, .slice ao2 z2.1.length cp2), (4, .int .i64 z2.2)]) hf (by kernel_rfl) ?_
      clear hf; clear a; intro a hf
      refine wpList_nil ?_
      refine sq ?_
      refine reg ?_
      refine st tbOk 1 [1, 3, 4, 29] (L' := [(1, .slice ao1 z1.1.length cp1), (3, .slice ao2 z2.1.length cp2), (4, .int .i64 z2.2), (29, .slice ao2 z2.1.length cp2)]) hf (by kernel_rfl) ?_
      clear hf; clear a; intro a hf
      have hT := of_bd hS; clear hS; obtain ⟨z3, hz3, hS⟩ := hT
      refine clV ent31 (vs := [.slice ao2 z2.1.length cp2, strV [97], .int .u32 5]) (caps := []) hf (by kernel_rfl) (by kernel_rfl) (by kernel_rfl) (by kernel_rfl) (notes_Find_ok (p_l := z2.1) (name := [97]) (kind := 5) (hs.lend [0] [] rfl rfl rfl rfl rfl) hz3) ?_
      clear hf; clear a; intro v w6 a hT hf; obtain ⟨ao3, cp3, F6, rfl, hr⟩ := hT
      replace hs : Sep w F R w6 F5 [.row 5 (tI .u8) (.slice ao3 z3.1.length cp3) z3.1, .row 54 ty53 (.slice ao2 z2.1.length cp2) z2.1, .ro (tI .u8) (.slice ao1 z1.1.length cp1) z1.1] := hs.backL [0] [] [0, 1] rfl rfl rfl rfl rfl rfl hr ⟨(flat_I .u8), trivial⟩
      clear hr
      replace hf := Fr.keep (ks := [1, 3, 4, 30]) (L' := [(1, .slice ao1 z1.1.length cp1), (3, .slice ao2 z2.1.length cp2), (4, .int .i64 z2.2), (30, .tuple #[.slice ao3 z3.1.length cp3, .bool z3.2])]) hf (by kernel_rfl)
      refine st tbOk 5 [1, 3, 4, 5, 6] (L' := [(1, .slice ao1 z1.1.length cp1), (3, .slice ao2 z2.1.length cp2), (4, .int .i64 z2.2), (5, .slice ao3 z3.1.length cp3), (6, .bool z3.2)]) hf (by kernel_rfl) ?_
      clear hf; clear a; intro a hf
      refine wpList_nil ?_
      refine sq ?_
      refine reg ?_
      refine st tbOk 1 [3, 4, 5, 6, 34] (L' := [(3, .slice ao2 z2.1.length cp2), (4, .int .i64 z2.2), (5, .slice ao3 z3.1.length cp3), (6, .bool z3.2), (34, .slice ao1 z1.1.length cp1)]) hf (by kernel_rfl) ?_
      clear hf; clear a; intro a hf
      have hT := of_gd hS; clear hS; obtain ⟨hc1, hS⟩ := hT
      refine sl tbOk u22 i5 rfl (hs.ro 2 rfl) (lo := 0) (hi := 19) (m := 0) hc1 (.inl ⟨rfl, rfl⟩) (.inr ⟨_, .i64, rfl, by kernel_rfl⟩) (.inl rfl) hf (by kernel_rfl) (by kernel_rfl) (by kernel_rfl) ?_
      clear hf; clear a; intro ao4 cp4 a hr1 hf
      replace hs : Sep w F R w6 F5 [.ro (tI .u8) (.slice ao4 (cutL z1.1 0 19).length cp4) (cutL z1.1 0 19), .row 5 (tI .u8) (.slice ao3 z3.1.length cp3) z3.1, .row 54 ty53 (.slice ao2 z2.1.length cp2) z2.1, .ro (tI .u8) (.slice ao1 z1.1.length cp1) z1.1] := hs.addRo hr1
      replace hs : Sep w F R w6 F5 [.ro (tI .u8) (.slice ao4 (cutL z1.1 0 19).length cp4) (cutL z1.1 0 19), .row 5 (tI .u8) (.slice ao3 z3.1.length cp3) z3.1, .row 54 ty53 (.slice ao2 z2.1.length cp2) z2.1] := hs.sel [0, 1, 2] rfl rfl
      replace hf := Fr.keep (ks := [3, 4, 5, 6, 35]) (L' := [(3, .slice ao2 z2.1.length cp2), (4, .int .i64 z2.2), (5, .slice ao3 z3.1.length cp3), (6, .bool z3.2), (35, .slice ao4 (cutL z1.1 0 19).length cp4)]) hf (by kernel_rfl)
      have hT := of_bd hS; clear hS; obtain ⟨z4, hz4, hS⟩ := hT
      refine clV ent28 (vs := [.slice ao4 (cutL z1.1 0 19).length cp4]) (caps := []) hf (by kernel_rfl) (by kernel_rfl) (by kernel_rfl) (by kernel_rfl) (notes_Get_ok (b := (cutL z1.1 0 19)) (hs.enter [0] rfl rfl) hz4) ?_
      clear hf; clear a; intro v w7 a hT hf; obtain ⟨ao5, cp5, F7, rfl, hr⟩ := hT
      replace hs : Sep w F R w7 F7 [.row 54 ty53 (.slice ao5 z4.1.length cp5) z4.1, .ro (tI .u8) (.slice ao4 (cutL z1.1 0 19).length cp4) (cutL z1.1 0 19), .row 5 (tI .u8) (.slice ao3 z3.1.length cp3) z3.1, .row 54 ty53 (.slice ao2 z2.1.length cp2) z2.1] := hs.back [0] [0, 1, 2] rfl rfl rfl rfl hr
      clear hr
      replace hs : Sep w F R w7 F7 [.row 54 ty53 (.slice ao5 z4.1.length cp5) z4.1, .row 5 (tI .u8) (.slice ao3 z3.1.length cp3) z3.1, .row 54 ty53 (.slice ao2 z2.1.length cp2) z2.1] := hs.sel [0, 2, 3] rfl rfl
      replace hf := Fr.keep (ks := [3, 4, 5, 6, 36]) (L' := [(3, .slice ao2 z2.1.length cp2), (4, .int .i64 z2.2), (5, .slice ao3 z3.1.length cp3), (6, .bool z3.2), (36, .tuple #[.slice ao5 z4.1.length cp5, .int .i64 z4.2])]) hf (by kernel_rfl)
      refine st tbOk 5 [3, 4, 5, 6, 8] (L' := [(3, .slice ao2 z2.1.length cp2), (4, .int .i64 z2.2), (5, .slice ao3 z3.1.length cp3), (6, .bool z3.2), (8, .int .i64 z4.2)]) hf (by kernel_rfl) ?_
      clear hf; clear a; intro a hf
      refine wpList_nil ?_
      refine sq ?_
      refine ctj (fun (s2 : Bool) (a : Act) (w' : World) => ∃ (F8 : SH), Sep w F R w' F8 [] ∧ Fr 58 [(0, .bool s2)] a) hS ?_ ?_
      · clear hS hf hs; clear a; intro s2 a w8 hM hS
        obtain ⟨F8, hs, hf⟩ := hM
        have hr := Option.some.inj hS; subst hr
        refine wp_ret ?_
        exact ret_ok hf (vs := [.bool s2]) (by kernel_rfl) ⟨_, rfl, hs.sel [] rfl rfl⟩
      · clear hS; intro KK2 k2 hK2 hS
        refine reg ?_
        refine st tbOk 3 [3, 5, 6, 8, 41] (L' := [(3, .slice ao2 z2.1.length cp2), (5, .slice ao3 z3.1.length cp3), (6, .bool z3.2), (8, .int .i64 z4.2), (41, .bool (z2.2 == 0))]) hf (by kernel_rfl) ?_
        clear hf; clear a; intro a hf
        rcases Bool.eq_false_or_eq_true (z2.2 == 0) with hb3 | hb3
        · replace hS := of_t hb3 hS
          replace hf := Fr.cast (L' := [(3, .slice ao2 z2.1.length cp2), (5, .slice ao3 z3.1.length cp3), (6, .bool z3.2), (8, .int .i64 z4.2), (41, .bool true)]) hf (by rw [hb3])
          refine st tbOk 5 [5, 6, 8, 46] (L' := [(5, .slice ao3 z3.1.length cp3), (6, .bool z3.2), (8, .int .i64 z4.2), (46, .bool (((z2.1.length : Nat) : Int) == 1))]) hf (by kernel_rfl) ?_
          clear hf; clear a; intro a hf
          rcases Bool.eq_false_or_eq_true (((z2.1.length : Nat) : Int) == 1) with hb4 | hb4
          · replace hS := of_t hb4 hS
            replace hf := Fr.cast (L' := [(5, .slice ao3 z3.1.length cp3), (6, .bool z3.2), (8, .int .i64 z4.2), (46, .bool true)]) hf (by rw [hb4])
            refine st tbOk 3 [5, 8, 49] (L' := [(5, .slice ao3 z3.1.length cp3), (8, .int .i64 z4.2), (49, .bool z3.2)]) hf (by kernel_rfl) ?_
            clear hf; clear a; intro a hf
            rcases Bool.eq_false_or_eq_true (z3.2) with hb5 | hb5
            · replace hS := of_t hb5 hS
              replace hf := Fr.cast (L' := [(5, .slice ao3 z3.1.length cp3), (8, .int .i64 z4.2), (49, .bool true)]) hf (by rw [hb5])
              refine st tbOk 1 [8, 49, 50] (L' := [(8, .int .i64 z4.2), (49, .bool true), (50, .slice ao3 z3.1.length cp3)]) hf (by kernel_rfl) ?_
              clear hf; clear a; intro a hf
              refine b2sR tbOk u22 u5 u9 (hs.raW 1 rfl) hf (by kernel_rfl) (by kernel_rfl) (by kernel_rfl) ?_
              clear hf; clear a; intro a hf
              replace hs : Sep w F R w7 F7 [] := hs.sel [] rfl rfl
              replace hf := Fr.keep (ks := [8, 49, 51]) (L' := [(8, .int .i64 z4.2), (49, .bool true), (51, strV (toStr z3.1))]) hf (by kernel_rfl)
              refine st tbOk 3 [8, 54] (L' := [(8, .int .i64 z4.2), (54, .bool ((toStr z3.1) == [7]))]) hf (by kernel_rfl) ?_
              clear hf; clear a; intro a hf
              rcases Bool.eq_false_or_eq_true ((toStr z3.1) == [7]) with hb6 | hb6
              · replace hS := of_t hb6 hS
                replace hf := Fr.cast (L' := [(8, .int .i64 z4.2), (54, .bool true)]) hf (by rw [hb6])
                refine st tbOk 4 [0] (L' := [(0, .bool (z4.2 == 10))]) hf (by kernel_rfl) ?_
                clear hf; clear a; intro a hf
                refine wpList_nil ?_
                exact hK2 (z4.2 == 10) _ _ ⟨_, hs.sel [] rfl rfl, hf.keep (ks := [0]) (by kernel_rfl)⟩ hS
              · replace hS := of_f hb6 hS
                replace hf := Fr.cast (L' := [(8, .int .i64 z4.2), (54, .bool false)]) hf (by rw [hb6])
                refine st tbOk 4 [0] (L' := [(0, .bool false)]) hf (by kernel_rfl) ?_
                clear hf; clear a; intro a hf
                refine wpList_nil ?_
                exact hK2 false _ _ ⟨_, hs.sel [] rfl rfl, hf.keep (ks := [0]) (by kernel_rfl)⟩ hS
            · replace hS := of_f hb5 hS
              replace hf := Fr.cast (L' := [(5, .slice ao3 z3.1.length cp3), (8, .int .i64 z4.2), (49, .bool false)]) hf (by rw [hb5])
              refine st tbOk 9 [0] (L' := [(0, .bool false)]) hf (by kernel_rfl) ?_
              clear hf; clear a; intro a hf
              refine wpList_nil ?_
              exact hK2 false _ _ ⟨_, hs.sel [] rfl rfl, hf.keep (ks := [0]) (by kernel_rfl)⟩ hS
          · replace hS := of_f hb4 hS
            replace hf := Fr.cast (L' := [(5, .slice ao3 z3.1.length cp3), (6, .bool z3.2), (8, .int .i64 z4.2), (46, .bool false)]) hf (by rw [hb4])
            refine st tbOk 12 [0] (L' := [(0, .bool false)]) hf (by kernel_rfl) ?_
            clear hf; clear a; intro a hf
            refine wpList_nil ?_
            exact hK2 false _ _ ⟨_, hs.sel [] rfl rfl, hf.keep (ks := [0]) (by kernel_rfl)⟩ hS
        · replace hS := of_f hb3 hS
          replace hf := Fr.cast (L' := [(3, .slice ao2 z2.1.length cp2), (5, .slice ao3 z3.1.length cp3), (6, .bool z3.2), (8, .int .i64 z4.2), (41, .bool false)]) hf (by rw [hb3])
          refine st tbOk 17 [0] (L' := [(0, .bool false)]) hf (by kernel_rfl) ?_
          clear hf; clear a; intro a hf
          refine wpList_nil ?_
          exact hK2 false _ _ ⟨_, hs.sel [] rfl rfl, hf.keep (ks := [0]) (by kernel_rfl)⟩ hS
  · clear hS; intro KK1 k1 hK1 hS
    refine reg ?_
    refine st tbOk 3 [1, 18] (L' := [(1, .slice ao1 z1.1.length cp1), (18, .bool (z1.2 != 0))]) hf (by kernel_rfl) ?_
    clear hf; clear a; intro a hf
    rcases Bool.eq_false_or_eq_true (z1.2 != 0) with hb1 | hb1
    · replace hS := of_t hb1 hS
      replace hf := Fr.cast (L' := [(1, .slice ao1 z1.1.length cp1), (18, .bool true)]) hf (by rw [hb1])
      refine st tbOk 4 [1, 22] (L' := [(1, .slice ao1 z1.1.length cp1), (22, .bool true)]) hf (by kernel_rfl) ?_
      clear hf; clear a; intro a hf
      refine wpList_nil ?_
      exact hK1 true _ _ ⟨_, hs.sel [0] rfl rfl, hf.keep (ks := [1, 22]) (by kernel_rfl)⟩ hS
    · replace hS := of_f hb1 hS
      replace hf := Fr.cast (L' := [(1, .slice ao1 z1.1.length cp1), (18, .bool false)]) hf (by rw [hb1])
      refine st tbOk 1 [1, 18, 19] (L' := [(1, .slice ao1 z1.1.length cp1), (18, .bool false), (19, .slice ao1 z1.1.length cp1)]) hf (by kernel_rfl) ?_
      clear hf; clear a; intro a hf
      refine b2sR tbOk u22 u5 u9 (hs.raW 0 rfl) hf (by kernel_rfl) (by kernel_rfl) (by kernel_rfl) ?_
      clear hf; clear a; intro a hf
      replace hf := Fr.keep (ks := [1, 18, 20]) (L' := [(1, .slice ao1 z1.1.length cp1), (18, .bool false), (20, strV (toStr z1.1))]) hf (by kernel_rfl)
      refine st tbOk 2 [1, 22] (L' := [(1, .slice ao1 z1.1.length cp1), (22, .bool (!((toStr z1.1) == [2, 0, 0, 0, 1, 0, 0, 0, 5, 0, 0, 0, 97, 0, 0, 0, 7, 0, 0, 0])))]) hf (by kernel_rfl) ?_
      clear hf; clear a; intro a hf
      refine wpList_nil ?_
      exact hK1 (!((toStr z1.1) == [2, 0, 0, 0, 1, 0, 0, 0, 5, 0, 0, 0, 97, 0, 0, 0, 7, 0, 0, 0])) _ _ ⟨_, hs.sel [0] rfl rfl, hf.keep (ks := [1, 22]) (by kernel_rfl)⟩ hS

end Dm
