/-
  The walks: a call of each Go function gives what its shallow form gives, where that form gives something; printed by a program of this repo. No condition.
-/
import Derived.Test.YtljdbjimdidigaaWT
namespace Dm
open Go Go.RowKit Go.Proofs

set_option maxHeartbeats 4000000 in
theorem octets_width_ok {w : World} {F : SH} {n : Int}  (hs : Sep w F (blks []) w F []) {r : Bool} (hS : octets_width n = some r) :
    Calls Try.prog 51 [.int .i64 n].toArray w (Gives (fun u w' => ∃ (F' : SH), u = .bool r ∧ Sep w F (blks []) w' F' [])) := by
  generalize (blks []) = R at hs ⊢
  unfold octets_width at hS
  refine fn_ok (vs := [.int .i64 n]) Try.func51 rfl 17 Try.ntmps51 (Nat.le_of_ble_eq_true rfl) ?_
  intro a hf
  replace hf := Fr.cast (L' := [(0, .int .i64 n)]) hf (by kernel_rfl)
  refine sq ?_
  refine reg ?_
  refine st tbOk 1 [0] (L' := [(0, .int .i64 n)]) hf (by kernel_rfl) ?_
  clear hf; clear a; intro a hf
  refine wpList_nil ?_
  refine sq ?_
  refine ctj (fun (s1 : Bool) (a : Act) (w' : World) => ∃ (F1 : SH), Sep w F R w' F1 [] ∧ Fr 17 [(2, .bool s1)] a) hS ?_ ?_
  · clear hS hf hs; clear a; intro s1 a w1 hM hS
    obtain ⟨F1, hs, hf⟩ := hM
    have hr := Option.some.inj hS; subst hr
    refine wp_ret ?_
    exact ret_ok hf (vs := [.bool s1]) (by kernel_rfl) ⟨_, rfl, hs.sel [] rfl rfl⟩
  · clear hS; intro KK1 k1 hK1 hS
    refine reg ?_
    refine st tbOk 3 [0, 5] (L' := [(0, .int .i64 n), (5, .bool (n == 1))]) hf (by kernel_rfl) ?_
    clear hf; clear a; intro a hf
    rcases Bool.eq_false_or_eq_true (n == 1) with hb1 | hb1
    · replace hS := of_t hb1 hS
      replace hf := Fr.cast (L' := [(0, .int .i64 n), (5, .bool true)]) hf (by rw [hb1])
      refine st tbOk 12 [2] (L' := [(2, .bool true)]) hf (by kernel_rfl) ?_
      clear hf; clear a; intro a hf
      refine wpList_nil ?_
      exact hK1 true _ _ ⟨_, hs.sel [] rfl rfl, hf.keep (ks := [2]) (by kernel_rfl)⟩ hS
    · replace hS := of_f hb1 hS
      replace hf := Fr.cast (L' := [(0, .int .i64 n), (5, .bool false)]) hf (by rw [hb1])
      refine st tbOk 4 [0, 9] (L' := [(0, .int .i64 n), (9, .bool (n == 2))]) hf (by kernel_rfl) ?_
      clear hf; clear a; intro a hf
      rcases Bool.eq_false_or_eq_true (n == 2) with hb2 | hb2
      · replace hS := of_t hb2 hS
        replace hf := Fr.cast (L' := [(0, .int .i64 n), (9, .bool true)]) hf (by rw [hb2])
        refine st tbOk 8 [2] (L' := [(2, .bool true)]) hf (by kernel_rfl) ?_
        clear hf; clear a; intro a hf
        refine wpList_nil ?_
        exact hK1 true _ _ ⟨_, hs.sel [] rfl rfl, hf.keep (ks := [2]) (by kernel_rfl)⟩ hS
      · replace hS := of_f hb2 hS
        replace hf := Fr.cast (L' := [(0, .int .i64 n), (9, .bool false)]) hf (by rw [hb2])
        refine st tbOk 4 [0, 13] (L' := [(0, .int .i64 n), (13, .bool (n == 4))]) hf (by kernel_rfl) ?_
        clear hf; clear a; intro a hf
        rcases Bool.eq_false_or_eq_true (n == 4) with hb3 | hb3
        · replace hS := of_t hb3 hS
          replace hf := Fr.cast (L' := [(0, .int .i64 n), (13, .bool true)]) hf (by rw [hb3])
          refine st tbOk 4 [2] (L' := [(2, .bool true)]) hf (by kernel_rfl) ?_
          clear hf; clear a; intro a hf
          refine wpList_nil ?_
          exact hK1 true _ _ ⟨_, hs.sel [] rfl rfl, hf.keep (ks := [2]) (by kernel_rfl)⟩ hS
        · replace hS := of_f hb3 hS
          replace hf := Fr.cast (L' := [(0, .int .i64 n), (13, .bool false)]) hf (by rw [hb3])
          refine st tbOk 4 [2] (L' := [(2, .bool (n == 8))]) hf (by kernel_rfl) ?_
          clear hf; clear a; intro a hf
          refine wpList_nil ?_
          exact hK1 (n == 8) _ _ ⟨_, hs.sel [] rfl rfl, hf.keep (ks := [2]) (by kernel_rfl)⟩ hS

set_option maxHeartbeats 4000000 in
theorem octets_has_ok {w : World} {F : SH} {p_many : Int} {p_at : Int} {size : Int}  (hs : Sep w F (blks []) w F []) {r : Bool} (hS : octets_has p_many p_at size = some r) :
    Calls Try.prog 44 [.int .i64 p_many, .int .u64 p_at, .int .u64 size].toArray w (Gives (fun u w' => ∃ (F' : SH), u = .bool r ∧ Sep w F (blks []) w' F' [])) := by
  generalize (blks []) = R at hs ⊢
  unfold octets_has at hS
  refine fn_ok (vs := [.int .i64 p_many, .int .u64 p_at, .int .u64 size]) Try.func44 rfl 20 Try.ntmps44 (Nat.le_of_ble_eq_true rfl) ?_
  intro a hf
  replace hf := Fr.cast (L' := [(0, .int .i64 p_many), (1, .int .u64 p_at), (2, .int .u64 size)]) hf (by kernel_rfl)
  refine sq ?_
  refine reg ?_
  refine st tbOk 1 [0, 1, 2] (L' := [(0, .int .i64 p_many), (1, .int .u64 p_at), (2, .int .u64 size)]) hf (by kernel_rfl) ?_
  clear hf; clear a; intro a hf
  refine wpList_nil ?_
  refine sq ?_
  refine reg ?_
  have hT := of_let hS; clear hS; obtain ⟨all_1, hl1, hS⟩ := hT
  refine st tbOk 3 [1, 2, 7] (L' := [(1, .int .u64 p_at), (2, .int .u64 size), (7, .int .u64 all_1)]) hf (by subst hl1; kernel_rfl) ?_
  clear hf; clear a; intro a hf
  refine wpList_nil ?_
  refine sq ?_
  refine ctj (fun (s1 : Bool) (a : Act) (w' : World) => ∃ (F1 : SH), Sep w F R w' F1 [] ∧ Fr 20 [(6, .bool s1)] a) hS ?_ ?_
  · clear hS hf hs; clear a; intro s1 a w1 hM hS
    obtain ⟨F1, hs, hf⟩ := hM
    have hr := Option.some.inj hS; subst hr
    refine wp_ret ?_
    exact ret_ok hf (vs := [.bool s1]) (by kernel_rfl) ⟨_, rfl, hs.sel [] rfl rfl⟩
  · clear hS; intro KK1 k1 hK1 hS
    refine reg ?_
    refine st tbOk 4 [1, 2, 7, 13] (L' := [(1, .int .u64 p_at), (2, .int .u64 size), (7, .int .u64 all_1), (13, .bool (decide (p_at ≤ all_1)))]) hf (by kernel_rfl) ?_
    clear hf; clear a; intro a hf
    rcases Bool.eq_false_or_eq_true (decide (p_at ≤ all_1)) with hb1 | hb1
    · replace hS := of_t hb1 hS
      replace hf := Fr.cast (L' := [(1, .int .u64 p_at), (2, .int .u64 size), (7, .int .u64 all_1), (13, .bool true)]) hf (by rw [hb1])
      refine st tbOk 7 [6] (L' := [(6, .bool (decide (size ≤ (IntKind.u64.wrap (all_1 - p_at)))))]) hf (by kernel_rfl) ?_
      clear hf; clear a; intro a hf
      refine wpList_nil ?_
      exact hK1 (decide (size ≤ (IntKind.u64.wrap (all_1 - p_at)))) _ _ ⟨_, hs.sel [] rfl rfl, hf.keep (ks := [6]) (by kernel_rfl)⟩ hS
    · replace hS := of_f hb1 hS
      replace hf := Fr.cast (L' := [(1, .int .u64 p_at), (2, .int .u64 size), (7, .int .u64 all_1), (13, .bool false)]) hf (by rw [hb1])
      refine st tbOk 7 [6] (L' := [(6, .bool false)]) hf (by kernel_rfl) ?_
      clear hf; clear a; intro a hf
      refine wpList_nil ?_
      exact hK1 false _ _ ⟨_, hs.sel [] rfl rfl, hf.keep (ks := [6]) (by kernel_rfl)⟩ hS

set_option maxHeartbeats 4000000 in
theorem octets_fits_ok {w : World} {F : SH} {b : List Int} {p_at : Int} {n : Int} {ao1 : Option Addr} {cp1 : Nat} (hs : Sep w F (blks [.ro (tI .u8) (.slice ao1 b.length cp1) b]) w F [.ro (tI .u8) (.slice ao1 b.length cp1) b]) {r : Int} (hS : octets_fits b p_at n = some r) :
    Calls Try.prog 41 [.slice ao1 b.length cp1, .int .u64 p_at, .int .i64 n].toArray w (Gives (fun u w' => ∃ (F' : SH), u = .int .i64 r ∧ Sep w F (blks [.ro (tI .u8) (.slice ao1 b.length cp1) b]) w' F' [])) := by
  generalize (blks [.ro (tI .u8) (.slice ao1 b.length cp1) b]) = R at hs ⊢
  unfold octets_fits at hS
  refine fn_ok (vs := [.slice ao1 b.length cp1, .int .u64 p_at, .int .i64 n]) Try.func41 rfl 19 Try.ntmps41 (Nat.le_of_ble_eq_true rfl) ?_
  intro a hf
  replace hf := Fr.cast (L' := [(0, .slice ao1 b.length cp1), (1, .int .u64 p_at), (2, .int .i64 n)]) hf (by kernel_rfl)
  refine sq ?_
  refine reg ?_
  refine st tbOk 1 [0, 1, 2] (L' := [(0, .slice ao1 b.length cp1), (1, .int .u64 p_at), (2, .int .i64 n)]) hf (by kernel_rfl) ?_
  clear hf; clear a; intro a hf
  refine wpList_nil ?_
  refine sq ?_
  refine blk ?_
  refine sq ?_
  refine reg ?_
  refine st tbOk 1 [0, 1, 2, 8] (L' := [(0, .slice ao1 b.length cp1), (1, .int .u64 p_at), (2, .int .i64 n), (8, .int .i64 n)]) hf (by kernel_rfl) ?_
  clear hf; clear a; intro a hf
  have hT := of_bd hS; clear hS; obtain ⟨z1, hz1, hS⟩ := hT
  refine clV ent51 (vs := [.int .i64 n]) (caps := []) hf (by kernel_rfl) (by kernel_rfl) (by kernel_rfl) (by kernel_rfl) (octets_width_ok (n := n) (hs.enter [] rfl rfl) hz1) ?_
  clear hf; clear a; intro v w1 a hT hf; obtain ⟨F1, rfl, hr⟩ := hT
  replace hs : Sep w F R w1 F1 [.ro (tI .u8) (.slice ao1 b.length cp1) b] := hs.back [] [0] rfl rfl rfl rfl hr
  clear hr
  replace hf := Fr.keep (ks := [0, 1, 2, 9]) (L' := [(0, .slice ao1 b.length cp1), (1, .int .u64 p_at), (2, .int .i64 n), (9, .bool z1)]) hf (by kernel_rfl)
  refine st tbOk 2 [0, 1, 2, 7] (L' := [(0, .slice ao1 b.length cp1), (1, .int .u64 p_at), (2, .int .i64 n), (7, .bool (!z1))]) hf (by kernel_rfl) ?_
  clear hf; clear a; intro a hf
  refine wpList_nil ?_
  refine cnd (b := !z1) hf (by kernel_rfl) (fun hb1 => ?_) (fun hb1 => ?_)
  · replace hS := of_t hb1 hS
    refine sq ?_
    refine reg ?_
    refine st tbOk 1 [6] (L' := [(6, .int .i64 1)]) hf (by kernel_rfl) ?_
    clear hf; clear a; intro a hf
    refine wpList_nil ?_
    have hr := Option.some.inj hS; subst hr
    refine wp_ret ?_
    exact ret_ok hf (vs := [.int .i64 1]) (by kernel_rfl) ⟨_, rfl, hs.sel [] rfl rfl⟩
  · replace hS := of_f hb1 hS
    refine sq ?_
    refine reg ?_
    refine st tbOk 5 [13, 14, 16] (L' := [(13, .int .i64 ((b.length : Nat) : Int)), (14, .int .u64 p_at), (16, .int .u64 (IntKind.u64.wrap n))]) hf (by kernel_rfl) ?_
    clear hf; clear a; intro a hf
    have hT := of_bd hS; clear hS; obtain ⟨z2, hz2, hS⟩ := hT
    refine clV ent44 (vs := [.int .i64 ((b.length : Nat) : Int), .int .u64 p_at, .int .u64 (IntKind.u64.wrap n)]) (caps := []) hf (by kernel_rfl) (by kernel_rfl) (by kernel_rfl) (by kernel_rfl) (octets_has_ok (p_many := ((b.length : Nat) : Int)) (p_at := p_at) (size := IntKind.u64.wrap n) (hs.enter [] rfl rfl) hz2) ?_
    clear hf; clear a; intro v w2 a hT hf; obtain ⟨F2, rfl, hr⟩ := hT
    replace hs : Sep w F R w2 F2 [.ro (tI .u8) (.slice ao1 b.length cp1) b] := hs.back [] [0] rfl rfl rfl rfl hr
    clear hr
    replace hs : Sep w F R w2 F2 [] := hs.sel [] rfl rfl
    replace hf := Fr.keep (ks := [17]) (L' := [(17, .bool z2)]) hf (by kernel_rfl)
    refine st tbOk 2 [11] (L' := [(11, .bool (!z2))]) hf (by kernel_rfl) ?_
    clear hf; clear a; intro a hf
    refine wpList_nil ?_
    refine cnd (b := !z2) hf (by kernel_rfl) (fun hb2 => ?_) (fun hb2 => ?_)
    · replace hS := of_t hb2 hS
      refine sq ?_
      refine reg ?_
      refine st tbOk 1 [6] (L' := [(6, .int .i64 10)]) hf (by kernel_rfl) ?_
      clear hf; clear a; intro a hf
      refine wpList_nil ?_
      have hr := Option.some.inj hS; subst hr
      refine wp_ret ?_
      exact ret_ok hf (vs := [.int .i64 10]) (by kernel_rfl) ⟨_, rfl, hs.sel [] rfl rfl⟩
    · replace hS := of_f hb2 hS
      refine wp_skip ?_
      refine sq ?_
      refine reg ?_
      refine st tbOk 1 [6] (L' := [(6, .int .i64 0)]) hf (by kernel_rfl) ?_
      clear hf; clear a; intro a hf
      refine wpList_nil ?_
      have hr := Option.some.inj hS; subst hr
      refine wp_ret ?_
      exact ret_ok hf (vs := [.int .i64 0]) (by kernel_rfl) ⟨_, rfl, hs.sel [] rfl rfl⟩

theorem slices_Clone_byte_byte_ok {w : World} {F : SH} {s : List Int} {ao : Option Addr} {cp : Nat} (hs : Sep w F (blks [.ro (tI .u8) (.slice ao s.length cp) s]) w F [.ro (tI .u8) (.slice ao s.length cp) s]) {r : List Int} (hS : slices_Clone_byte_byte s = some r) :
    Calls Try.prog 42 [.slice ao s.length cp].toArray w (Gives (fun u w' => ∃ (ao1 : Option Addr) (cp1 : Nat) (F' : SH), u = .slice ao1 r.length cp1 ∧ Sep w F (blks [.ro (tI .u8) (.slice ao s.length cp) s]) w' F' [.row 5 (tI .u8) (.slice ao1 r.length cp1) r])) := by
  generalize blks [.ro (tI .u8) (.slice ao s.length cp) s] = R at hs ⊢
  unfold slices_Clone_byte_byte at hS
  obtain ⟨hc1, hS⟩ := of_gd hS
  have hr := Option.some.inj hS; subst hr
  refine fn_ok (vs := [.slice ao s.length cp]) Try.func42 rfl 8 Try.ntmps42 (Nat.le_of_ble_eq_true rfl) ?_
  intro a hf
  replace hf := Fr.cast (L' := [(0, .slice ao s.length cp)]) hf (by kernel_rfl)
  refine sq ?_
  refine reg ?_
  refine st tbOk 1 [0] (L' := [(0, .slice ao s.length cp)]) hf (by kernel_rfl) ?_
  clear hf; clear a; intro a hf
  refine wpList_nil ?_
  refine sq ?_
  refine sq ?_
  refine reg ?_
  refine st tbOk 1 [0, 3] (L' := [(0, .slice ao s.length cp), (3, .slice ao s.length cp)]) hf (by kernel_rfl) ?_
  clear hf; clear a; intro a hf
  refine eqnil tbOk u27 (ao := ao) (n := s.length) (c := cp) hf (by kernel_rfl) (by kernel_rfl) (by kernel_rfl) ?_
  clear hf; clear a; intro a hf
  refine wpList_nil ?_
  refine cnd (b := ao.isNone) hf (by kernel_rfl) (fun hb => ?_) (fun hb => ?_)
  · have hao : ao = none := by simpa using hb
    subst hao
    have hnil := (hs.ro 0 rfl).none_nil (Nat.le_of_ble_eq_true rfl)
    subst hnil
    refine sq ?_
    refine reg ?_
    refine st tbOk 1 [2] (L' := [(2, .slice none 0 0)]) hf (by kernel_rfl) ?_
    clear hf; clear a; intro a hf
    refine wpList_nil ?_
    refine wp_ret ?_
    replace hs := hs.addNil 5 (tI .u8)
    exact ret_ok hf (vs := [.slice none 0 0]) (by kernel_rfl) ⟨none, 0, _, rfl, hs.sel [0] rfl rfl⟩
  · refine wp_skip ?_
    refine sq ?_
    refine reg ?_
    refine bsR tbOk u27 i5 rfl (t := (tI .u8)) (vs := []) (cells := #[]) ([] : List Int) hs.le hf (by kernel_rfl) (by kernel_rfl) (by kernel_rfl) rfl (by kernel_rfl) rfl rfl ?_
    clear hf; clear a; intro w1 a ho hx hf
    replace hs := hs.newRow ho hx
    clear ho hx
    refine st tbOk 1 [5, 6] (L' := [(5, .slice (some ⟨w.heap.size, 0, none⟩) ([] : List Int).length ([] : List Int).length), (6, .slice ao s.length cp)]) hf (by kernel_rfl) ?_
    clear hf; clear a; intro a hf
    refine apR tbOk u27 i5 rfl rfl rfl rfl hs.le (hs.own 0 rfl) (hs.raR 1 rfl) (by simpa using hc1) hf (by kernel_rfl) (by kernel_rfl) (by kernel_rfl) (by kernel_rfl) ?_
    clear hf; clear a; intro ao2 cp2 w2 a ho hg hl hf
    replace hs := hs.updRow 0 rfl ho hg hl
    clear ho hg hl
    refine st tbOk 1 [2] (L' := [(2, .slice ao2 s.length cp2)]) hf (by kernel_rfl) ?_
    clear hf; clear a; intro a hf
    refine wpList_nil ?_
    refine wp_ret ?_
    exact ret_ok hf (vs := [.slice ao2 s.length cp2]) (by kernel_rfl) ⟨ao2, cp2, _, rfl, hs.sel [0] rfl rfl⟩

set_option maxHeartbeats 4000000 in
theorem octets_Set_ok {w : World} {F : SH} {b : List Int} {p_at : Int} {n : Int} {p_x : Int} {ao1 : Option Addr} {cp1 : Nat} (hs : Sep w F (blks [.ro (tI .u8) (.slice ao1 b.length cp1) b]) w F [.ro (tI .u8) (.slice ao1 b.length cp1) b]) {r : (List Int) × Int} (hS : octets_Set b p_at n p_x = some r) :
    Calls Try.prog 26 [.slice ao1 b.length cp1, .int .u64 p_at, .int .i64 n, .int .u64 p_x].toArray w (Gives (fun u w' => ∃ (ao5 : Option Addr) (cp5 : Nat) (F' : SH), u = .tuple #[.slice ao5 r.1.length cp5, .int .i64 r.2] ∧ Sep w F (blks [.ro (tI .u8) (.slice ao1 b.length cp1) b]) w' F' [.row 5 (tI .u8) (.slice ao5 r.1.length cp5) r.1])) := by
  generalize (blks [.ro (tI .u8) (.slice ao1 b.length cp1) b]) = R at hs ⊢
  unfold octets_Set at hS
  refine fn_ok (vs := [.slice ao1 b.length cp1, .int .u64 p_at, .int .i64 n, .int .u64 p_x]) Try.func26 rfl 40 Try.ntmps26 (Nat.le_of_ble_eq_true rfl) ?_
  intro a hf
  replace hf := Fr.cast (L' := [(0, .slice ao1 b.length cp1), (1, .int .u64 p_at), (2, .int .i64 n), (3, .int .u64 p_x)]) hf (by kernel_rfl)
  refine sq ?_
  refine reg ?_
  refine st tbOk 2 [0, 1, 2, 3] (L' := [(0, .slice ao1 b.length cp1), (1, .int .u64 p_at), (2, .int .i64 n), (3, .int .u64 p_x)]) hf (by kernel_rfl) ?_
  clear hf; clear a; intro a hf
  refine wpList_nil ?_
  refine sq ?_
  refine sq ?_
  refine reg ?_
  refine st tbOk 3 [0, 1, 2, 3, 13, 14, 15] (L' := [(0, .slice ao1 b.length cp1), (1, .int .u64 p_at), (2, .int .i64 n), (3, .int .u64 p_x), (13, .slice ao1 b.length cp1), (14, .int .u64 p_at), (15, .int .i64 n)]) hf (by kernel_rfl) ?_
  clear hf; clear a; intro a hf
  have hT := of_bd hS; clear hS; obtain ⟨z1, hz1, hS⟩ := hT
  refine clV ent41 (vs := [.slice ao1 b.length cp1, .int .u64 p_at, .int .i64 n]) (caps := []) hf (by kernel_rfl) (by kernel_rfl) (by kernel_rfl) (by kernel_rfl) (octets_fits_ok (b := b) (p_at := p_at) (n := n) (hs.enter [0] rfl rfl) hz1) ?_
  clear hf; clear a; intro v w1 a hT hf; obtain ⟨F1, rfl, hr⟩ := hT
  replace hs : Sep w F R w1 F1 [.ro (tI .u8) (.slice ao1 b.length cp1) b] := hs.back [0] [0] rfl rfl rfl rfl hr
  clear hr
  replace hf := Fr.keep (ks := [0, 1, 2, 3, 16]) (L' := [(0, .slice ao1 b.length cp1), (1, .int .u64 p_at), (2, .int .i64 n), (3, .int .u64 p_x), (16, .int .i64 z1)]) hf (by kernel_rfl)
  refine st tbOk 1 [0, 1, 2, 3, 10] (L' := [(0, .slice ao1 b.length cp1), (1, .int .u64 p_at), (2, .int .i64 n), (3, .int .u64 p_x), (10, .int .i64 z1)]) hf (by kernel_rfl) ?_
  clear hf; clear a; intro a hf
  refine wpList_nil ?_
  refine sq ?_
  refine reg ?_
  refine st tbOk 2 [0, 1, 2, 3, 10, 18] (L' := [(0, .slice ao1 b.length cp1), (1, .int .u64 p_at), (2, .int .i64 n), (3, .int .u64 p_x), (10, .int .i64 z1), (18, .bool (z1 != 0))]) hf (by kernel_rfl) ?_
  clear hf; clear a; intro a hf
  refine wpList_nil ?_
  refine cnd (b := z1 != 0) hf (by kernel_rfl) (fun hb1 => ?_) (fun hb1 => ?_)
  · replace hS := of_t hb1 hS
    refine sq ?_
    refine reg ?_
    refine st tbOk 3 [8, 9] (L' := [(8, .slice none 0 0), (9, .int .i64 z1)]) hf (by kernel_rfl) ?_
    clear hf; clear a; intro a hf
    refine wpList_nil ?_
    have hr := Option.some.inj hS; subst hr
    refine wp_ret ?_
    replace hs : Sep w F R w1 F1 [.row 5 (tI .u8) (.slice none 0 0) ([] : List Int), .ro (tI .u8) (.slice ao1 b.length cp1) b] := hs.addNil 5 (tI .u8)
    exact ret_ok hf (vs := [.slice none 0 0, .int .i64 z1]) (by kernel_rfl) ⟨none, 0, _, rfl, hs.sel [0] rfl rfl⟩
  · replace hS := of_f hb1 hS
    refine wp_skip ?_
    refine sq ?_
    refine reg ?_
    refine st tbOk 1 [1, 2, 3, 20] (L' := [(1, .int .u64 p_at), (2, .int .i64 n), (3, .int .u64 p_x), (20, .slice ao1 b.length cp1)]) hf (by kernel_rfl) ?_
    clear hf; clear a; intro a hf
    have hT := of_bd hS; clear hS; obtain ⟨z2, hz2, hS⟩ := hT
    refine clV ent42 (vs := [.slice ao1 b.length cp1]) (caps := []) hf (by kernel_rfl) (by kernel_rfl) (by kernel_rfl) (by kernel_rfl) (slices_Clone_byte_byte_ok (s := b) (hs.enter [0] rfl rfl) hz2) ?_
    clear hf; clear a; intro v w2 a hT hf; obtain ⟨ao2, cp2, F2, rfl, hr⟩ := hT
    replace hs : Sep w F R w2 F2 [.row 5 (tI .u8) (.slice ao2 z2.length cp2) z2, .ro (tI .u8) (.slice ao1 b.length cp1) b] := hs.back [0] [0] rfl rfl rfl rfl hr
    clear hr
    replace hs : Sep w F R w2 F2 [.row 5 (tI .u8) (.slice ao2 z2.length cp2) z2] := hs.sel [0] rfl rfl
    replace hf := Fr.keep (ks := [1, 2, 3, 21]) (L' := [(1, .int .u64 p_at), (2, .int .i64 n), (3, .int .u64 p_x), (21, .slice ao2 z2.length cp2)]) hf (by kernel_rfl)
    refine st tbOk 1 [1, 2, 3, 11] (L' := [(1, .int .u64 p_at), (2, .int .i64 n), (3, .int .u64 p_x), (11, .slice ao2 z2.length cp2)]) hf (by kernel_rfl) ?_
    clear hf; clear a; intro a hf
    refine wpList_nil ?_
    refine sq ?_
    refine sq ?_
    refine reg ?_
    refine st tbOk 2 [1, 3, 11, 22, 23] (L' := [(1, .int .u64 p_at), (3, .int .u64 p_x), (11, .slice ao2 z2.length cp2), (22, .int .i64 n), (23, .int .i64 0)]) hf (by kernel_rfl) ?_
    clear hf; clear a; intro a hf
    refine wpList_nil ?_
    refine ctj (fun (s1 : List Int) (a : Act) (w' : World) => ∃ (ao3 : Option Addr) (cp3 : Nat) (F3 : SH), Sep w F R w' F3 [.row 5 (tI .u8) (.slice ao3 s1.length cp3) s1] ∧ Fr 40 [(11, .slice ao3 s1.length cp3)] a) hS ?_ ?_
    · clear hS hf hs; clear a; intro s1 a w5 hM hS
      obtain ⟨ao3, cp3, F3, hs, hf⟩ := hM
      refine sq ?_
      refine reg ?_
      refine st tbOk 3 [8, 9] (L' := [(8, .slice ao3 s1.length cp3), (9, .int .i64 0)]) hf (by kernel_rfl) ?_
      clear hf; clear a; intro a hf
      refine wpList_nil ?_
      have hr := Option.some.inj hS; subst hr
      refine wp_ret ?_
      exact ret_ok hf (vs := [.slice ao3 s1.length cp3, .int .i64 0]) (by kernel_rfl) ⟨ao3, cp3, _, rfl, hs.sel [0] rfl rfl⟩
    · clear hS; intro KK1 k1 hK1 hS
      refine blk ?_
      refine lp (st := (0, z2)) (fun (s2 : Int × (List Int)) (a : Act) (w' : World) => ∃ (ao4 : Option Addr) (cp4 : Nat) (F4 : SH), Sep w F R w' F4 [.row 5 (tI .u8) (.slice ao4 s2.2.length cp4) s2.2] ∧ Fr 40 [(1, .int .u64 p_at), (3, .int .u64 p_x), (11, .slice ao4 s2.2.length cp4), (22, .int .i64 n), (23, .int .i64 s2.1)] a) ?_ ⟨ao2, cp2, _, hs.sel [0] rfl rfl, hf.keep (ks := [1, 3, 11, 22, 23]) (by kernel_rfl)⟩ hS
      clear hS hf hs; clear a
      intro rec1 KK2 hK2 s2 a w3 hM hS
      obtain ⟨ao4, cp4, F4, hs, hf⟩ := hM
      refine sq ?_
      refine reg ?_
      refine st tbOk 1 [1, 3, 11, 22, 23, 24] (L' := [(1, .int .u64 p_at), (3, .int .u64 p_x), (11, .slice ao4 s2.2.length cp4), (22, .int .i64 n), (23, .int .i64 s2.1), (24, .bool (decide (s2.1 < n)))]) hf (by kernel_rfl) ?_
      clear hf; clear a; intro a hf
      refine wpList_nil ?_
      refine sq ?_
      refine cnd (b := decide (s2.1 < n)) hf (by kernel_rfl) (fun hb2 => ?_) (fun hb2 => ?_)
      · replace hS := of_t hb2 hS
        refine wp_skip ?_
        refine sq ?_
        refine blk ?_
        refine sq ?_
        refine reg ?_
        refine st tbOk 2 [1, 3, 11, 12, 22, 23] (L' := [(1, .int .u64 p_at), (3, .int .u64 p_x), (11, .slice ao4 s2.2.length cp4), (12, .int .i64 s2.1), (22, .int .i64 n), (23, .int .i64 s2.1)]) hf (by kernel_rfl) ?_
        clear hf; clear a; intro a hf
        refine wpList_nil ?_
        refine reg ?_
        refine st tbOk 9 [1, 3, 11, 22, 23, 26, 30, 31, 34] (L' := [(1, .int .u64 p_at), (3, .int .u64 p_x), (11, .slice ao4 s2.2.length cp4), (22, .int .i64 n), (23, .int .i64 s2.1), (26, .slice ao4 s2.2.length cp4), (30, .int .i64 (IntKind.i64.wrap ((IntKind.i64.wrap p_at) + s2.1))), (31, .int .u64 p_x), (34, .int .u64 (IntKind.u64.wrap (IntKind.i64.wrap (8 * s2.1))))]) hf (by kernel_rfl) ?_
        clear hf; clear a; intro a hf
        have hT := of_gd hS; clear hS; obtain ⟨hc1, hS⟩ := hT
        refine bin (run_shr (k := .u64) (k' := .u64) (x := p_x) hc1 _) hf (by kernel_rfl) (by kernel_rfl) (by kernel_rfl) (by kernel_rfl) ?_
        clear hf; clear a; intro a hf
        replace hf := Fr.keep (ks := [1, 3, 11, 22, 23, 26, 30, 35]) (L' := [(1, .int .u64 p_at), (3, .int .u64 p_x), (11, .slice ao4 s2.2.length cp4), (22, .int .i64 n), (23, .int .i64 s2.1), (26, .slice ao4 s2.2.length cp4), (30, .int .i64 (IntKind.i64.wrap ((IntKind.i64.wrap p_at) + s2.1))), (35, .int .u64 (shr .u64 p_x (IntKind.u64.wrap (IntKind.i64.wrap (8 * s2.1)))))]) hf (by kernel_rfl)
        refine st tbOk 1 [1, 3, 11, 22, 23, 26, 30, 36] (L' := [(1, .int .u64 p_at), (3, .int .u64 p_x), (11, .slice ao4 s2.2.length cp4), (22, .int .i64 n), (23, .int .i64 s2.1), (26, .slice ao4 s2.2.length cp4), (30, .int .i64 (IntKind.i64.wrap ((IntKind.i64.wrap p_at) + s2.1))), (36, .int .u8 (IntKind.u8.wrap (shr .u64 p_x (IntKind.u64.wrap (IntKind.i64.wrap (8 * s2.1))))))]) hf (by kernel_rfl) ?_
        clear hf; clear a; intro a hf
        have hT := of_gd hS; clear hS; obtain ⟨hc2, hS⟩ := hT
        refine ixW tbOk u27 i5 (hs.own 0 rfl) (k := .i64) (n := IntKind.i64.wrap ((IntKind.i64.wrap p_at) + s2.1)) hc2 hf (by kernel_rfl) (by kernel_rfl) (by kernel_rfl) (by kernel_rfl) ?_
        clear hf; clear a; intro pb1 po1 a hq1 hf
        replace hf := Fr.keep (ks := [1, 3, 11, 22, 23, 36, 37]) (L' := [(1, .int .u64 p_at), (3, .int .u64 p_x), (11, .slice ao4 s2.2.length cp4), (22, .int .i64 n), (23, .int .i64 s2.1), (36, .int .u8 (IntKind.u8.wrap (shr .u64 p_x (IntKind.u64.wrap (IntKind.i64.wrap (8 * s2.1)))))), (37, .pointer (some ⟨pb1, po1, none⟩))]) hf (by kernel_rfl)
        refine stW tbOk i5 rfl (hs.own 0 rfl) hc2 0 hq1 [.int .u8 (IntKind.u8.wrap (shr .u64 p_x (IntKind.u64.wrap (IntKind.i64.wrap (8 * s2.1)))))] (z := IntKind.u8.wrap (shr .u64 p_x (IntKind.u64.wrap (IntKind.i64.wrap (8 * s2.1))))) (fun _ e => (congrArg (fun c => spl c 0 [.int .u8 (IntKind.u8.wrap (shr .u64 p_x (IntKind.u64.wrap (IntKind.i64.wrap (8 * s2.1)))))]) e).trans rfl) (u := .int .u8 (IntKind.u8.wrap (shr .u64 p_x (IntKind.u64.wrap (IntKind.i64.wrap (8 * s2.1)))))) rfl rfl (by kernel_rfl) (by kernel_rfl) hf (by kernel_rfl) (by kernel_rfl) (by kernel_rfl) ?_
        clear hf; clear a; intro w4 a ho hg hf
        replace hs := hs.updRow 0 rfl ho hg (fun _ h => .inl h)
        clear ho hg
        replace hs : Sep w F R w4 F4 [.row 5 (tI .u8) (.slice ao4 (s2.2.set (Int.toNat (IntKind.i64.wrap ((IntKind.i64.wrap p_at) + s2.1))) (IntKind.u8.wrap (shr .u64 p_x (IntKind.u64.wrap (IntKind.i64.wrap (8 * s2.1)))))).length cp4) (s2.2.set (Int.toNat (IntKind.i64.wrap ((IntKind.i64.wrap p_at) + s2.1))) (IntKind.u8.wrap (shr .u64 p_x (IntKind.u64.wrap (IntKind.i64.wrap (8 * s2.1))))))] := Sep.cast hs (by simp only [List.length_set]; rfl)
        replace hf := Fr.cast (L' := [(1, .int .u64 p_at), (3, .int .u64 p_x), (11, .slice ao4 (s2.2.set (Int.toNat (IntKind.i64.wrap ((IntKind.i64.wrap p_at) + s2.1))) (IntKind.u8.wrap (shr .u64 p_x (IntKind.u64.wrap (IntKind.i64.wrap (8 * s2.1)))))).length cp4), (22, .int .i64 n), (23, .int .i64 s2.1), (36, .int .u8 (IntKind.u8.wrap (shr .u64 p_x (IntKind.u64.wrap (IntKind.i64.wrap (8 * s2.1)))))), (37, .pointer (some ⟨pb1, po1, none⟩))]) hf (by simp only [List.length_set])
        replace hf := Fr.keep (ks := [1, 3, 11, 22, 23]) (L' := [(1, .int .u64 p_at), (3, .int .u64 p_x), (11, .slice ao4 (s2.2.set (Int.toNat (IntKind.i64.wrap ((IntKind.i64.wrap p_at) + s2.1))) (IntKind.u8.wrap (shr .u64 p_x (IntKind.u64.wrap (IntKind.i64.wrap (8 * s2.1)))))).length cp4), (22, .int .i64 n), (23, .int .i64 s2.1)]) hf (by kernel_rfl)
        refine wpList_nil ?_
        refine reg ?_
        refine st tbOk 2 [1, 3, 11, 22, 23] (L' := [(1, .int .u64 p_at), (3, .int .u64 p_x), (11, .slice ao4 (s2.2.set (Int.toNat (IntKind.i64.wrap ((IntKind.i64.wrap p_at) + s2.1))) (IntKind.u8.wrap (shr .u64 p_x (IntKind.u64.wrap (IntKind.i64.wrap (8 * s2.1)))))).length cp4), (22, .int .i64 n), (23, .int .i64 (IntKind.i64.wrap (s2.1 + 1)))]) hf (by kernel_rfl) ?_
        clear hf; clear a; intro a hf
        refine wpList_nil ?_
        exact hK2 (IntKind.i64.wrap (s2.1 + 1), (s2.2.set (Int.toNat (IntKind.i64.wrap ((IntKind.i64.wrap p_at) + s2.1))) (IntKind.u8.wrap (shr .u64 p_x (IntKind.u64.wrap (IntKind.i64.wrap (8 * s2.1))))))) _ _ ⟨ao4, cp4, _, hs.sel [0] rfl rfl, hf.keep (ks := [1, 3, 11, 22, 23]) (by kernel_rfl)⟩ hS
      · replace hS := of_f hb2 hS
        refine wp_exit ?_
        exact hK1 s2.2 _ _ ⟨ao4, cp4, _, hs.sel [0] rfl rfl, hf.keep (ks := [11]) (by kernel_rfl)⟩ hS

set_option maxHeartbeats 4000000 in
theorem segs_Put_ok {w : World} {F : SH} {p_s : Int × Int × Int × Int × Int × Int × Int}  (hs : Sep w F (blks []) w F []) {r : List Int} (hS : segs_Put p_s = some r) :
    Calls Try.prog 12 [.agg #[.int .u32 p_s.1, .int .u32 p_s.2.1, .int .u64 p_s.2.2.1, .int .u64 p_s.2.2.2.1, .int .u64 p_s.2.2.2.2.1, .int .u64 p_s.2.2.2.2.2.1, .int .u64 p_s.2.2.2.2.2.2]].toArray w (Gives (fun u w' => ∃ (ao5 : Option Addr) (cp5 : Nat) (F' : SH), u = .slice ao5 r.length cp5 ∧ Sep w F (blks []) w' F' [.row 5 (tI .u8) (.slice ao5 r.length cp5) r])) := by
  generalize (blks []) = R at hs ⊢
  unfold segs_Put at hS
  refine fn_ok (vs := [.agg #[.int .u32 p_s.1, .int .u32 p_s.2.1, .int .u64 p_s.2.2.1, .int .u64 p_s.2.2.2.1, .int .u64 p_s.2.2.2.2.1, .int .u64 p_s.2.2.2.2.2.1, .int .u64 p_s.2.2.2.2.2.2]]) Try.func12 rfl 45 Try.ntmps12 (Nat.le_of_ble_eq_true rfl) ?_
  intro a hf
  replace hf := Fr.cast (L' := [(0, .agg #[.int .u32 p_s.1, .int .u32 p_s.2.1, .int .u64 p_s.2.2.1, .int .u64 p_s.2.2.2.1, .int .u64 p_s.2.2.2.2.1, .int .u64 p_s.2.2.2.2.2.1, .int .u64 p_s.2.2.2.2.2.2])]) hf (by kernel_rfl)
  refine sq ?_
  refine reg ?_
  refine bx (T := 25) [.int .u32 p_s.1, .int .u32 p_s.2.1, .int .u64 p_s.2.2.1, .int .u64 p_s.2.2.2.1, .int .u64 p_s.2.2.2.2.1, .int .u64 p_s.2.2.2.2.2.1, .int .u64 p_s.2.2.2.2.2.2] (v := .agg #[.int .u32 p_s.1, .int .u32 p_s.2.1, .int .u64 p_s.2.2.1, .int .u64 p_s.2.2.2.1, .int .u64 p_s.2.2.2.2.1, .int .u64 p_s.2.2.2.2.2.1, .int .u64 p_s.2.2.2.2.2.2]) rfl (by kernel_rfl) hf (by kernel_rfl) (by kernel_rfl) (by kernel_rfl) ?_
  clear hf; clear a; intro w1 a hb hx _ hf
  replace hs : Sep w F R w1 F [.box w.heap.size 25 [.int .u32 p_s.1, .int .u32 p_s.2.1, .int .u64 p_s.2.2.1, .int .u64 p_s.2.2.2.1, .int .u64 p_s.2.2.2.2.1, .int .u64 p_s.2.2.2.2.2.1, .int .u64 p_s.2.2.2.2.2.2]] := hs.newBox hb hx
  clear hb hx
  replace hf := Fr.keep (ks := [1]) (L' := [(1, .pointer (some ⟨w.heap.size, 0, none⟩))]) hf (by kernel_rfl)
  refine st tbOk 1 [1] (L' := [(1, .pointer (some ⟨w.heap.size, 0, none⟩))]) hf (by kernel_rfl) ?_
  clear hf; clear a; intro a hf
  refine wpList_nil ?_
  refine sq ?_
  refine reg ?_
  refine st tbOk 1 [1, 3] (L' := [(1, .pointer (some ⟨w.heap.size, 0, none⟩)), (3, .slice none 0 0)]) hf (by kernel_rfl) ?_
  clear hf; clear a; intro a hf
  refine wpList_nil ?_
  refine sq ?_
  refine sq ?_
  refine reg ?_
  refine st tbOk 1 [1, 3, 8] (L' := [(1, .pointer (some ⟨w.heap.size, 0, none⟩)), (3, .slice none 0 0), (8, .pointer (some ⟨w.heap.size, 0, none⟩))]) hf (by kernel_rfl) ?_
  clear hf; clear a; intro a hf
  refine ldC tbOk (T := 22) (hs.cbx 0 rfl) (LeH.refl _) 0 (.int .u32 p_s.1) hf (by kernel_rfl) (by kernel_rfl) (by kernel_rfl) (by kernel_rfl) ?_
  clear hf; clear a; intro a hf
  replace hf := Fr.keep (ks := [1, 3, 9]) (L' := [(1, .pointer (some ⟨w.heap.size, 0, none⟩)), (3, .slice none 0 0), (9, .int .u32 p_s.1)]) hf (by kernel_rfl)
  refine st tbOk 2 [1, 3, 10, 11] (L' := [(1, .pointer (some ⟨w.heap.size, 0, none⟩)), (3, .slice none 0 0), (10, .int .u64 (IntKind.u64.wrap p_s.1)), (11, .pointer (some ⟨w.heap.size, 1, none⟩))]) hf (by kernel_rfl) ?_
  clear hf; clear a; intro a hf
  refine ldC tbOk (T := 22) (hs.cbx 0 rfl) (LeH.refl _) 1 (.int .u32 p_s.2.1) hf (by kernel_rfl) (by kernel_rfl) (by kernel_rfl) (by kernel_rfl) ?_
  clear hf; clear a; intro a hf
  replace hf := Fr.keep (ks := [1, 3, 10, 12]) (L' := [(1, .pointer (some ⟨w.heap.size, 0, none⟩)), (3, .slice none 0 0), (10, .int .u64 (IntKind.u64.wrap p_s.1)), (12, .int .u32 p_s.2.1)]) hf (by kernel_rfl)
  refine st tbOk 4 [1, 3, 15, 16] (L' := [(1, .pointer (some ⟨w.heap.size, 0, none⟩)), (3, .slice none 0 0), (15, .int .u64 (bor .u64 (IntKind.u64.wrap p_s.1) (shl .u64 (IntKind.u64.wrap p_s.2.1) 32))), (16, .pointer (some ⟨w.heap.size, 2, none⟩))]) hf (by kernel_rfl) ?_
  clear hf; clear a; intro a hf
  refine ldC tbOk (T := 23) (hs.cbx 0 rfl) (LeH.refl _) 2 (.int .u64 p_s.2.2.1) hf (by kernel_rfl) (by kernel_rfl) (by kernel_rfl) (by kernel_rfl) ?_
  clear hf; clear a; intro a hf
  replace hf := Fr.keep (ks := [1, 3, 15, 17]) (L' := [(1, .pointer (some ⟨w.heap.size, 0, none⟩)), (3, .slice none 0 0), (15, .int .u64 (bor .u64 (IntKind.u64.wrap p_s.1) (shl .u64 (IntKind.u64.wrap p_s.2.1) 32))), (17, .int .u64 p_s.2.2.1)]) hf (by kernel_rfl)
  refine st tbOk 1 [1, 3, 15, 17, 18] (L' := [(1, .pointer (some ⟨w.heap.size, 0, none⟩)), (3, .slice none 0 0), (15, .int .u64 (bor .u64 (IntKind.u64.wrap p_s.1) (shl .u64 (IntKind.u64.wrap p_s.2.1) 32))), (17, .int .u64 p_s.2.2.1), (18, .pointer (some ⟨w.heap.size, 3, none⟩))]) hf (by kernel_rfl) ?_
  clear hf; clear a; intro a hf
  refine ldC tbOk (T := 23) (hs.cbx 0 rfl) (LeH.refl _) 3 (.int .u64 p_s.2.2.2.1) hf (by kernel_rfl) (by kernel_rfl) (by kernel_rfl) (by kernel_rfl) ?_
  clear hf; clear a; intro a hf
  replace hf := Fr.keep (ks := [1, 3, 15, 17, 19]) (L' := [(1, .pointer (some ⟨w.heap.size, 0, none⟩)), (3, .slice none 0 0), (15, .int .u64 (bor .u64 (IntKind.u64.wrap p_s.1) (shl .u64 (IntKind.u64.wrap p_s.2.1) 32))), (17, .int .u64 p_s.2.2.1), (19, .int .u64 p_s.2.2.2.1)]) hf (by kernel_rfl)
  refine st tbOk 1 [1, 3, 15, 17, 19, 20] (L' := [(1, .pointer (some ⟨w.heap.size, 0, none⟩)), (3, .slice none 0 0), (15, .int .u64 (bor .u64 (IntKind.u64.wrap p_s.1) (shl .u64 (IntKind.u64.wrap p_s.2.1) 32))), (17, .int .u64 p_s.2.2.1), (19, .int .u64 p_s.2.2.2.1), (20, .pointer (some ⟨w.heap.size, 3, none⟩))]) hf (by kernel_rfl) ?_
  clear hf; clear a; intro a hf
  refine ldC tbOk (T := 23) (hs.cbx 0 rfl) (LeH.refl _) 3 (.int .u64 p_s.2.2.2.1) hf (by kernel_rfl) (by kernel_rfl) (by kernel_rfl) (by kernel_rfl) ?_
  clear hf; clear a; intro a hf
  replace hf := Fr.keep (ks := [1, 3, 15, 17, 19, 21]) (L' := [(1, .pointer (some ⟨w.heap.size, 0, none⟩)), (3, .slice none 0 0), (15, .int .u64 (bor .u64 (IntKind.u64.wrap p_s.1) (shl .u64 (IntKind.u64.wrap p_s.2.1) 32))), (17, .int .u64 p_s.2.2.1), (19, .int .u64 p_s.2.2.2.1), (21, .int .u64 p_s.2.2.2.1)]) hf (by kernel_rfl)
  refine st tbOk 1 [1, 3, 15, 17, 19, 21, 22] (L' := [(1, .pointer (some ⟨w.heap.size, 0, none⟩)), (3, .slice none 0 0), (15, .int .u64 (bor .u64 (IntKind.u64.wrap p_s.1) (shl .u64 (IntKind.u64.wrap p_s.2.1) 32))), (17, .int .u64 p_s.2.2.1), (19, .int .u64 p_s.2.2.2.1), (21, .int .u64 p_s.2.2.2.1), (22, .pointer (some ⟨w.heap.size, 4, none⟩))]) hf (by kernel_rfl) ?_
  clear hf; clear a; intro a hf
  refine ldC tbOk (T := 23) (hs.cbx 0 rfl) (LeH.refl _) 4 (.int .u64 p_s.2.2.2.2.1) hf (by kernel_rfl) (by kernel_rfl) (by kernel_rfl) (by kernel_rfl) ?_
  clear hf; clear a; intro a hf
  replace hf := Fr.keep (ks := [1, 3, 15, 17, 19, 21, 23]) (L' := [(1, .pointer (some ⟨w.heap.size, 0, none⟩)), (3, .slice none 0 0), (15, .int .u64 (bor .u64 (IntKind.u64.wrap p_s.1) (shl .u64 (IntKind.u64.wrap p_s.2.1) 32))), (17, .int .u64 p_s.2.2.1), (19, .int .u64 p_s.2.2.2.1), (21, .int .u64 p_s.2.2.2.1), (23, .int .u64 p_s.2.2.2.2.1)]) hf (by kernel_rfl)
  refine st tbOk 1 [1, 3, 15, 17, 19, 21, 23, 24] (L' := [(1, .pointer (some ⟨w.heap.size, 0, none⟩)), (3, .slice none 0 0), (15, .int .u64 (bor .u64 (IntKind.u64.wrap p_s.1) (shl .u64 (IntKind.u64.wrap p_s.2.1) 32))), (17, .int .u64 p_s.2.2.1), (19, .int .u64 p_s.2.2.2.1), (21, .int .u64 p_s.2.2.2.1), (23, .int .u64 p_s.2.2.2.2.1), (24, .pointer (some ⟨w.heap.size, 5, none⟩))]) hf (by kernel_rfl) ?_
  clear hf; clear a; intro a hf
  refine ldC tbOk (T := 23) (hs.cbx 0 rfl) (LeH.refl _) 5 (.int .u64 p_s.2.2.2.2.2.1) hf (by kernel_rfl) (by kernel_rfl) (by kernel_rfl) (by kernel_rfl) ?_
  clear hf; clear a; intro a hf
  replace hf := Fr.keep (ks := [1, 3, 15, 17, 19, 21, 23, 25]) (L' := [(1, .pointer (some ⟨w.heap.size, 0, none⟩)), (3, .slice none 0 0), (15, .int .u64 (bor .u64 (IntKind.u64.wrap p_s.1) (shl .u64 (IntKind.u64.wrap p_s.2.1) 32))), (17, .int .u64 p_s.2.2.1), (19, .int .u64 p_s.2.2.2.1), (21, .int .u64 p_s.2.2.2.1), (23, .int .u64 p_s.2.2.2.2.1), (25, .int .u64 p_s.2.2.2.2.2.1)]) hf (by kernel_rfl)
  refine st tbOk 1 [3, 15, 17, 19, 21, 23, 25, 26] (L' := [(3, .slice none 0 0), (15, .int .u64 (bor .u64 (IntKind.u64.wrap p_s.1) (shl .u64 (IntKind.u64.wrap p_s.2.1) 32))), (17, .int .u64 p_s.2.2.1), (19, .int .u64 p_s.2.2.2.1), (21, .int .u64 p_s.2.2.2.1), (23, .int .u64 p_s.2.2.2.2.1), (25, .int .u64 p_s.2.2.2.2.2.1), (26, .pointer (some ⟨w.heap.size, 6, none⟩))]) hf (by kernel_rfl) ?_
  clear hf; clear a; intro a hf
  refine ldC tbOk (T := 23) (hs.cbx 0 rfl) (LeH.refl _) 6 (.int .u64 p_s.2.2.2.2.2.2) hf (by kernel_rfl) (by kernel_rfl) (by kernel_rfl) (by kernel_rfl) ?_
  clear hf; clear a; intro a hf
  replace hs : Sep w F R w1 F [] := hs.sel [] rfl rfl
  replace hf := Fr.keep (ks := [3, 15, 17, 19, 21, 23, 25, 27]) (L' := [(3, .slice none 0 0), (15, .int .u64 (bor .u64 (IntKind.u64.wrap p_s.1) (shl .u64 (IntKind.u64.wrap p_s.2.1) 32))), (17, .int .u64 p_s.2.2.1), (19, .int .u64 p_s.2.2.2.1), (21, .int .u64 p_s.2.2.2.1), (23, .int .u64 p_s.2.2.2.2.1), (25, .int .u64 p_s.2.2.2.2.2.1), (27, .int .u64 p_s.2.2.2.2.2.2)]) hf (by kernel_rfl)
  refine bsR tbOk u53 i23 rfl (t := (tI .u64)) (vs := [(0, .int .u64 (bor .u64 (IntKind.u64.wrap p_s.1) (shl .u64 (IntKind.u64.wrap p_s.2.1) 32))), (1, .int .u64 p_s.2.2.1), (2, .int .u64 p_s.2.2.2.1), (3, .int .u64 p_s.2.2.2.1), (4, .int .u64 p_s.2.2.2.2.1), (5, .int .u64 p_s.2.2.2.2.2.1), (6, .int .u64 p_s.2.2.2.2.2.2)]) (cells := #[.int .u64 (bor .u64 (IntKind.u64.wrap p_s.1) (shl .u64 (IntKind.u64.wrap p_s.2.1) 32)), .int .u64 p_s.2.2.1, .int .u64 p_s.2.2.2.1, .int .u64 p_s.2.2.2.1, .int .u64 p_s.2.2.2.2.1, .int .u64 p_s.2.2.2.2.2.1, .int .u64 p_s.2.2.2.2.2.2]) ([bor .u64 (IntKind.u64.wrap p_s.1) (shl .u64 (IntKind.u64.wrap p_s.2.1) 32), p_s.2.2.1, p_s.2.2.2.1, p_s.2.2.2.1, p_s.2.2.2.2.1, p_s.2.2.2.2.2.1, p_s.2.2.2.2.2.2] : List Int) hs.le hf (by kernel_rfl) (by kernel_rfl) (by kernel_rfl) rfl (by kernel_rfl) (reps_flat _) rfl ?_
  clear hf; clear a; intro w2 a ho hx hf
  replace hs : Sep w F R w2 F [.row 23 (tI .u64) (.slice (some ⟨w1.heap.size, 0, none⟩) ([bor .u64 (IntKind.u64.wrap p_s.1) (shl .u64 (IntKind.u64.wrap p_s.2.1) 32), p_s.2.2.1, p_s.2.2.2.1, p_s.2.2.2.1, p_s.2.2.2.2.1, p_s.2.2.2.2.2.1, p_s.2.2.2.2.2.2] : List Int).length ([bor .u64 (IntKind.u64.wrap p_s.1) (shl .u64 (IntKind.u64.wrap p_s.2.1) 32), p_s.2.2.1, p_s.2.2.2.1, p_s.2.2.2.1, p_s.2.2.2.2.1, p_s.2.2.2.2.2.1, p_s.2.2.2.2.2.2] : List Int).length) ([bor .u64 (IntKind.u64.wrap p_s.1) (shl .u64 (IntKind.u64.wrap p_s.2.1) 32), p_s.2.2.1, p_s.2.2.2.1, p_s.2.2.2.1, p_s.2.2.2.2.1, p_s.2.2.2.2.2.1, p_s.2.2.2.2.2.2] : List Int)] := hs.newRow ho hx
  clear ho hx
  replace hf := Fr.keep (ks := [3, 28]) (L' := [(3, .slice none 0 0), (28, .slice (some ⟨w1.heap.size, 0, none⟩) ([bor .u64 (IntKind.u64.wrap p_s.1) (shl .u64 (IntKind.u64.wrap p_s.2.1) 32), p_s.2.2.1, p_s.2.2.2.1, p_s.2.2.2.1, p_s.2.2.2.2.1, p_s.2.2.2.2.2.1, p_s.2.2.2.2.2.2] : List Int).length ([bor .u64 (IntKind.u64.wrap p_s.1) (shl .u64 (IntKind.u64.wrap p_s.2.1) 32), p_s.2.2.1, p_s.2.2.2.1, p_s.2.2.2.1, p_s.2.2.2.2.1, p_s.2.2.2.2.2.1, p_s.2.2.2.2.2.2] : List Int).length)]) hf (by kernel_rfl)
  refine st tbOk 2 [3, 28, 29, 30] (L' := [(3, .slice none 0 0), (28, .slice (some ⟨w1.heap.size, 0, none⟩) ([bor .u64 (IntKind.u64.wrap p_s.1) (shl .u64 (IntKind.u64.wrap p_s.2.1) 32), p_s.2.2.1, p_s.2.2.2.1, p_s.2.2.2.1, p_s.2.2.2.2.1, p_s.2.2.2.2.2.1, p_s.2.2.2.2.2.2] : List Int).length ([bor .u64 (IntKind.u64.wrap p_s.1) (shl .u64 (IntKind.u64.wrap p_s.2.1) 32), p_s.2.2.1, p_s.2.2.2.1, p_s.2.2.2.1, p_s.2.2.2.2.1, p_s.2.2.2.2.2.1, p_s.2.2.2.2.2.2] : List Int).length), (29, .int .i64 ((([bor .u64 (IntKind.u64.wrap p_s.1) (shl .u64 (IntKind.u64.wrap p_s.2.1) 32), p_s.2.2.1, p_s.2.2.2.1, p_s.2.2.2.1, p_s.2.2.2.2.1, p_s.2.2.2.2.2.1, p_s.2.2.2.2.2.2] : List Int).length : Nat) : Int)), (30, .int .i64 0)]) hf (by kernel_rfl) ?_
  clear hf; clear a; intro a hf
  refine wpList_nil ?_
  refine ctj (fun (s1 : List Int) (a : Act) (w' : World) => ∃ (ao1 : Option Addr) (cp1 : Nat) (F1 : SH), Sep w F R w' F1 [.row 5 (tI .u8) (.slice ao1 s1.length cp1) s1] ∧ Fr 45 [(3, .slice ao1 s1.length cp1)] a) hS ?_ ?_
  · clear hS hf hs; clear a; intro s1 a w7 hM hS
    obtain ⟨ao1, cp1, F1, hs, hf⟩ := hM
    refine sq ?_
    refine reg ?_
    refine st tbOk 2 [2] (L' := [(2, .slice ao1 s1.length cp1)]) hf (by kernel_rfl) ?_
    clear hf; clear a; intro a hf
    refine wpList_nil ?_
    have hr := Option.some.inj hS; subst hr
    refine wp_ret ?_
    exact ret_ok hf (vs := [.slice ao1 s1.length cp1]) (by kernel_rfl) ⟨ao1, cp1, _, rfl, hs.sel [0] rfl rfl⟩
  · clear hS; intro KK1 k1 hK1 hS
    refine blk ?_
    replace hs : Sep w F R w2 F [.row 5 (tI .u8) (.slice none 0 0) ([] : List Int), .row 23 (tI .u64) (.slice (some ⟨w1.heap.size, 0, none⟩) ([bor .u64 (IntKind.u64.wrap p_s.1) (shl .u64 (IntKind.u64.wrap p_s.2.1) 32), p_s.2.2.1, p_s.2.2.2.1, p_s.2.2.2.1, p_s.2.2.2.2.1, p_s.2.2.2.2.2.1, p_s.2.2.2.2.2.2] : List Int).length ([bor .u64 (IntKind.u64.wrap p_s.1) (shl .u64 (IntKind.u64.wrap p_s.2.1) 32), p_s.2.2.1, p_s.2.2.2.1, p_s.2.2.2.1, p_s.2.2.2.2.1, p_s.2.2.2.2.2.1, p_s.2.2.2.2.2.2] : List Int).length) ([bor .u64 (IntKind.u64.wrap p_s.1) (shl .u64 (IntKind.u64.wrap p_s.2.1) 32), p_s.2.2.1, p_s.2.2.2.1, p_s.2.2.2.1, p_s.2.2.2.2.1, p_s.2.2.2.2.2.1, p_s.2.2.2.2.2.2] : List Int)] := hs.addNil 5 (tI .u8)
    refine lp (st := ([], 0)) (fun (s2 : (List Int) × Int) (a : Act) (w' : World) => ∃ (ao2 : Option Addr) (cp2 : Nat) (F2 : SH), Sep w F R w' F2 [.row 5 (tI .u8) (.slice ao2 s2.1.length cp2) s2.1, .row 23 (tI .u64) (.slice (some ⟨w1.heap.size, 0, none⟩) ([bor .u64 (IntKind.u64.wrap p_s.1) (shl .u64 (IntKind.u64.wrap p_s.2.1) 32), p_s.2.2.1, p_s.2.2.2.1, p_s.2.2.2.1, p_s.2.2.2.2.1, p_s.2.2.2.2.2.1, p_s.2.2.2.2.2.2] : List Int).length ([bor .u64 (IntKind.u64.wrap p_s.1) (shl .u64 (IntKind.u64.wrap p_s.2.1) 32), p_s.2.2.1, p_s.2.2.2.1, p_s.2.2.2.1, p_s.2.2.2.2.1, p_s.2.2.2.2.2.1, p_s.2.2.2.2.2.2] : List Int).length) ([bor .u64 (IntKind.u64.wrap p_s.1) (shl .u64 (IntKind.u64.wrap p_s.2.1) 32), p_s.2.2.1, p_s.2.2.2.1, p_s.2.2.2.1, p_s.2.2.2.2.1, p_s.2.2.2.2.2.1, p_s.2.2.2.2.2.2] : List Int)] ∧ Fr 45 [(3, .slice ao2 s2.1.length cp2), (28, .slice (some ⟨w1.heap.size, 0, none⟩) ([bor .u64 (IntKind.u64.wrap p_s.1) (shl .u64 (IntKind.u64.wrap p_s.2.1) 32), p_s.2.2.1, p_s.2.2.2.1, p_s.2.2.2.1, p_s.2.2.2.2.1, p_s.2.2.2.2.2.1, p_s.2.2.2.2.2.2] : List Int).length ([bor .u64 (IntKind.u64.wrap p_s.1) (shl .u64 (IntKind.u64.wrap p_s.2.1) 32), p_s.2.2.1, p_s.2.2.2.1, p_s.2.2.2.1, p_s.2.2.2.2.1, p_s.2.2.2.2.2.1, p_s.2.2.2.2.2.2] : List Int).length), (29, .int .i64 ((([bor .u64 (IntKind.u64.wrap p_s.1) (shl .u64 (IntKind.u64.wrap p_s.2.1) 32), p_s.2.2.1, p_s.2.2.2.1, p_s.2.2.2.1, p_s.2.2.2.2.1, p_s.2.2.2.2.2.1, p_s.2.2.2.2.2.2] : List Int).length : Nat) : Int)), (30, .int .i64 s2.2)] a) ?_ ⟨none, 0, _, hs.sel [0, 1] rfl rfl, hf.keep (ks := [3, 28, 29, 30]) (by kernel_rfl)⟩ hS
    clear hS hf hs; clear a
    intro rec1 KK2 hK2 s2 a w3 hM hS
    obtain ⟨ao2, cp2, F2, hs, hf⟩ := hM
    refine sq ?_
    refine reg ?_
    refine st tbOk 1 [3, 28, 29, 30, 31] (L' := [(3, .slice ao2 s2.1.length cp2), (28, .slice (some ⟨w1.heap.size, 0, none⟩) ([bor .u64 (IntKind.u64.wrap p_s.1) (shl .u64 (IntKind.u64.wrap p_s.2.1) 32), p_s.2.2.1, p_s.2.2.2.1, p_s.2.2.2.1, p_s.2.2.2.2.1, p_s.2.2.2.2.2.1, p_s.2.2.2.2.2.2] : List Int).length ([bor .u64 (IntKind.u64.wrap p_s.1) (shl .u64 (IntKind.u64.wrap p_s.2.1) 32), p_s.2.2.1, p_s.2.2.2.1, p_s.2.2.2.1, p_s.2.2.2.2.1, p_s.2.2.2.2.2.1, p_s.2.2.2.2.2.2] : List Int).length), (29, .int .i64 ((([bor .u64 (IntKind.u64.wrap p_s.1) (shl .u64 (IntKind.u64.wrap p_s.2.1) 32), p_s.2.2.1, p_s.2.2.2.1, p_s.2.2.2.1, p_s.2.2.2.2.1, p_s.2.2.2.2.2.1, p_s.2.2.2.2.2.2] : List Int).length : Nat) : Int)), (30, .int .i64 s2.2), (31, .bool (decide (s2.2 < ((([bor .u64 (IntKind.u64.wrap p_s.1) (shl .u64 (IntKind.u64.wrap p_s.2.1) 32), p_s.2.2.1, p_s.2.2.2.1, p_s.2.2.2.1, p_s.2.2.2.2.1, p_s.2.2.2.2.2.1, p_s.2.2.2.2.2.2] : List Int).length : Nat) : Int))))]) hf (by kernel_rfl) ?_
    clear hf; clear a; intro a hf
    refine wpList_nil ?_
    refine sq ?_
    refine cnd (b := decide (s2.2 < ((([bor .u64 (IntKind.u64.wrap p_s.1) (shl .u64 (IntKind.u64.wrap p_s.2.1) 32), p_s.2.2.1, p_s.2.2.2.1, p_s.2.2.2.1, p_s.2.2.2.2.1, p_s.2.2.2.2.2.1, p_s.2.2.2.2.2.2] : List Int).length : Nat) : Int))) hf (by kernel_rfl) (fun hb1 => ?_) (fun hb1 => ?_)
    · replace hS := of_t hb1 hS
      refine wp_skip ?_
      refine sq ?_
      refine blk ?_
      refine sq ?_
      refine reg ?_
      have hT := of_gd hS; clear hS; obtain ⟨hc1, hS⟩ := hT
      refine ixR tbOk u53 i23 rfl rfl (hs.raW 1 rfl) (k := .i64) (n := s2.2) hc1 hf (by kernel_rfl) (by kernel_rfl) (by kernel_rfl) (by kernel_rfl) ?_
      clear hf; clear a; intro pb1 po1 c1 a hp1 hr1 hf
      obtain rfl : c1 = [.int .u64 (gt ([bor .u64 (IntKind.u64.wrap p_s.1) (shl .u64 (IntKind.u64.wrap p_s.2.1) 32), p_s.2.2.1, p_s.2.2.2.1, p_s.2.2.2.1, p_s.2.2.2.2.1, p_s.2.2.2.2.2.1, p_s.2.2.2.2.2.2] : List Int) s2.2)] := hr1
      replace hf := Fr.keep (ks := [3, 28, 29, 30, 32]) (L' := [(3, .slice ao2 s2.1.length cp2), (28, .slice (some ⟨w1.heap.size, 0, none⟩) ([bor .u64 (IntKind.u64.wrap p_s.1) (shl .u64 (IntKind.u64.wrap p_s.2.1) 32), p_s.2.2.1, p_s.2.2.2.1, p_s.2.2.2.1, p_s.2.2.2.2.1, p_s.2.2.2.2.2.1, p_s.2.2.2.2.2.2] : List Int).length ([bor .u64 (IntKind.u64.wrap p_s.1) (shl .u64 (IntKind.u64.wrap p_s.2.1) 32), p_s.2.2.1, p_s.2.2.2.1, p_s.2.2.2.1, p_s.2.2.2.2.1, p_s.2.2.2.2.2.1, p_s.2.2.2.2.2.2] : List Int).length), (29, .int .i64 ((([bor .u64 (IntKind.u64.wrap p_s.1) (shl .u64 (IntKind.u64.wrap p_s.2.1) 32), p_s.2.2.1, p_s.2.2.2.1, p_s.2.2.2.1, p_s.2.2.2.2.1, p_s.2.2.2.2.2.1, p_s.2.2.2.2.2.2] : List Int).length : Nat) : Int)), (30, .int .i64 s2.2), (32, .pointer (some ⟨pb1, po1, none⟩))]) hf (by kernel_rfl)
      refine ldC tbOk (T := 23) hp1 (LeH.refl _) 0 (.int .u64 (gt ([bor .u64 (IntKind.u64.wrap p_s.1) (shl .u64 (IntKind.u64.wrap p_s.2.1) 32), p_s.2.2.1, p_s.2.2.2.1, p_s.2.2.2.1, p_s.2.2.2.2.1, p_s.2.2.2.2.2.1, p_s.2.2.2.2.2.2] : List Int) s2.2)) hf (by kernel_rfl) (by kernel_rfl) (by kernel_rfl) (by kernel_rfl) ?_
      clear hf; clear a; intro a hf
      replace hf := Fr.keep (ks := [3, 28, 29, 30, 33]) (L' := [(3, .slice ao2 s2.1.length cp2), (28, .slice (some ⟨w1.heap.size, 0, none⟩) ([bor .u64 (IntKind.u64.wrap p_s.1) (shl .u64 (IntKind.u64.wrap p_s.2.1) 32), p_s.2.2.1, p_s.2.2.2.1, p_s.2.2.2.1, p_s.2.2.2.2.1, p_s.2.2.2.2.2.1, p_s.2.2.2.2.2.2] : List Int).length ([bor .u64 (IntKind.u64.wrap p_s.1) (shl .u64 (IntKind.u64.wrap p_s.2.1) 32), p_s.2.2.1, p_s.2.2.2.1, p_s.2.2.2.1, p_s.2.2.2.2.1, p_s.2.2.2.2.2.1, p_s.2.2.2.2.2.2] : List Int).length), (29, .int .i64 ((([bor .u64 (IntKind.u64.wrap p_s.1) (shl .u64 (IntKind.u64.wrap p_s.2.1) 32), p_s.2.2.1, p_s.2.2.2.1, p_s.2.2.2.1, p_s.2.2.2.2.1, p_s.2.2.2.2.2.1, p_s.2.2.2.2.2.2] : List Int).length : Nat) : Int)), (30, .int .i64 s2.2), (33, .int .u64 (gt ([bor .u64 (IntKind.u64.wrap p_s.1) (shl .u64 (IntKind.u64.wrap p_s.2.1) 32), p_s.2.2.1, p_s.2.2.2.1, p_s.2.2.2.1, p_s.2.2.2.2.1, p_s.2.2.2.2.2.1, p_s.2.2.2.2.2.2] : List Int) s2.2))]) hf (by kernel_rfl)
      have hT := of_let hS; clear hS; obtain ⟨x_1, hl1, hS⟩ := hT
      refine st tbOk 1 [3, 5, 28, 29, 30] (L' := [(3, .slice ao2 s2.1.length cp2), (5, .int .u64 x_1), (28, .slice (some ⟨w1.heap.size, 0, none⟩) ([bor .u64 (IntKind.u64.wrap p_s.1) (shl .u64 (IntKind.u64.wrap p_s.2.1) 32), p_s.2.2.1, p_s.2.2.2.1, p_s.2.2.2.1, p_s.2.2.2.2.1, p_s.2.2.2.2.2.1, p_s.2.2.2.2.2.2] : List Int).length ([bor .u64 (IntKind.u64.wrap p_s.1) (shl .u64 (IntKind.u64.wrap p_s.2.1) 32), p_s.2.2.1, p_s.2.2.2.1, p_s.2.2.2.1, p_s.2.2.2.2.1, p_s.2.2.2.2.2.1, p_s.2.2.2.2.2.2] : List Int).length), (29, .int .i64 ((([bor .u64 (IntKind.u64.wrap p_s.1) (shl .u64 (IntKind.u64.wrap p_s.2.1) 32), p_s.2.2.1, p_s.2.2.2.1, p_s.2.2.2.1, p_s.2.2.2.2.1, p_s.2.2.2.2.2.1, p_s.2.2.2.2.2.2] : List Int).length : Nat) : Int)), (30, .int .i64 s2.2)]) hf (by subst hl1; kernel_rfl) ?_
      clear hf; clear a; intro a hf
      refine wpList_nil ?_
      refine sq ?_
      refine reg ?_
      have hT := of_gd hS; clear hS; obtain ⟨hc2, hS⟩ := hT
      refine mkR tbOk u27 i5 rfl rfl (t := (tI .u8)) rfl rfl (0 : Int) hs.le rfl (k := .i64) (k' := .i64) (n := 8) hc2 hf (by kernel_rfl) (by kernel_rfl) (by kernel_rfl) (by kernel_rfl) ?_
      clear hf; clear a; intro w4 a ho hx hf
      replace hs : Sep w F R w4 F2 [.row 5 (tI .u8) (.slice (some ⟨w3.heap.size, 0, none⟩) (List.replicate (Int.toNat 8) (0 : Int)).length (Int.toNat 8)) (List.replicate (Int.toNat 8) (0 : Int)), .row 5 (tI .u8) (.slice ao2 s2.1.length cp2) s2.1, .row 23 (tI .u64) (.slice (some ⟨w1.heap.size, 0, none⟩) ([bor .u64 (IntKind.u64.wrap p_s.1) (shl .u64 (IntKind.u64.wrap p_s.2.1) 32), p_s.2.2.1, p_s.2.2.2.1, p_s.2.2.2.1, p_s.2.2.2.2.1, p_s.2.2.2.2.2.1, p_s.2.2.2.2.2.2] : List Int).length ([bor .u64 (IntKind.u64.wrap p_s.1) (shl .u64 (IntKind.u64.wrap p_s.2.1) 32), p_s.2.2.1, p_s.2.2.2.1, p_s.2.2.2.1, p_s.2.2.2.2.1, p_s.2.2.2.2.2.1, p_s.2.2.2.2.2.2] : List Int).length) ([bor .u64 (IntKind.u64.wrap p_s.1) (shl .u64 (IntKind.u64.wrap p_s.2.1) 32), p_s.2.2.1, p_s.2.2.2.1, p_s.2.2.2.1, p_s.2.2.2.2.1, p_s.2.2.2.2.2.1, p_s.2.2.2.2.2.2] : List Int)] := hs.newRow ho hx
      clear ho hx
      replace hf := Fr.keep (ks := [3, 5, 28, 29, 30, 35]) (L' := [(3, .slice ao2 s2.1.length cp2), (5, .int .u64 x_1), (28, .slice (some ⟨w1.heap.size, 0, none⟩) ([bor .u64 (IntKind.u64.wrap p_s.1) (shl .u64 (IntKind.u64.wrap p_s.2.1) 32), p_s.2.2.1, p_s.2.2.2.1, p_s.2.2.2.1, p_s.2.2.2.2.1, p_s.2.2.2.2.2.1, p_s.2.2.2.2.2.2] : List Int).length ([bor .u64 (IntKind.u64.wrap p_s.1) (shl .u64 (IntKind.u64.wrap p_s.2.1) 32), p_s.2.2.1, p_s.2.2.2.1, p_s.2.2.2.1, p_s.2.2.2.2.1, p_s.2.2.2.2.2.1, p_s.2.2.2.2.2.2] : List Int).length), (29, .int .i64 ((([bor .u64 (IntKind.u64.wrap p_s.1) (shl .u64 (IntKind.u64.wrap p_s.2.1) 32), p_s.2.2.1, p_s.2.2.2.1, p_s.2.2.2.1, p_s.2.2.2.2.1, p_s.2.2.2.2.2.1, p_s.2.2.2.2.2.2] : List Int).length : Nat) : Int)), (30, .int .i64 s2.2), (35, .slice (some ⟨w3.heap.size, 0, none⟩) (List.replicate (Int.toNat 8) (0 : Int)).length (Int.toNat 8))]) hf (by kernel_rfl)
      refine st tbOk 1 [3, 28, 29, 30, 35, 36] (L' := [(3, .slice ao2 s2.1.length cp2), (28, .slice (some ⟨w1.heap.size, 0, none⟩) ([bor .u64 (IntKind.u64.wrap p_s.1) (shl .u64 (IntKind.u64.wrap p_s.2.1) 32), p_s.2.2.1, p_s.2.2.2.1, p_s.2.2.2.1, p_s.2.2.2.2.1, p_s.2.2.2.2.2.1, p_s.2.2.2.2.2.2] : List Int).length ([bor .u64 (IntKind.u64.wrap p_s.1) (shl .u64 (IntKind.u64.wrap p_s.2.1) 32), p_s.2.2.1, p_s.2.2.2.1, p_s.2.2.2.1, p_s.2.2.2.2.1, p_s.2.2.2.2.2.1, p_s.2.2.2.2.2.2] : List Int).length), (29, .int .i64 ((([bor .u64 (IntKind.u64.wrap p_s.1) (shl .u64 (IntKind.u64.wrap p_s.2.1) 32), p_s.2.2.1, p_s.2.2.2.1, p_s.2.2.2.1, p_s.2.2.2.2.1, p_s.2.2.2.2.2.1, p_s.2.2.2.2.2.2] : List Int).length : Nat) : Int)), (30, .int .i64 s2.2), (35, .slice (some ⟨w3.heap.size, 0, none⟩) (List.replicate (Int.toNat 8) (0 : Int)).length (Int.toNat 8)), (36, .int .u64 x_1)]) hf (by kernel_rfl) ?_
      clear hf; clear a; intro a hf
      have hT := of_bd hS; clear hS; obtain ⟨z1, hz1, hS⟩ := hT
      refine clV ent26 (vs := [.slice (some ⟨w3.heap.size, 0, none⟩) (List.replicate (Int.toNat 8) (0 : Int)).length (Int.toNat 8), .int .u64 0, .int .i64 8, .int .u64 x_1]) (caps := []) hf (by kernel_rfl) (by kernel_rfl) (by kernel_rfl) (by kernel_rfl) (octets_Set_ok (b := (List.replicate (Int.toNat 8) (0 : Int))) (p_at := 0) (n := 8) (p_x := x_1) (hs.lend [0] [] rfl rfl rfl rfl rfl) hz1) ?_
      clear hf; clear a; intro v w5 a hT hf; obtain ⟨ao3, cp3, F3, rfl, hr⟩ := hT
      replace hs : Sep w F R w5 F2 [.row 5 (tI .u8) (.slice ao3 z1.1.length cp3) z1.1, .row 5 (tI .u8) (.slice (some ⟨w3.heap.size, 0, none⟩) (List.replicate (Int.toNat 8) (0 : Int)).length (Int.toNat 8)) (List.replicate (Int.toNat 8) (0 : Int)), .row 5 (tI .u8) (.slice ao2 s2.1.length cp2) s2.1, .row 23 (tI .u64) (.slice (some ⟨w1.heap.size, 0, none⟩) ([bor .u64 (IntKind.u64.wrap p_s.1) (shl .u64 (IntKind.u64.wrap p_s.2.1) 32), p_s.2.2.1, p_s.2.2.2.1, p_s.2.2.2.1, p_s.2.2.2.2.1, p_s.2.2.2.2.2.1, p_s.2.2.2.2.2.2] : List Int).length ([bor .u64 (IntKind.u64.wrap p_s.1) (shl .u64 (IntKind.u64.wrap p_s.2.1) 32), p_s.2.2.1, p_s.2.2.2.1, p_s.2.2.2.1, p_s.2.2.2.2.1, p_s.2.2.2.2.2.1, p_s.2.2.2.2.2.2] : List Int).length) ([bor .u64 (IntKind.u64.wrap p_s.1) (shl .u64 (IntKind.u64.wrap p_s.2.1) 32), p_s.2.2.1, p_s.2.2.2.1, p_s.2.2.2.1, p_s.2.2.2.2.1, p_s.2.2.2.2.2.1, p_s.2.2.2.2.2.2] : List Int)] := hs.backL [0] [] [0, 1, 2] rfl rfl rfl rfl rfl rfl hr ⟨(flat_I .u8), trivial⟩
      clear hr
      replace hs : Sep w F R w5 F2 [.row 5 (tI .u8) (.slice ao3 z1.1.length cp3) z1.1, .row 5 (tI .u8) (.slice ao2 s2.1.length cp2) s2.1, .row 23 (tI .u64) (.slice (some ⟨w1.heap.size, 0, none⟩) ([bor .u64 (IntKind.u64.wrap p_s.1) (shl .u64 (IntKind.u64.wrap p_s.2.1) 32), p_s.2.2.1, p_s.2.2.2.1, p_s.2.2.2.1, p_s.2.2.2.2.1, p_s.2.2.2.2.2.1, p_s.2.2.2.2.2.2] : List Int).length ([bor .u64 (IntKind.u64.wrap p_s.1) (shl .u64 (IntKind.u64.wrap p_s.2.1) 32), p_s.2.2.1, p_s.2.2.2.1, p_s.2.2.2.1, p_s.2.2.2.2.1, p_s.2.2.2.2.2.1, p_s.2.2.2.2.2.2] : List Int).length) ([bor .u64 (IntKind.u64.wrap p_s.1) (shl .u64 (IntKind.u64.wrap p_s.2.1) 32), p_s.2.2.1, p_s.2.2.2.1, p_s.2.2.2.1, p_s.2.2.2.2.1, p_s.2.2.2.2.2.1, p_s.2.2.2.2.2.2] : List Int)] := hs.sel [0, 2, 3] rfl rfl
      replace hf := Fr.keep (ks := [3, 28, 29, 30, 37]) (L' := [(3, .slice ao2 s2.1.length cp2), (28, .slice (some ⟨w1.heap.size, 0, none⟩) ([bor .u64 (IntKind.u64.wrap p_s.1) (shl .u64 (IntKind.u64.wrap p_s.2.1) 32), p_s.2.2.1, p_s.2.2.2.1, p_s.2.2.2.1, p_s.2.2.2.2.1, p_s.2.2.2.2.2.1, p_s.2.2.2.2.2.2] : List Int).length ([bor .u64 (IntKind.u64.wrap p_s.1) (shl .u64 (IntKind.u64.wrap p_s.2.1) 32), p_s.2.2.1, p_s.2.2.2.1, p_s.2.2.2.1, p_s.2.2.2.2.1, p_s.2.2.2.2.2.1, p_s.2.2.2.2.2.2] : List Int).length), (29, .int .i64 ((([bor .u64 (IntKind.u64.wrap p_s.1) (shl .u64 (IntKind.u64.wrap p_s.2.1) 32), p_s.2.2.1, p_s.2.2.2.1, p_s.2.2.2.1, p_s.2.2.2.2.1, p_s.2.2.2.2.2.1, p_s.2.2.2.2.2.2] : List Int).length : Nat) : Int)), (30, .int .i64 s2.2), (37, .tuple #[.slice ao3 z1.1.length cp3, .int .i64 z1.2])]) hf (by kernel_rfl)
      refine st tbOk 5 [3, 6, 28, 29, 30] (L' := [(3, .slice ao2 s2.1.length cp2), (6, .slice ao3 z1.1.length cp3), (28, .slice (some ⟨w1.heap.size, 0, none⟩) ([bor .u64 (IntKind.u64.wrap p_s.1) (shl .u64 (IntKind.u64.wrap p_s.2.1) 32), p_s.2.2.1, p_s.2.2.2.1, p_s.2.2.2.1, p_s.2.2.2.2.1, p_s.2.2.2.2.2.1, p_s.2.2.2.2.2.2] : List Int).length ([bor .u64 (IntKind.u64.wrap p_s.1) (shl .u64 (IntKind.u64.wrap p_s.2.1) 32), p_s.2.2.1, p_s.2.2.2.1, p_s.2.2.2.1, p_s.2.2.2.2.1, p_s.2.2.2.2.2.1, p_s.2.2.2.2.2.2] : List Int).length), (29, .int .i64 ((([bor .u64 (IntKind.u64.wrap p_s.1) (shl .u64 (IntKind.u64.wrap p_s.2.1) 32), p_s.2.2.1, p_s.2.2.2.1, p_s.2.2.2.1, p_s.2.2.2.2.1, p_s.2.2.2.2.2.1, p_s.2.2.2.2.2.2] : List Int).length : Nat) : Int)), (30, .int .i64 s2.2)]) hf (by kernel_rfl) ?_
      clear hf; clear a; intro a hf
      refine wpList_nil ?_
      refine reg ?_
      refine st tbOk 2 [28, 29, 30, 40, 41] (L' := [(28, .slice (some ⟨w1.heap.size, 0, none⟩) ([bor .u64 (IntKind.u64.wrap p_s.1) (shl .u64 (IntKind.u64.wrap p_s.2.1) 32), p_s.2.2.1, p_s.2.2.2.1, p_s.2.2.2.1, p_s.2.2.2.2.1, p_s.2.2.2.2.2.1, p_s.2.2.2.2.2.2] : List Int).length ([bor .u64 (IntKind.u64.wrap p_s.1) (shl .u64 (IntKind.u64.wrap p_s.2.1) 32), p_s.2.2.1, p_s.2.2.2.1, p_s.2.2.2.1, p_s.2.2.2.2.1, p_s.2.2.2.2.2.1, p_s.2.2.2.2.2.2] : List Int).length), (29, .int .i64 ((([bor .u64 (IntKind.u64.wrap p_s.1) (shl .u64 (IntKind.u64.wrap p_s.2.1) 32), p_s.2.2.1, p_s.2.2.2.1, p_s.2.2.2.1, p_s.2.2.2.2.1, p_s.2.2.2.2.2.1, p_s.2.2.2.2.2.2] : List Int).length : Nat) : Int)), (30, .int .i64 s2.2), (40, .slice ao2 s2.1.length cp2), (41, .slice ao3 z1.1.length cp3)]) hf (by kernel_rfl) ?_
      clear hf; clear a; intro a hf
      have hT := of_gd hS; clear hS; obtain ⟨hc3, hS⟩ := hT
      refine apR tbOk u27 i5 rfl rfl rfl rfl hs.le (hs.own 1 rfl) (hs.raW 0 rfl) hc3 hf (by kernel_rfl) (by kernel_rfl) (by kernel_rfl) (by kernel_rfl) ?_
      clear hf; clear a; intro ao4 cp4 w6 a ho hg hl hf
      replace hs : Sep w F R w6 F2 [.row 5 (tI .u8) (.slice ao3 z1.1.length cp3) z1.1, .row 5 (tI .u8) (.slice ao4 (s2.1 ++ z1.1).length cp4) (s2.1 ++ z1.1), .row 23 (tI .u64) (.slice (some ⟨w1.heap.size, 0, none⟩) ([bor .u64 (IntKind.u64.wrap p_s.1) (shl .u64 (IntKind.u64.wrap p_s.2.1) 32), p_s.2.2.1, p_s.2.2.2.1, p_s.2.2.2.1, p_s.2.2.2.2.1, p_s.2.2.2.2.2.1, p_s.2.2.2.2.2.2] : List Int).length ([bor .u64 (IntKind.u64.wrap p_s.1) (shl .u64 (IntKind.u64.wrap p_s.2.1) 32), p_s.2.2.1, p_s.2.2.2.1, p_s.2.2.2.1, p_s.2.2.2.2.1, p_s.2.2.2.2.2.1, p_s.2.2.2.2.2.2] : List Int).length) ([bor .u64 (IntKind.u64.wrap p_s.1) (shl .u64 (IntKind.u64.wrap p_s.2.1) 32), p_s.2.2.1, p_s.2.2.2.1, p_s.2.2.2.1, p_s.2.2.2.2.1, p_s.2.2.2.2.2.1, p_s.2.2.2.2.2.2] : List Int)] := hs.updRow 1 rfl ho hg hl
      clear ho hg hl
      replace hs : Sep w F R w6 F2 [.row 5 (tI .u8) (.slice ao4 (s2.1 ++ z1.1).length cp4) (s2.1 ++ z1.1), .row 23 (tI .u64) (.slice (some ⟨w1.heap.size, 0, none⟩) ([bor .u64 (IntKind.u64.wrap p_s.1) (shl .u64 (IntKind.u64.wrap p_s.2.1) 32), p_s.2.2.1, p_s.2.2.2.1, p_s.2.2.2.1, p_s.2.2.2.2.1, p_s.2.2.2.2.2.1, p_s.2.2.2.2.2.2] : List Int).length ([bor .u64 (IntKind.u64.wrap p_s.1) (shl .u64 (IntKind.u64.wrap p_s.2.1) 32), p_s.2.2.1, p_s.2.2.2.1, p_s.2.2.2.1, p_s.2.2.2.2.1, p_s.2.2.2.2.2.1, p_s.2.2.2.2.2.2] : List Int).length) ([bor .u64 (IntKind.u64.wrap p_s.1) (shl .u64 (IntKind.u64.wrap p_s.2.1) 32), p_s.2.2.1, p_s.2.2.2.1, p_s.2.2.2.1, p_s.2.2.2.2.1, p_s.2.2.2.2.2.1, p_s.2.2.2.2.2.2] : List Int)] := hs.sel [1, 2] rfl rfl
      replace hf := Fr.keep (ks := [28, 29, 30, 42]) (L' := [(28, .slice (some ⟨w1.heap.size, 0, none⟩) ([bor .u64 (IntKind.u64.wrap p_s.1) (shl .u64 (IntKind.u64.wrap p_s.2.1) 32), p_s.2.2.1, p_s.2.2.2.1, p_s.2.2.2.1, p_s.2.2.2.2.1, p_s.2.2.2.2.2.1, p_s.2.2.2.2.2.2] : List Int).length ([bor .u64 (IntKind.u64.wrap p_s.1) (shl .u64 (IntKind.u64.wrap p_s.2.1) 32), p_s.2.2.1, p_s.2.2.2.1, p_s.2.2.2.1, p_s.2.2.2.2.1, p_s.2.2.2.2.2.1, p_s.2.2.2.2.2.2] : List Int).length), (29, .int .i64 ((([bor .u64 (IntKind.u64.wrap p_s.1) (shl .u64 (IntKind.u64.wrap p_s.2.1) 32), p_s.2.2.1, p_s.2.2.2.1, p_s.2.2.2.1, p_s.2.2.2.2.1, p_s.2.2.2.2.2.1, p_s.2.2.2.2.2.2] : List Int).length : Nat) : Int)), (30, .int .i64 s2.2), (42, .slice ao4 (s2.1 ++ z1.1).length cp4)]) hf (by kernel_rfl)
      refine st tbOk 1 [3, 28, 29, 30] (L' := [(3, .slice ao4 (s2.1 ++ z1.1).length cp4), (28, .slice (some ⟨w1.heap.size, 0, none⟩) ([bor .u64 (IntKind.u64.wrap p_s.1) (shl .u64 (IntKind.u64.wrap p_s.2.1) 32), p_s.2.2.1, p_s.2.2.2.1, p_s.2.2.2.1, p_s.2.2.2.2.1, p_s.2.2.2.2.2.1, p_s.2.2.2.2.2.2] : List Int).length ([bor .u64 (IntKind.u64.wrap p_s.1) (shl .u64 (IntKind.u64.wrap p_s.2.1) 32), p_s.2.2.1, p_s.2.2.2.1, p_s.2.2.2.1, p_s.2.2.2.2.1, p_s.2.2.2.2.2.1, p_s.2.2.2.2.2.2] : List Int).length), (29, .int .i64 ((([bor .u64 (IntKind.u64.wrap p_s.1) (shl .u64 (IntKind.u64.wrap p_s.2.1) 32), p_s.2.2.1, p_s.2.2.2.1, p_s.2.2.2.1, p_s.2.2.2.2.1, p_s.2.2.2.2.2.1, p_s.2.2.2.2.2.2] : List Int).length : Nat) : Int)), (30, .int .i64 s2.2)]) hf (by kernel_rfl) ?_
      clear hf; clear a; intro a hf
      refine wpList_nil ?_
      refine reg ?_
      refine st tbOk 2 [3, 28, 29, 30] (L' := [(3, .slice ao4 (s2.1 ++ z1.1).length cp4), (28, .slice (some ⟨w1.heap.size, 0, none⟩) ([bor .u64 (IntKind.u64.wrap p_s.1) (shl .u64 (IntKind.u64.wrap p_s.2.1) 32), p_s.2.2.1, p_s.2.2.2.1, p_s.2.2.2.1, p_s.2.2.2.2.1, p_s.2.2.2.2.2.1, p_s.2.2.2.2.2.2] : List Int).length ([bor .u64 (IntKind.u64.wrap p_s.1) (shl .u64 (IntKind.u64.wrap p_s.2.1) 32), p_s.2.2.1, p_s.2.2.2.1, p_s.2.2.2.1, p_s.2.2.2.2.1, p_s.2.2.2.2.2.1, p_s.2.2.2.2.2.2] : List Int).length), (29, .int .i64 ((([bor .u64 (IntKind.u64.wrap p_s.1) (shl .u64 (IntKind.u64.wrap p_s.2.1) 32), p_s.2.2.1, p_s.2.2.2.1, p_s.2.2.2.1, p_s.2.2.2.2.1, p_s.2.2.2.2.2.1, p_s.2.2.2.2.2.2] : List Int).length : Nat) : Int)), (30, .int .i64 (IntKind.i64.wrap (s2.2 + 1)))]) hf (by kernel_rfl) ?_
      clear hf; clear a; intro a hf
      refine wpList_nil ?_
      exact hK2 ((s2.1 ++ z1.1), IntKind.i64.wrap (s2.2 + 1)) _ _ ⟨ao4, cp4, _, hs.sel [0, 1] rfl rfl, hf.keep (ks := [3, 28, 29, 30]) (by kernel_rfl)⟩ hS
    · replace hS := of_f hb1 hS
      refine wp_exit ?_
      exact hK1 s2.1 _ _ ⟨ao2, cp2, _, hs.sel [0] rfl rfl, hf.keep (ks := [3]) (by kernel_rfl)⟩ hS

set_option maxHeartbeats 4000000 in
theorem octets_Get_ok {w : World} {F : SH} {b : List Int} {p_at : Int} {n : Int} {ao1 : Option Addr} {cp1 : Nat} (hs : Sep w F (blks [.ro (tI .u8) (.slice ao1 b.length cp1) b]) w F [.ro (tI .u8) (.slice ao1 b.length cp1) b]) {r : Int × Int} (hS : octets_Get b p_at n = some r) :
    Calls Try.prog 27 [.slice ao1 b.length cp1, .int .u64 p_at, .int .i64 n].toArray w (Gives (fun u w' => ∃ (F' : SH), u = .tuple #[.int .u64 r.1, .int .i64 r.2] ∧ Sep w F (blks [.ro (tI .u8) (.slice ao1 b.length cp1) b]) w' F' [])) := by
  generalize (blks [.ro (tI .u8) (.slice ao1 b.length cp1) b]) = R at hs ⊢
  unfold octets_Get at hS
  refine fn_ok (vs := [.slice ao1 b.length cp1, .int .u64 p_at, .int .i64 n]) Try.func27 rfl 38 Try.ntmps27 (Nat.le_of_ble_eq_true rfl) ?_
  intro a hf
  replace hf := Fr.cast (L' := [(0, .slice ao1 b.length cp1), (1, .int .u64 p_at), (2, .int .i64 n)]) hf (by kernel_rfl)
  refine sq ?_
  refine reg ?_
  refine st tbOk 2 [0, 1, 2] (L' := [(0, .slice ao1 b.length cp1), (1, .int .u64 p_at), (2, .int .i64 n)]) hf (by kernel_rfl) ?_
  clear hf; clear a; intro a hf
  refine wpList_nil ?_
  refine sq ?_
  refine sq ?_
  refine reg ?_
  refine st tbOk 3 [0, 1, 2, 11, 12, 13] (L' := [(0, .slice ao1 b.length cp1), (1, .int .u64 p_at), (2, .int .i64 n), (11, .slice ao1 b.length cp1), (12, .int .u64 p_at), (13, .int .i64 n)]) hf (by kernel_rfl) ?_
  clear hf; clear a; intro a hf
  have hT := of_bd hS; clear hS; obtain ⟨z1, hz1, hS⟩ := hT
  refine clV ent41 (vs := [.slice ao1 b.length cp1, .int .u64 p_at, .int .i64 n]) (caps := []) hf (by kernel_rfl) (by kernel_rfl) (by kernel_rfl) (by kernel_rfl) (octets_fits_ok (b := b) (p_at := p_at) (n := n) (hs.enter [0] rfl rfl) hz1) ?_
  clear hf; clear a; intro v w1 a hT hf; obtain ⟨F1, rfl, hr⟩ := hT
  replace hs : Sep w F R w1 F1 [.ro (tI .u8) (.slice ao1 b.length cp1) b] := hs.back [0] [0] rfl rfl rfl rfl hr
  clear hr
  replace hf := Fr.keep (ks := [0, 1, 2, 14]) (L' := [(0, .slice ao1 b.length cp1), (1, .int .u64 p_at), (2, .int .i64 n), (14, .int .i64 z1)]) hf (by kernel_rfl)
  refine st tbOk 1 [0, 1, 2, 8] (L' := [(0, .slice ao1 b.length cp1), (1, .int .u64 p_at), (2, .int .i64 n), (8, .int .i64 z1)]) hf (by kernel_rfl) ?_
  clear hf; clear a; intro a hf
  refine wpList_nil ?_
  refine sq ?_
  refine reg ?_
  refine st tbOk 2 [0, 1, 2, 8, 16] (L' := [(0, .slice ao1 b.length cp1), (1, .int .u64 p_at), (2, .int .i64 n), (8, .int .i64 z1), (16, .bool (z1 != 0))]) hf (by kernel_rfl) ?_
  clear hf; clear a; intro a hf
  refine wpList_nil ?_
  refine cnd (b := z1 != 0) hf (by kernel_rfl) (fun hb1 => ?_) (fun hb1 => ?_)
  · replace hS := of_t hb1 hS
    refine sq ?_
    refine reg ?_
    refine st tbOk 3 [6, 7] (L' := [(6, .int .u64 0), (7, .int .i64 z1)]) hf (by kernel_rfl) ?_
    clear hf; clear a; intro a hf
    refine wpList_nil ?_
    have hr := Option.some.inj hS; subst hr
    refine wp_ret ?_
    exact ret_ok hf (vs := [.int .u64 0, .int .i64 z1]) (by kernel_rfl) ⟨_, rfl, hs.sel [] rfl rfl⟩
  · replace hS := of_f hb1 hS
    refine wp_skip ?_
    refine sq ?_
    refine reg ?_
    refine st tbOk 1 [0, 1, 2, 9] (L' := [(0, .slice ao1 b.length cp1), (1, .int .u64 p_at), (2, .int .i64 n), (9, .int .u64 0)]) hf (by kernel_rfl) ?_
    clear hf; clear a; intro a hf
    refine wpList_nil ?_
    refine sq ?_
    refine sq ?_
    refine reg ?_
    refine st tbOk 2 [0, 1, 9, 18, 19] (L' := [(0, .slice ao1 b.length cp1), (1, .int .u64 p_at), (9, .int .u64 0), (18, .int .i64 n), (19, .int .i64 0)]) hf (by kernel_rfl) ?_
    clear hf; clear a; intro a hf
    refine wpList_nil ?_
    refine ctj (fun (s1 : Int) (a : Act) (w' : World) => ∃ (F2 : SH), Sep w F R w' F2 [] ∧ Fr 38 [(9, .int .u64 s1)] a) hS ?_ ?_
    · clear hS hf hs; clear a; intro s1 a w3 hM hS
      obtain ⟨F2, hs, hf⟩ := hM
      refine sq ?_
      refine reg ?_
      refine st tbOk 3 [6, 7] (L' := [(6, .int .u64 s1), (7, .int .i64 0)]) hf (by kernel_rfl) ?_
      clear hf; clear a; intro a hf
      refine wpList_nil ?_
      have hr := Option.some.inj hS; subst hr
      refine wp_ret ?_
      exact ret_ok hf (vs := [.int .u64 s1, .int .i64 0]) (by kernel_rfl) ⟨_, rfl, hs.sel [] rfl rfl⟩
    · clear hS; intro KK1 k1 hK1 hS
      refine blk ?_
      refine lp (st := (0, 0)) (fun (s2 : Int × Int) (a : Act) (w' : World) => ∃ (F3 : SH), Sep w F R w' F3 [.ro (tI .u8) (.slice ao1 b.length cp1) b] ∧ Fr 38 [(0, .slice ao1 b.length cp1), (1, .int .u64 p_at), (9, .int .u64 s2.1), (18, .int .i64 n), (19, .int .i64 s2.2)] a) ?_ ⟨_, hs.sel [0] rfl rfl, hf.keep (ks := [0, 1, 9, 18, 19]) (by kernel_rfl)⟩ hS
      clear hS hf hs; clear a
      intro rec1 KK2 hK2 s2 a w2 hM hS
      obtain ⟨F3, hs, hf⟩ := hM
      refine sq ?_
      refine reg ?_
      refine st tbOk 1 [0, 1, 9, 18, 19, 20] (L' := [(0, .slice ao1 b.length cp1), (1, .int .u64 p_at), (9, .int .u64 s2.1), (18, .int .i64 n), (19, .int .i64 s2.2), (20, .bool (decide (s2.2 < n)))]) hf (by kernel_rfl) ?_
      clear hf; clear a; intro a hf
      refine wpList_nil ?_
      refine sq ?_
      refine cnd (b := decide (s2.2 < n)) hf (by kernel_rfl) (fun hb2 => ?_) (fun hb2 => ?_)
      · replace hS := of_t hb2 hS
        refine wp_skip ?_
        refine sq ?_
        refine blk ?_
        refine sq ?_
        refine reg ?_
        refine st tbOk 2 [0, 1, 9, 10, 18, 19] (L' := [(0, .slice ao1 b.length cp1), (1, .int .u64 p_at), (9, .int .u64 s2.1), (10, .int .i64 s2.2), (18, .int .i64 n), (19, .int .i64 s2.2)]) hf (by kernel_rfl) ?_
        clear hf; clear a; intro a hf
        refine wpList_nil ?_
        refine reg ?_
        refine st tbOk 6 [0, 1, 10, 18, 19, 22, 23, 27] (L' := [(0, .slice ao1 b.length cp1), (1, .int .u64 p_at), (10, .int .i64 s2.2), (18, .int .i64 n), (19, .int .i64 s2.2), (22, .int .u64 s2.1), (23, .slice ao1 b.length cp1), (27, .int .i64 (IntKind.i64.wrap ((IntKind.i64.wrap p_at) + s2.2)))]) hf (by kernel_rfl) ?_
        clear hf; clear a; intro a hf
        have hT := of_gd hS; clear hS; obtain ⟨hc1, hS⟩ := hT
        refine ixR tbOk u27 i5 rfl rfl ((hs.ro 0 rfl).ra (LeH.refl _)) (k := .i64) (n := IntKind.i64.wrap ((IntKind.i64.wrap p_at) + s2.2)) hc1 hf (by kernel_rfl) (by kernel_rfl) (by kernel_rfl) (by kernel_rfl) ?_
        clear hf; clear a; intro pb1 po1 c1 a hp1 hr1 hf
        obtain rfl : c1 = [.int .u8 (gt b (IntKind.i64.wrap ((IntKind.i64.wrap p_at) + s2.2)))] := hr1
        replace hs : Sep w F R w2 F3 [.cel pb1 po1 [.int .u8 (gt b (IntKind.i64.wrap ((IntKind.i64.wrap p_at) + s2.2)))], .ro (tI .u8) (.slice ao1 b.length cp1) b] := hs.addCel hp1
        replace hf := Fr.keep (ks := [0, 1, 10, 18, 19, 22, 28]) (L' := [(0, .slice ao1 b.length cp1), (1, .int .u64 p_at), (10, .int .i64 s2.2), (18, .int .i64 n), (19, .int .i64 s2.2), (22, .int .u64 s2.1), (28, .pointer (some ⟨pb1, po1, none⟩))]) hf (by kernel_rfl)
        refine ldC tbOk (T := 5) (hs.ccel 0 rfl) (LeH.refl _) 0 (.int .u8 (gt b (IntKind.i64.wrap ((IntKind.i64.wrap p_at) + s2.2)))) hf (by kernel_rfl) (by kernel_rfl) (by kernel_rfl) (by kernel_rfl) ?_
        clear hf; clear a; intro a hf
        replace hs : Sep w F R w2 F3 [.ro (tI .u8) (.slice ao1 b.length cp1) b] := hs.sel [1] rfl rfl
        replace hf := Fr.keep (ks := [0, 1, 10, 18, 19, 22, 29]) (L' := [(0, .slice ao1 b.length cp1), (1, .int .u64 p_at), (10, .int .i64 s2.2), (18, .int .i64 n), (19, .int .i64 s2.2), (22, .int .u64 s2.1), (29, .int .u8 (gt b (IntKind.i64.wrap ((IntKind.i64.wrap p_at) + s2.2))))]) hf (by kernel_rfl)
        refine st tbOk 4 [0, 1, 18, 19, 22, 30, 33] (L' := [(0, .slice ao1 b.length cp1), (1, .int .u64 p_at), (18, .int .i64 n), (19, .int .i64 s2.2), (22, .int .u64 s2.1), (30, .int .u64 (IntKind.u64.wrap (gt b (IntKind.i64.wrap ((IntKind.i64.wrap p_at) + s2.2))))), (33, .int .u64 (IntKind.u64.wrap (IntKind.i64.wrap (8 * s2.2))))]) hf (by kernel_rfl) ?_
        clear hf; clear a; intro a hf
        have hT := of_gd hS; clear hS; obtain ⟨hc2, hS⟩ := hT
        refine bin (run_shl (k := .u64) (k' := .u64) (x := IntKind.u64.wrap (gt b (IntKind.i64.wrap ((IntKind.i64.wrap p_at) + s2.2)))) hc2 _) hf (by kernel_rfl) (by kernel_rfl) (by kernel_rfl) (by kernel_rfl) ?_
        clear hf; clear a; intro a hf
        replace hf := Fr.keep (ks := [0, 1, 18, 19, 22, 34]) (L' := [(0, .slice ao1 b.length cp1), (1, .int .u64 p_at), (18, .int .i64 n), (19, .int .i64 s2.2), (22, .int .u64 s2.1), (34, .int .u64 (shl .u64 (IntKind.u64.wrap (gt b (IntKind.i64.wrap ((IntKind.i64.wrap p_at) + s2.2)))) (IntKind.u64.wrap (IntKind.i64.wrap (8 * s2.2)))))]) hf (by kernel_rfl)
        have hT := of_let hS; clear hS; obtain ⟨x_1, hl1, hS⟩ := hT
        refine st tbOk 2 [0, 1, 9, 18, 19] (L' := [(0, .slice ao1 b.length cp1), (1, .int .u64 p_at), (9, .int .u64 x_1), (18, .int .i64 n), (19, .int .i64 s2.2)]) hf (by subst hl1; kernel_rfl) ?_
        clear hf; clear a; intro a hf
        refine wpList_nil ?_
        refine reg ?_
        refine st tbOk 2 [0, 1, 9, 18, 19] (L' := [(0, .slice ao1 b.length cp1), (1, .int .u64 p_at), (9, .int .u64 x_1), (18, .int .i64 n), (19, .int .i64 (IntKind.i64.wrap (s2.2 + 1)))]) hf (by kernel_rfl) ?_
        clear hf; clear a; intro a hf
        refine wpList_nil ?_
        exact hK2 (x_1, IntKind.i64.wrap (s2.2 + 1)) _ _ ⟨_, hs.sel [0] rfl rfl, hf.keep (ks := [0, 1, 9, 18, 19]) (by kernel_rfl)⟩ hS
      · replace hS := of_f hb2 hS
        refine wp_exit ?_
        exact hK1 s2.1 _ _ ⟨_, hs.sel [] rfl rfl, hf.keep (ks := [9]) (by kernel_rfl)⟩ hS

set_option maxHeartbeats 4000000 in
theorem segs_Get_ok {w : World} {F : SH} {b : List Int} {ao1 : Option Addr} {cp1 : Nat} (hs : Sep w F (blks [.ro (tI .u8) (.slice ao1 b.length cp1) b]) w F [.ro (tI .u8) (.slice ao1 b.length cp1) b]) {r : (Int × Int × Int × Int × Int × Int × Int) × Int} (hS : segs_Get b = some r) :
    Calls Try.prog 13 [.slice ao1 b.length cp1].toArray w (Gives (fun u w' => ∃ (F' : SH), u = .tuple #[.agg #[.int .u32 r.1.1, .int .u32 r.1.2.1, .int .u64 r.1.2.2.1, .int .u64 r.1.2.2.2.1, .int .u64 r.1.2.2.2.2.1, .int .u64 r.1.2.2.2.2.2.1, .int .u64 r.1.2.2.2.2.2.2], .int .i64 r.2] ∧ Sep w F (blks [.ro (tI .u8) (.slice ao1 b.length cp1) b]) w' F' [])) := by
  generalize (blks [.ro (tI .u8) (.slice ao1 b.length cp1) b]) = R at hs ⊢
  unfold segs_Get at hS
  refine fn_ok (vs := [.slice ao1 b.length cp1]) Try.func13 rfl 48 Try.ntmps13 (Nat.le_of_ble_eq_true rfl) ?_
  intro a hf
  replace hf := Fr.cast (L' := [(0, .slice ao1 b.length cp1)]) hf (by kernel_rfl)
  refine sq ?_
  refine reg ?_
  refine al tbOk i25 [.int .u32 0, .int .u32 0, .int .u64 0, .int .u64 0, .int .u64 0, .int .u64 0, .int .u64 0] rfl (by kernel_rfl) hf (by kernel_rfl) (by kernel_rfl) ?_
  clear hf; clear a; intro w1 a hb hx _ hf
  replace hs : Sep w F R w1 F [.box w.heap.size 25 [.int .u32 0, .int .u32 0, .int .u64 0, .int .u64 0, .int .u64 0, .int .u64 0, .int .u64 0], .ro (tI .u8) (.slice ao1 b.length cp1) b] := hs.newBox hb hx
  clear hb hx
  replace hf := Fr.keep (ks := [0, 2]) (L' := [(0, .slice ao1 b.length cp1), (2, .pointer (some ⟨w.heap.size, 0, none⟩))]) hf (by kernel_rfl)
  refine st tbOk 1 [0, 2] (L' := [(0, .slice ao1 b.length cp1), (2, .pointer (some ⟨w.heap.size, 0, none⟩))]) hf (by kernel_rfl) ?_
  clear hf; clear a; intro a hf
  refine wpList_nil ?_
  refine sq ?_
  refine sq ?_
  refine reg ?_
  refine st tbOk 3 [0, 2, 8] (L' := [(0, .slice ao1 b.length cp1), (2, .pointer (some ⟨w.heap.size, 0, none⟩)), (8, .bool (decide (((b.length : Nat) : Int) < 56)))]) hf (by kernel_rfl) ?_
  clear hf; clear a; intro a hf
  refine wpList_nil ?_
  refine cnd (b := decide (((b.length : Nat) : Int) < 56)) hf (by kernel_rfl) (fun hb1 => ?_) (fun hb1 => ?_)
  · replace hS := of_t hb1 hS
    refine sq ?_
    refine reg ?_
    refine st tbOk 1 [2, 9] (L' := [(2, .pointer (some ⟨w.heap.size, 0, none⟩)), (9, .agg #[.int .u32 0, .int .u32 0, .int .u64 0, .int .u64 0, .int .u64 0, .int .u64 0, .int .u64 0])]) hf (by kernel_rfl) ?_
    clear hf; clear a; intro a hf
    refine stB tbOk i25 (hs.bx 0 rfl) 0 [.int .u32 0, .int .u32 0, .int .u64 0, .int .u64 0, .int .u64 0, .int .u64 0, .int .u64 0] [.int .u32 0, .int .u32 0, .int .u64 0, .int .u64 0, .int .u64 0, .int .u64 0, .int .u64 0] (v := .agg #[.int .u32 0, .int .u32 0, .int .u64 0, .int .u64 0, .int .u64 0, .int .u64 0, .int .u64 0]) rfl rfl (by kernel_rfl) (by kernel_rfl) (by kernel_rfl) (by kernel_rfl) hf (by kernel_rfl) (by kernel_rfl) (by kernel_rfl) ?_
    clear hf; clear a; intro w2 a hb hg _ hf
    replace hs : Sep w F R w2 F [.box w.heap.size 25 [.int .u32 0, .int .u32 0, .int .u64 0, .int .u64 0, .int .u64 0, .int .u64 0, .int .u64 0], .ro (tI .u8) (.slice ao1 b.length cp1) b] := hs.updBox 0 rfl hb hg
    clear hb hg
    replace hs : Sep w F R w2 F [.box w.heap.size 25 [.int .u32 0, .int .u32 0, .int .u64 0, .int .u64 0, .int .u64 0, .int .u64 0, .int .u64 0]] := hs.sel [0] rfl rfl
    replace hf := Fr.keep (ks := [2]) (L' := [(2, .pointer (some ⟨w.heap.size, 0, none⟩))]) hf (by kernel_rfl)
    refine st tbOk 1 [2, 3] (L' := [(2, .pointer (some ⟨w.heap.size, 0, none⟩)), (3, .int .i64 10)]) hf (by kernel_rfl) ?_
    clear hf; clear a; intro a hf
    refine wpList_nil ?_
    have hr := Option.some.inj hS; subst hr
    refine wp_ret ?_
    exact ret_okC hf (vs := [.agg #[.int .u32 0, .int .u32 0, .int .u64 0, .int .u64 0, .int .u64 0, .int .u64 0, .int .u64 0], .int .i64 10]) (.cons (.cell tbOk (hs.cbx 0 rfl) (off := 0) (by kernel_rfl) (by kernel_rfl)) (.cons (.tmp (by kernel_rfl)) .nil)) ⟨_, rfl, hs.sel [] rfl rfl⟩
  · replace hS := of_f hb1 hS
    refine wp_skip ?_
    refine sq ?_
    refine reg ?_
    refine al tbOk i56 (List.map (Value.int .u64) (List.replicate 7 0 : List Int)) rfl (by kernel_rfl) hf (by kernel_rfl) (by kernel_rfl) ?_
    clear hf; clear a; intro w3 a hb hx _ hf
    replace hs : Sep w F R w3 F [.box w1.heap.size 56 (List.map (Value.int .u64) (List.replicate 7 0 : List Int)), .box w.heap.size 25 [.int .u32 0, .int .u32 0, .int .u64 0, .int .u64 0, .int .u64 0, .int .u64 0, .int .u64 0], .ro (tI .u8) (.slice ao1 b.length cp1) b] := hs.newBox hb hx
    clear hb hx
    replace hf := Fr.keep (ks := [0, 2, 4]) (L' := [(0, .slice ao1 b.length cp1), (2, .pointer (some ⟨w.heap.size, 0, none⟩)), (4, .pointer (some ⟨w1.heap.size, 0, none⟩))]) hf (by kernel_rfl)
    refine wpList_nil ?_
    refine sq ?_
    refine sq ?_
    refine reg ?_
    refine st tbOk 1 [0, 2, 4, 10] (L' := [(0, .slice ao1 b.length cp1), (2, .pointer (some ⟨w.heap.size, 0, none⟩)), (4, .pointer (some ⟨w1.heap.size, 0, none⟩)), (10, .int .i64 0)]) hf (by kernel_rfl) ?_
    clear hf; clear a; intro a hf
    refine wpList_nil ?_
    refine ctj (fun (s1 : List Int) (a : Act) (w' : World) => ∃ (F1 : SH), Sep w F R w' F1 [.box w1.heap.size 56 (List.map (Value.int .u64) s1), .box w.heap.size 25 [.int .u32 0, .int .u32 0, .int .u64 0, .int .u64 0, .int .u64 0, .int .u64 0, .int .u64 0]] ∧ s1.length = 7 ∧ Fr 48 [(2, .pointer (some ⟨w.heap.size, 0, none⟩)), (4, .pointer (some ⟨w1.heap.size, 0, none⟩))] a) hS ?_ ?_
    · clear hS hf hs; clear a; intro s1 a w7 hM hS
      obtain ⟨F1, hs, hn1, hf⟩ := hM
      refine sq ?_
      refine sq ?_
      refine reg ?_
      have hT := of_gd hS; clear hS; obtain ⟨hc2, hS⟩ := hT
      refine ixB tbOk u56 i23 (b := w1.heap.size) (k := .i64) (i := 2) hc2 hf (by kernel_rfl) (by kernel_rfl) (by kernel_rfl) (by kernel_rfl) ?_
      clear hf; clear a; intro po2 a hq2 hf
      have hp1 := arrCell (hs.cbx 0 rfl) hn1 hc2 hq2
      replace hf := Fr.keep (ks := [2, 4, 24]) (L' := [(2, .pointer (some ⟨w.heap.size, 0, none⟩)), (4, .pointer (some ⟨w1.heap.size, 0, none⟩)), (24, .pointer (some ⟨w1.heap.size, po2, none⟩))]) hf (by kernel_rfl)
      refine ldC tbOk (T := 23) hp1 (LeH.refl _) 0 (.int .u64 (gt s1 2)) hf (by kernel_rfl) (by kernel_rfl) (by kernel_rfl) (by kernel_rfl) ?_
      clear hf; clear a; intro a hf
      replace hf := Fr.keep (ks := [2, 4, 25]) (L' := [(2, .pointer (some ⟨w.heap.size, 0, none⟩)), (4, .pointer (some ⟨w1.heap.size, 0, none⟩)), (25, .int .u64 (gt s1 2))]) hf (by kernel_rfl)
      have hT := of_gd hS; clear hS; obtain ⟨hc3, hS⟩ := hT
      refine ixB tbOk u56 i23 (b := w1.heap.size) (k := .i64) (i := 3) hc3 hf (by kernel_rfl) (by kernel_rfl) (by kernel_rfl) (by kernel_rfl) ?_
      clear hf; clear a; intro po3 a hq3 hf
      have hp2 := arrCell (hs.cbx 0 rfl) hn1 hc3 hq3
      replace hf := Fr.keep (ks := [2, 4, 25, 26]) (L' := [(2, .pointer (some ⟨w.heap.size, 0, none⟩)), (4, .pointer (some ⟨w1.heap.size, 0, none⟩)), (25, .int .u64 (gt s1 2)), (26, .pointer (some ⟨w1.heap.size, po3, none⟩))]) hf (by kernel_rfl)
      refine ldC tbOk (T := 23) hp2 (LeH.refl _) 0 (.int .u64 (gt s1 3)) hf (by kernel_rfl) (by kernel_rfl) (by kernel_rfl) (by kernel_rfl) ?_
      clear hf; clear a; intro a hf
      replace hf := Fr.keep (ks := [2, 4, 25, 27]) (L' := [(2, .pointer (some ⟨w.heap.size, 0, none⟩)), (4, .pointer (some ⟨w1.heap.size, 0, none⟩)), (25, .int .u64 (gt s1 2)), (27, .int .u64 (gt s1 3))]) hf (by kernel_rfl)
      refine st tbOk 1 [2, 4, 28] (L' := [(2, .pointer (some ⟨w.heap.size, 0, none⟩)), (4, .pointer (some ⟨w1.heap.size, 0, none⟩)), (28, .bool ((gt s1 2) != (gt s1 3)))]) hf (by kernel_rfl) ?_
      clear hf; clear a; intro a hf
      refine wpList_nil ?_
      refine cnd (b := (gt s1 2) != (gt s1 3)) hf (by kernel_rfl) (fun hb3 => ?_) (fun hb3 => ?_)
      · replace hS := of_t hb3 hS
        refine sq ?_
        refine reg ?_
        refine st tbOk 1 [2, 29] (L' := [(2, .pointer (some ⟨w.heap.size, 0, none⟩)), (29, .agg #[.int .u32 0, .int .u32 0, .int .u64 0, .int .u64 0, .int .u64 0, .int .u64 0, .int .u64 0])]) hf (by kernel_rfl) ?_
        clear hf; clear a; intro a hf
        refine stB tbOk i25 (hs.bx 1 rfl) 0 [.int .u32 0, .int .u32 0, .int .u64 0, .int .u64 0, .int .u64 0, .int .u64 0, .int .u64 0] [.int .u32 0, .int .u32 0, .int .u64 0, .int .u64 0, .int .u64 0, .int .u64 0, .int .u64 0] (v := .agg #[.int .u32 0, .int .u32 0, .int .u64 0, .int .u64 0, .int .u64 0, .int .u64 0, .int .u64 0]) rfl rfl (by kernel_rfl) (by kernel_rfl) (by kernel_rfl) (by kernel_rfl) hf (by kernel_rfl) (by kernel_rfl) (by kernel_rfl) ?_
        clear hf; clear a; intro w8 a hb hg _ hf
        replace hs : Sep w F R w8 F1 [.box w1.heap.size 56 (List.map (Value.int .u64) s1), .box w.heap.size 25 [.int .u32 0, .int .u32 0, .int .u64 0, .int .u64 0, .int .u64 0, .int .u64 0, .int .u64 0]] := hs.updBox 1 rfl hb hg
        clear hb hg
        replace hs : Sep w F R w8 F1 [.box w.heap.size 25 [.int .u32 0, .int .u32 0, .int .u64 0, .int .u64 0, .int .u64 0, .int .u64 0, .int .u64 0]] := hs.sel [1] rfl rfl
        replace hf := Fr.keep (ks := [2]) (L' := [(2, .pointer (some ⟨w.heap.size, 0, none⟩))]) hf (by kernel_rfl)
        refine st tbOk 1 [2, 3] (L' := [(2, .pointer (some ⟨w.heap.size, 0, none⟩)), (3, .int .i64 11)]) hf (by kernel_rfl) ?_
        clear hf; clear a; intro a hf
        refine wpList_nil ?_
        have hr := Option.some.inj hS; subst hr
        refine wp_ret ?_
        exact ret_okC hf (vs := [.agg #[.int .u32 0, .int .u32 0, .int .u64 0, .int .u64 0, .int .u64 0, .int .u64 0, .int .u64 0], .int .i64 11]) (.cons (.cell tbOk (hs.cbx 0 rfl) (off := 0) (by kernel_rfl) (by kernel_rfl)) (.cons (.tmp (by kernel_rfl)) .nil)) ⟨_, rfl, hs.sel [] rfl rfl⟩
      · replace hS := of_f hb3 hS
        refine wp_skip ?_
        refine sq ?_
        refine reg ?_
        have hT := of_gd hS; clear hS; obtain ⟨hc4, hS⟩ := hT
        refine ixB tbOk u56 i23 (b := w1.heap.size) (k := .i64) (i := 0) hc4 hf (by kernel_rfl) (by kernel_rfl) (by kernel_rfl) (by kernel_rfl) ?_
        clear hf; clear a; intro po4 a hq4 hf
        have hp3 := arrCell (hs.cbx 0 rfl) hn1 hc4 hq4
        replace hf := Fr.keep (ks := [2, 4, 30]) (L' := [(2, .pointer (some ⟨w.heap.size, 0, none⟩)), (4, .pointer (some ⟨w1.heap.size, 0, none⟩)), (30, .pointer (some ⟨w1.heap.size, po4, none⟩))]) hf (by kernel_rfl)
        refine ldC tbOk (T := 23) hp3 (LeH.refl _) 0 (.int .u64 (gt s1 0)) hf (by kernel_rfl) (by kernel_rfl) (by kernel_rfl) (by kernel_rfl) ?_
        clear hf; clear a; intro a hf
        replace hf := Fr.keep (ks := [2, 4, 31]) (L' := [(2, .pointer (some ⟨w.heap.size, 0, none⟩)), (4, .pointer (some ⟨w1.heap.size, 0, none⟩)), (31, .int .u64 (gt s1 0))]) hf (by kernel_rfl)
        refine st tbOk 1 [2, 4, 32] (L' := [(2, .pointer (some ⟨w.heap.size, 0, none⟩)), (4, .pointer (some ⟨w1.heap.size, 0, none⟩)), (32, .int .u32 (IntKind.u32.wrap (gt s1 0)))]) hf (by kernel_rfl) ?_
        clear hf; clear a; intro a hf
        have hT := of_gd hS; clear hS; obtain ⟨hc5, hS⟩ := hT
        refine ixB tbOk u56 i23 (b := w1.heap.size) (k := .i64) (i := 0) hc5 hf (by kernel_rfl) (by kernel_rfl) (by kernel_rfl) (by kernel_rfl) ?_
        clear hf; clear a; intro po5 a hq5 hf
        have hp4 := arrCell (hs.cbx 0 rfl) hn1 hc5 hq5
        replace hf := Fr.keep (ks := [2, 4, 32, 33]) (L' := [(2, .pointer (some ⟨w.heap.size, 0, none⟩)), (4, .pointer (some ⟨w1.heap.size, 0, none⟩)), (32, .int .u32 (IntKind.u32.wrap (gt s1 0))), (33, .pointer (some ⟨w1.heap.size, po5, none⟩))]) hf (by kernel_rfl)
        refine ldC tbOk (T := 23) hp4 (LeH.refl _) 0 (.int .u64 (gt s1 0)) hf (by kernel_rfl) (by kernel_rfl) (by kernel_rfl) (by kernel_rfl) ?_
        clear hf; clear a; intro a hf
        replace hf := Fr.keep (ks := [2, 4, 32, 34]) (L' := [(2, .pointer (some ⟨w.heap.size, 0, none⟩)), (4, .pointer (some ⟨w1.heap.size, 0, none⟩)), (32, .int .u32 (IntKind.u32.wrap (gt s1 0))), (34, .int .u64 (gt s1 0))]) hf (by kernel_rfl)
        refine st tbOk 2 [2, 4, 32, 36] (L' := [(2, .pointer (some ⟨w.heap.size, 0, none⟩)), (4, .pointer (some ⟨w1.heap.size, 0, none⟩)), (32, .int .u32 (IntKind.u32.wrap (gt s1 0))), (36, .int .u32 (IntKind.u32.wrap (shr .u64 (gt s1 0) 32)))]) hf (by kernel_rfl) ?_
        clear hf; clear a; intro a hf
        have hT := of_gd hS; clear hS; obtain ⟨hc6, hS⟩ := hT
        refine ixB tbOk u56 i23 (b := w1.heap.size) (k := .i64) (i := 1) hc6 hf (by kernel_rfl) (by kernel_rfl) (by kernel_rfl) (by kernel_rfl) ?_
        clear hf; clear a; intro po6 a hq6 hf
        have hp5 := arrCell (hs.cbx 0 rfl) hn1 hc6 hq6
        replace hf := Fr.keep (ks := [2, 4, 32, 36, 37]) (L' := [(2, .pointer (some ⟨w.heap.size, 0, none⟩)), (4, .pointer (some ⟨w1.heap.size, 0, none⟩)), (32, .int .u32 (IntKind.u32.wrap (gt s1 0))), (36, .int .u32 (IntKind.u32.wrap (shr .u64 (gt s1 0) 32))), (37, .pointer (some ⟨w1.heap.size, po6, none⟩))]) hf (by kernel_rfl)
        refine ldC tbOk (T := 23) hp5 (LeH.refl _) 0 (.int .u64 (gt s1 1)) hf (by kernel_rfl) (by kernel_rfl) (by kernel_rfl) (by kernel_rfl) ?_
        clear hf; clear a; intro a hf
        replace hf := Fr.keep (ks := [2, 4, 32, 36, 38]) (L' := [(2, .pointer (some ⟨w.heap.size, 0, none⟩)), (4, .pointer (some ⟨w1.heap.size, 0, none⟩)), (32, .int .u32 (IntKind.u32.wrap (gt s1 0))), (36, .int .u32 (IntKind.u32.wrap (shr .u64 (gt s1 0) 32))), (38, .int .u64 (gt s1 1))]) hf (by kernel_rfl)
        have hT := of_gd hS; clear hS; obtain ⟨hc7, hS⟩ := hT
        refine ixB tbOk u56 i23 (b := w1.heap.size) (k := .i64) (i := 2) hc7 hf (by kernel_rfl) (by kernel_rfl) (by kernel_rfl) (by kernel_rfl) ?_
        clear hf; clear a; intro po7 a hq7 hf
        have hp6 := arrCell (hs.cbx 0 rfl) hn1 hc7 hq7
        replace hf := Fr.keep (ks := [2, 4, 32, 36, 38, 39]) (L' := [(2, .pointer (some ⟨w.heap.size, 0, none⟩)), (4, .pointer (some ⟨w1.heap.size, 0, none⟩)), (32, .int .u32 (IntKind.u32.wrap (gt s1 0))), (36, .int .u32 (IntKind.u32.wrap (shr .u64 (gt s1 0) 32))), (38, .int .u64 (gt s1 1)), (39, .pointer (some ⟨w1.heap.size, po7, none⟩))]) hf (by kernel_rfl)
        refine ldC tbOk (T := 23) hp6 (LeH.refl _) 0 (.int .u64 (gt s1 2)) hf (by kernel_rfl) (by kernel_rfl) (by kernel_rfl) (by kernel_rfl) ?_
        clear hf; clear a; intro a hf
        replace hf := Fr.keep (ks := [2, 4, 32, 36, 38, 40]) (L' := [(2, .pointer (some ⟨w.heap.size, 0, none⟩)), (4, .pointer (some ⟨w1.heap.size, 0, none⟩)), (32, .int .u32 (IntKind.u32.wrap (gt s1 0))), (36, .int .u32 (IntKind.u32.wrap (shr .u64 (gt s1 0) 32))), (38, .int .u64 (gt s1 1)), (40, .int .u64 (gt s1 2))]) hf (by kernel_rfl)
        have hT := of_gd hS; clear hS; obtain ⟨hc8, hS⟩ := hT
        refine ixB tbOk u56 i23 (b := w1.heap.size) (k := .i64) (i := 4) hc8 hf (by kernel_rfl) (by kernel_rfl) (by kernel_rfl) (by kernel_rfl) ?_
        clear hf; clear a; intro po8 a hq8 hf
        have hp7 := arrCell (hs.cbx 0 rfl) hn1 hc8 hq8
        replace hf := Fr.keep (ks := [2, 4, 32, 36, 38, 40, 41]) (L' := [(2, .pointer (some ⟨w.heap.size, 0, none⟩)), (4, .pointer (some ⟨w1.heap.size, 0, none⟩)), (32, .int .u32 (IntKind.u32.wrap (gt s1 0))), (36, .int .u32 (IntKind.u32.wrap (shr .u64 (gt s1 0) 32))), (38, .int .u64 (gt s1 1)), (40, .int .u64 (gt s1 2)), (41, .pointer (some ⟨w1.heap.size, po8, none⟩))]) hf (by kernel_rfl)
        refine ldC tbOk (T := 23) hp7 (LeH.refl _) 0 (.int .u64 (gt s1 4)) hf (by kernel_rfl) (by kernel_rfl) (by kernel_rfl) (by kernel_rfl) ?_
        clear hf; clear a; intro a hf
        replace hf := Fr.keep (ks := [2, 4, 32, 36, 38, 40, 42]) (L' := [(2, .pointer (some ⟨w.heap.size, 0, none⟩)), (4, .pointer (some ⟨w1.heap.size, 0, none⟩)), (32, .int .u32 (IntKind.u32.wrap (gt s1 0))), (36, .int .u32 (IntKind.u32.wrap (shr .u64 (gt s1 0) 32))), (38, .int .u64 (gt s1 1)), (40, .int .u64 (gt s1 2)), (42, .int .u64 (gt s1 4))]) hf (by kernel_rfl)
        have hT := of_gd hS; clear hS; obtain ⟨hc9, hS⟩ := hT
        refine ixB tbOk u56 i23 (b := w1.heap.size) (k := .i64) (i := 5) hc9 hf (by kernel_rfl) (by kernel_rfl) (by kernel_rfl) (by kernel_rfl) ?_
        clear hf; clear a; intro po9 a hq9 hf
        have hp8 := arrCell (hs.cbx 0 rfl) hn1 hc9 hq9
        replace hf := Fr.keep (ks := [2, 4, 32, 36, 38, 40, 42, 43]) (L' := [(2, .pointer (some ⟨w.heap.size, 0, none⟩)), (4, .pointer (some ⟨w1.heap.size, 0, none⟩)), (32, .int .u32 (IntKind.u32.wrap (gt s1 0))), (36, .int .u32 (IntKind.u32.wrap (shr .u64 (gt s1 0) 32))), (38, .int .u64 (gt s1 1)), (40, .int .u64 (gt s1 2)), (42, .int .u64 (gt s1 4)), (43, .pointer (some ⟨w1.heap.size, po9, none⟩))]) hf (by kernel_rfl)
        refine ldC tbOk (T := 23) hp8 (LeH.refl _) 0 (.int .u64 (gt s1 5)) hf (by kernel_rfl) (by kernel_rfl) (by kernel_rfl) (by kernel_rfl) ?_
        clear hf; clear a; intro a hf
        replace hf := Fr.keep (ks := [2, 4, 32, 36, 38, 40, 42, 44]) (L' := [(2, .pointer (some ⟨w.heap.size, 0, none⟩)), (4, .pointer (some ⟨w1.heap.size, 0, none⟩)), (32, .int .u32 (IntKind.u32.wrap (gt s1 0))), (36, .int .u32 (IntKind.u32.wrap (shr .u64 (gt s1 0) 32))), (38, .int .u64 (gt s1 1)), (40, .int .u64 (gt s1 2)), (42, .int .u64 (gt s1 4)), (44, .int .u64 (gt s1 5))]) hf (by kernel_rfl)
        have hT := of_gd hS; clear hS; obtain ⟨hc10, hS⟩ := hT
        refine ixB tbOk u56 i23 (b := w1.heap.size) (k := .i64) (i := 6) hc10 hf (by kernel_rfl) (by kernel_rfl) (by kernel_rfl) (by kernel_rfl) ?_
        clear hf; clear a; intro po10 a hq10 hf
        have hp9 := arrCell (hs.cbx 0 rfl) hn1 hc10 hq10
        replace hs : Sep w F R w7 F1 [.box w.heap.size 25 [.int .u32 0, .int .u32 0, .int .u64 0, .int .u64 0, .int .u64 0, .int .u64 0, .int .u64 0]] := hs.sel [1] rfl rfl
        replace hf := Fr.keep (ks := [2, 32, 36, 38, 40, 42, 44, 45]) (L' := [(2, .pointer (some ⟨w.heap.size, 0, none⟩)), (32, .int .u32 (IntKind.u32.wrap (gt s1 0))), (36, .int .u32 (IntKind.u32.wrap (shr .u64 (gt s1 0) 32))), (38, .int .u64 (gt s1 1)), (40, .int .u64 (gt s1 2)), (42, .int .u64 (gt s1 4)), (44, .int .u64 (gt s1 5)), (45, .pointer (some ⟨w1.heap.size, po10, none⟩))]) hf (by kernel_rfl)
        refine ldC tbOk (T := 23) hp9 (LeH.refl _) 0 (.int .u64 (gt s1 6)) hf (by kernel_rfl) (by kernel_rfl) (by kernel_rfl) (by kernel_rfl) ?_
        clear hf; clear a; intro a hf
        replace hf := Fr.keep (ks := [2, 32, 36, 38, 40, 42, 44, 46]) (L' := [(2, .pointer (some ⟨w.heap.size, 0, none⟩)), (32, .int .u32 (IntKind.u32.wrap (gt s1 0))), (36, .int .u32 (IntKind.u32.wrap (shr .u64 (gt s1 0) 32))), (38, .int .u64 (gt s1 1)), (40, .int .u64 (gt s1 2)), (42, .int .u64 (gt s1 4)), (44, .int .u64 (gt s1 5)), (46, .int .u64 (gt s1 6))]) hf (by kernel_rfl)
        refine st tbOk 1 [2, 47] (L' := [(2, .pointer (some ⟨w.heap.size, 0, none⟩)), (47, .agg #[.int .u32 (IntKind.u32.wrap (gt s1 0)), .int .u32 (IntKind.u32.wrap (shr .u64 (gt s1 0) 32)), .int .u64 (gt s1 1), .int .u64 (gt s1 2), .int .u64 (gt s1 4), .int .u64 (gt s1 5), .int .u64 (gt s1 6)])]) hf (by kernel_rfl) ?_
        clear hf; clear a; intro a hf
        refine stB tbOk i25 (hs.bx 0 rfl) 0 [.int .u32 (IntKind.u32.wrap (gt s1 0)), .int .u32 (IntKind.u32.wrap (shr .u64 (gt s1 0) 32)), .int .u64 (gt s1 1), .int .u64 (gt s1 2), .int .u64 (gt s1 4), .int .u64 (gt s1 5), .int .u64 (gt s1 6)] [.int .u32 (IntKind.u32.wrap (gt s1 0)), .int .u32 (IntKind.u32.wrap (shr .u64 (gt s1 0) 32)), .int .u64 (gt s1 1), .int .u64 (gt s1 2), .int .u64 (gt s1 4), .int .u64 (gt s1 5), .int .u64 (gt s1 6)] (v := .agg #[.int .u32 (IntKind.u32.wrap (gt s1 0)), .int .u32 (IntKind.u32.wrap (shr .u64 (gt s1 0) 32)), .int .u64 (gt s1 1), .int .u64 (gt s1 2), .int .u64 (gt s1 4), .int .u64 (gt s1 5), .int .u64 (gt s1 6)]) rfl rfl (by kernel_rfl) (by kernel_rfl) (by kernel_rfl) (by kernel_rfl) hf (by kernel_rfl) (by kernel_rfl) (by kernel_rfl) ?_
        clear hf; clear a; intro w9 a hb hg _ hf
        replace hs : Sep w F R w9 F1 [.box w.heap.size 25 [.int .u32 (IntKind.u32.wrap (gt s1 0)), .int .u32 (IntKind.u32.wrap (shr .u64 (gt s1 0) 32)), .int .u64 (gt s1 1), .int .u64 (gt s1 2), .int .u64 (gt s1 4), .int .u64 (gt s1 5), .int .u64 (gt s1 6)]] := hs.updBox 0 rfl hb hg
        clear hb hg
        replace hf := Fr.keep (ks := [2]) (L' := [(2, .pointer (some ⟨w.heap.size, 0, none⟩))]) hf (by kernel_rfl)
        refine st tbOk 1 [2, 3] (L' := [(2, .pointer (some ⟨w.heap.size, 0, none⟩)), (3, .int .i64 0)]) hf (by kernel_rfl) ?_
        clear hf; clear a; intro a hf
        refine wpList_nil ?_
        have hr := Option.some.inj hS; subst hr
        refine wp_ret ?_
        exact ret_okC hf (vs := [.agg #[.int .u32 (IntKind.u32.wrap (gt s1 0)), .int .u32 (IntKind.u32.wrap (shr .u64 (gt s1 0) 32)), .int .u64 (gt s1 1), .int .u64 (gt s1 2), .int .u64 (gt s1 4), .int .u64 (gt s1 5), .int .u64 (gt s1 6)], .int .i64 0]) (.cons (.cell tbOk (hs.cbx 0 rfl) (off := 0) (by kernel_rfl) (by kernel_rfl)) (.cons (.tmp (by kernel_rfl)) .nil)) ⟨_, rfl, hs.sel [] rfl rfl⟩
    · clear hS; intro KK1 k1 hK1 hS
      refine blk ?_
      refine lp (st := (0, (List.replicate 7 0 : List Int))) (fun (s2 : Int × (List Int)) (a : Act) (w' : World) => ∃ (F2 : SH), Sep w F R w' F2 [.box w1.heap.size 56 (List.map (Value.int .u64) s2.2), .box w.heap.size 25 [.int .u32 0, .int .u32 0, .int .u64 0, .int .u64 0, .int .u64 0, .int .u64 0, .int .u64 0], .ro (tI .u8) (.slice ao1 b.length cp1) b] ∧ s2.2.length = 7 ∧ Fr 48 [(0, .slice ao1 b.length cp1), (2, .pointer (some ⟨w.heap.size, 0, none⟩)), (4, .pointer (some ⟨w1.heap.size, 0, none⟩)), (10, .int .i64 s2.1)] a) ?_ ⟨_, hs.sel [0, 1, 2] rfl rfl, rfl, hf.keep (ks := [0, 2, 4, 10]) (by kernel_rfl)⟩ hS
      clear hS hf hs; clear a
      intro rec1 KK2 hK2 s2 a w4 hM hS
      obtain ⟨F2, hs, hn2, hf⟩ := hM
      refine sq ?_
      refine reg ?_
      refine st tbOk 1 [0, 2, 4, 10, 11] (L' := [(0, .slice ao1 b.length cp1), (2, .pointer (some ⟨w.heap.size, 0, none⟩)), (4, .pointer (some ⟨w1.heap.size, 0, none⟩)), (10, .int .i64 s2.1), (11, .bool (decide (s2.1 < 7)))]) hf (by kernel_rfl) ?_
      clear hf; clear a; intro a hf
      refine wpList_nil ?_
      refine sq ?_
      refine cnd (b := decide (s2.1 < 7)) hf (by kernel_rfl) (fun hb2 => ?_) (fun hb2 => ?_)
      · replace hS := of_t hb2 hS
        refine wp_skip ?_
        refine sq ?_
        refine blk ?_
        refine sq ?_
        refine reg ?_
        refine st tbOk 2 [0, 2, 4, 5, 10] (L' := [(0, .slice ao1 b.length cp1), (2, .pointer (some ⟨w.heap.size, 0, none⟩)), (4, .pointer (some ⟨w1.heap.size, 0, none⟩)), (5, .int .i64 s2.1), (10, .int .i64 s2.1)]) hf (by kernel_rfl) ?_
        clear hf; clear a; intro a hf
        refine wpList_nil ?_
        refine reg ?_
        refine st tbOk 5 [0, 2, 4, 10, 14, 15, 18] (L' := [(0, .slice ao1 b.length cp1), (2, .pointer (some ⟨w.heap.size, 0, none⟩)), (4, .pointer (some ⟨w1.heap.size, 0, none⟩)), (10, .int .i64 s2.1), (14, .int .i64 s2.1), (15, .slice ao1 b.length cp1), (18, .int .u64 (IntKind.u64.wrap (IntKind.i64.wrap (8 * s2.1))))]) hf (by kernel_rfl) ?_
        clear hf; clear a; intro a hf
        have hT := of_bd hS; clear hS; obtain ⟨z1, hz1, hS⟩ := hT
        refine clV ent27 (vs := [.slice ao1 b.length cp1, .int .u64 (IntKind.u64.wrap (IntKind.i64.wrap (8 * s2.1))), .int .i64 8]) (caps := []) hf (by kernel_rfl) (by kernel_rfl) (by kernel_rfl) (by kernel_rfl) (octets_Get_ok (b := b) (p_at := IntKind.u64.wrap (IntKind.i64.wrap (8 * s2.1))) (n := 8) (hs.enter [2] rfl rfl) hz1) ?_
        clear hf; clear a; intro v w5 a hT hf; obtain ⟨F3, rfl, hr⟩ := hT
        replace hs : Sep w F R w5 F3 [.box w1.heap.size 56 (List.map (Value.int .u64) s2.2), .box w.heap.size 25 [.int .u32 0, .int .u32 0, .int .u64 0, .int .u64 0, .int .u64 0, .int .u64 0, .int .u64 0], .ro (tI .u8) (.slice ao1 b.length cp1) b] := hs.back [2] [0, 1, 2] rfl rfl rfl rfl hr
        clear hr
        replace hf := Fr.keep (ks := [0, 2, 4, 10, 14, 19]) (L' := [(0, .slice ao1 b.length cp1), (2, .pointer (some ⟨w.heap.size, 0, none⟩)), (4, .pointer (some ⟨w1.heap.size, 0, none⟩)), (10, .int .i64 s2.1), (14, .int .i64 s2.1), (19, .tuple #[.int .u64 z1.1, .int .i64 z1.2])]) hf (by kernel_rfl)
        refine st tbOk 3 [0, 2, 4, 10, 14, 20] (L' := [(0, .slice ao1 b.length cp1), (2, .pointer (some ⟨w.heap.size, 0, none⟩)), (4, .pointer (some ⟨w1.heap.size, 0, none⟩)), (10, .int .i64 s2.1), (14, .int .i64 s2.1), (20, .int .u64 z1.1)]) hf (by kernel_rfl) ?_
        clear hf; clear a; intro a hf
        have hT := of_gd hS; clear hS; obtain ⟨hc1, hS⟩ := hT
        refine ixB tbOk u56 i23 (b := w1.heap.size) (k := .i64) (i := s2.1) hc1 hf (by kernel_rfl) (by kernel_rfl) (by kernel_rfl) (by kernel_rfl) ?_
        clear hf; clear a; intro po1 a hq1 hf
        replace hf := Fr.keep (ks := [0, 2, 4, 10, 20, 22]) (L' := [(0, .slice ao1 b.length cp1), (2, .pointer (some ⟨w.heap.size, 0, none⟩)), (4, .pointer (some ⟨w1.heap.size, 0, none⟩)), (10, .int .i64 s2.1), (20, .int .u64 z1.1), (22, .pointer (some ⟨w1.heap.size, po1, none⟩))]) hf (by kernel_rfl)
        refine stA tbOk i23 (Value.int .u64) (fun _ => rfl) (fun _ => rfl) (hs.bx 0 rfl) hn2 hc1 hq1 z1.1 hf (by kernel_rfl) (by kernel_rfl) (by kernel_rfl) ?_
        clear hf; clear a; intro w6 a hb hg hf
        replace hs : Sep w F R w6 F3 [.box w1.heap.size 56 (List.map (Value.int .u64) (s2.2.set (Int.toNat s2.1) z1.1)), .box w.heap.size 25 [.int .u32 0, .int .u32 0, .int .u64 0, .int .u64 0, .int .u64 0, .int .u64 0, .int .u64 0], .ro (tI .u8) (.slice ao1 b.length cp1) b] := hs.updBox 0 rfl hb hg
        clear hb hg
        replace hf := Fr.keep (ks := [0, 2, 4, 10]) (L' := [(0, .slice ao1 b.length cp1), (2, .pointer (some ⟨w.heap.size, 0, none⟩)), (4, .pointer (some ⟨w1.heap.size, 0, none⟩)), (10, .int .i64 s2.1)]) hf (by kernel_rfl)
        refine wpList_nil ?_
        refine reg ?_
        refine st tbOk 2 [0, 2, 4, 10] (L' := [(0, .slice ao1 b.length cp1), (2, .pointer (some ⟨w.heap.size, 0, none⟩)), (4, .pointer (some ⟨w1.heap.size, 0, none⟩)), (10, .int .i64 (IntKind.i64.wrap (s2.1 + 1)))]) hf (by kernel_rfl) ?_
        clear hf; clear a; intro a hf
        refine wpList_nil ?_
        exact hK2 (IntKind.i64.wrap (s2.1 + 1), (s2.2.set (Int.toNat s2.1) z1.1)) _ _ ⟨_, hs.sel [0, 1, 2] rfl rfl, (List.length_set.trans hn2), hf.keep (ks := [0, 2, 4, 10]) (by kernel_rfl)⟩ hS
      · replace hS := of_f hb2 hS
        refine wp_exit ?_
        exact hK1 s2.2 _ _ ⟨_, hs.sel [0, 1] rfl rfl, hn2, hf.keep (ks := [2, 4]) (by kernel_rfl)⟩ hS

set_option maxHeartbeats 4000000 in
theorem segs_Place_ok {w : World} {F : SH} {p_l : List (Int × Int × Int × Int × Int × Int × Int)} {addr : Int} {size : Int} {ao1 : Option Addr} {cp1 : Nat} (hs : Sep w F (blks [.ro ty24 (.slice ao1 p_l.length cp1) p_l]) w F [.ro ty24 (.slice ao1 p_l.length cp1) p_l]) {r : Int × Int} (hS : segs_Place p_l addr size = some r) :
    Calls Try.prog 20 [.slice ao1 p_l.length cp1, .int .u64 addr, .int .u64 size].toArray w (Gives (fun u w' => ∃ (F' : SH), u = .tuple #[.int .u64 r.1, .int .i64 r.2] ∧ Sep w F (blks [.ro ty24 (.slice ao1 p_l.length cp1) p_l]) w' F' [])) := by
  generalize (blks [.ro ty24 (.slice ao1 p_l.length cp1) p_l]) = R at hs ⊢
  unfold segs_Place at hS
  refine fn_ok (vs := [.slice ao1 p_l.length cp1, .int .u64 addr, .int .u64 size]) Try.func20 rfl 53 Try.ntmps20 (Nat.le_of_ble_eq_true rfl) ?_
  intro a hf
  replace hf := Fr.cast (L' := [(0, .slice ao1 p_l.length cp1), (1, .int .u64 addr), (2, .int .u64 size)]) hf (by kernel_rfl)
  refine sq ?_
  refine reg ?_
  refine st tbOk 2 [0, 1, 2] (L' := [(0, .slice ao1 p_l.length cp1), (1, .int .u64 addr), (2, .int .u64 size)]) hf (by kernel_rfl) ?_
  clear hf; clear a; intro a hf
  refine wpList_nil ?_
  refine sq ?_
  refine sq ?_
  refine reg ?_
  refine st tbOk 3 [1, 2, 11, 12, 13] (L' := [(1, .int .u64 addr), (2, .int .u64 size), (11, .slice ao1 p_l.length cp1), (12, .int .i64 ((p_l.length : Nat) : Int)), (13, .int .i64 0)]) hf (by kernel_rfl) ?_
  clear hf; clear a; intro a hf
  refine wpList_nil ?_
  refine ctj (fun (s1 : Unit) (a : Act) (w' : World) => ∃ (F1 : SH), Sep w F R w' F1 [] ∧ Fr 53 [] a) hS ?_ ?_
  · clear hS hf hs; clear a; intro s1 a w5 hM hS
    obtain ⟨F1, hs, hf⟩ := hM
    refine sq ?_
    refine reg ?_
    refine st tbOk 2 [6, 7] (L' := [(6, .int .u64 0), (7, .int .i64 40)]) hf (by kernel_rfl) ?_
    clear hf; clear a; intro a hf
    refine wpList_nil ?_
    have hr := Option.some.inj hS; subst hr
    refine wp_ret ?_
    exact ret_ok hf (vs := [.int .u64 0, .int .i64 40]) (by kernel_rfl) ⟨_, rfl, hs.sel [] rfl rfl⟩
  · clear hS; intro KK1 k1 hK1 hS
    refine blk ?_
    refine lp (st := 0) (fun (s2 : Int) (a : Act) (w' : World) => ∃ (F2 : SH), Sep w F R w' F2 [.ro ty24 (.slice ao1 p_l.length cp1) p_l] ∧ Fr 53 [(1, .int .u64 addr), (2, .int .u64 size), (11, .slice ao1 p_l.length cp1), (12, .int .i64 ((p_l.length : Nat) : Int)), (13, .int .i64 s2)] a) ?_ ⟨_, hs.sel [0] rfl rfl, hf.keep (ks := [1, 2, 11, 12, 13]) (by kernel_rfl)⟩ hS
    clear hS hf hs; clear a
    intro rec1 KK2 hK2 s2 a w1 hM hS
    obtain ⟨F2, hs, hf⟩ := hM
    refine sq ?_
    refine reg ?_
    refine st tbOk 1 [1, 2, 11, 12, 13, 14] (L' := [(1, .int .u64 addr), (2, .int .u64 size), (11, .slice ao1 p_l.length cp1), (12, .int .i64 ((p_l.length : Nat) : Int)), (13, .int .i64 s2), (14, .bool (decide (s2 < ((p_l.length : Nat) : Int))))]) hf (by kernel_rfl) ?_
    clear hf; clear a; intro a hf
    refine wpList_nil ?_
    refine sq ?_
    refine cnd (b := decide (s2 < ((p_l.length : Nat) : Int))) hf (by kernel_rfl) (fun hb1 => ?_) (fun hb1 => ?_)
    · replace hS := of_t hb1 hS
      refine wp_skip ?_
      refine sq ?_
      refine blk ?_
      refine sq ?_
      refine reg ?_
      have hT := of_gd hS; clear hS; obtain ⟨hc1, hS⟩ := hT
      refine ixR tbOk u33 i25 rfl rfl ((hs.ro 0 rfl).ra (LeH.refl _)) (k := .i64) (n := s2) hc1 hf (by kernel_rfl) (by kernel_rfl) (by kernel_rfl) (by kernel_rfl) ?_
      clear hf; clear a; intro pb1 po1 c1 a hp1 hr1 hf
      obtain rfl : c1 = [.int .u32 ((gt p_l s2).1), .int .u32 ((gt p_l s2).2.1), .int .u64 ((gt p_l s2).2.2.1), .int .u64 ((gt p_l s2).2.2.2.1), .int .u64 ((gt p_l s2).2.2.2.2.1), .int .u64 ((gt p_l s2).2.2.2.2.2.1), .int .u64 ((gt p_l s2).2.2.2.2.2.2)] := hr1
      replace hs : Sep w F R w1 F2 [.cel pb1 po1 [.int .u32 ((gt p_l s2).1), .int .u32 ((gt p_l s2).2.1), .int .u64 ((gt p_l s2).2.2.1), .int .u64 ((gt p_l s2).2.2.2.1), .int .u64 ((gt p_l s2).2.2.2.2.1), .int .u64 ((gt p_l s2).2.2.2.2.2.1), .int .u64 ((gt p_l s2).2.2.2.2.2.2)], .ro ty24 (.slice ao1 p_l.length cp1) p_l] := hs.addCel hp1
      replace hf := Fr.keep (ks := [1, 2, 11, 12, 13, 15]) (L' := [(1, .int .u64 addr), (2, .int .u64 size), (11, .slice ao1 p_l.length cp1), (12, .int .i64 ((p_l.length : Nat) : Int)), (13, .int .i64 s2), (15, .pointer (some ⟨pb1, po1, none⟩))]) hf (by kernel_rfl)
      refine ldC tbOk (T := 25) (hs.ccel 0 rfl) (LeH.refl _) 0 (.agg #[.int .u32 ((gt p_l s2).1), .int .u32 ((gt p_l s2).2.1), .int .u64 ((gt p_l s2).2.2.1), .int .u64 ((gt p_l s2).2.2.2.1), .int .u64 ((gt p_l s2).2.2.2.2.1), .int .u64 ((gt p_l s2).2.2.2.2.2.1), .int .u64 ((gt p_l s2).2.2.2.2.2.2)]) hf (by kernel_rfl) (by kernel_rfl) (by kernel_rfl) (by kernel_rfl) ?_
      clear hf; clear a; intro a hf
      replace hs : Sep w F R w1 F2 [.ro ty24 (.slice ao1 p_l.length cp1) p_l] := hs.sel [1] rfl rfl
      replace hf := Fr.keep (ks := [1, 2, 11, 12, 13, 16]) (L' := [(1, .int .u64 addr), (2, .int .u64 size), (11, .slice ao1 p_l.length cp1), (12, .int .i64 ((p_l.length : Nat) : Int)), (13, .int .i64 s2), (16, .agg #[.int .u32 ((gt p_l s2).1), .int .u32 ((gt p_l s2).2.1), .int .u64 ((gt p_l s2).2.2.1), .int .u64 ((gt p_l s2).2.2.2.1), .int .u64 ((gt p_l s2).2.2.2.2.1), .int .u64 ((gt p_l s2).2.2.2.2.2.1), .int .u64 ((gt p_l s2).2.2.2.2.2.2)])]) hf (by kernel_rfl)
      refine al tbOk i25 [.int .u32 0, .int .u32 0, .int .u64 0, .int .u64 0, .int .u64 0, .int .u64 0, .int .u64 0] rfl (by kernel_rfl) hf (by kernel_rfl) (by kernel_rfl) ?_
      clear hf; clear a; intro w2 a hb hx _ hf
      replace hs : Sep w F R w2 F2 [.box w1.heap.size 25 [.int .u32 0, .int .u32 0, .int .u64 0, .int .u64 0, .int .u64 0, .int .u64 0, .int .u64 0], .ro ty24 (.slice ao1 p_l.length cp1) p_l] := hs.newBox hb hx
      clear hb hx
      replace hf := Fr.keep (ks := [1, 2, 9, 11, 12, 13, 16]) (L' := [(1, .int .u64 addr), (2, .int .u64 size), (9, .pointer (some ⟨w1.heap.size, 0, none⟩)), (11, .slice ao1 p_l.length cp1), (12, .int .i64 ((p_l.length : Nat) : Int)), (13, .int .i64 s2), (16, .agg #[.int .u32 ((gt p_l s2).1), .int .u32 ((gt p_l s2).2.1), .int .u64 ((gt p_l s2).2.2.1), .int .u64 ((gt p_l s2).2.2.2.1), .int .u64 ((gt p_l s2).2.2.2.2.1), .int .u64 ((gt p_l s2).2.2.2.2.2.1), .int .u64 ((gt p_l s2).2.2.2.2.2.2)])]) hf (by kernel_rfl)
      refine stB tbOk i25 (hs.bx 0 rfl) 0 [.int .u32 ((gt p_l s2).1), .int .u32 ((gt p_l s2).2.1), .int .u64 ((gt p_l s2).2.2.1), .int .u64 ((gt p_l s2).2.2.2.1), .int .u64 ((gt p_l s2).2.2.2.2.1), .int .u64 ((gt p_l s2).2.2.2.2.2.1), .int .u64 ((gt p_l s2).2.2.2.2.2.2)] [.int .u32 ((gt p_l s2).1), .int .u32 ((gt p_l s2).2.1), .int .u64 ((gt p_l s2).2.2.1), .int .u64 ((gt p_l s2).2.2.2.1), .int .u64 ((gt p_l s2).2.2.2.2.1), .int .u64 ((gt p_l s2).2.2.2.2.2.1), .int .u64 ((gt p_l s2).2.2.2.2.2.2)] (v := .agg #[.int .u32 ((gt p_l s2).1), .int .u32 ((gt p_l s2).2.1), .int .u64 ((gt p_l s2).2.2.1), .int .u64 ((gt p_l s2).2.2.2.1), .int .u64 ((gt p_l s2).2.2.2.2.1), .int .u64 ((gt p_l s2).2.2.2.2.2.1), .int .u64 ((gt p_l s2).2.2.2.2.2.2)]) rfl rfl (by kernel_rfl) (by kernel_rfl) (by kernel_rfl) (by kernel_rfl) hf (by kernel_rfl) (by kernel_rfl) (by kernel_rfl) ?_
      clear hf; clear a; intro w3 a hb hg _ hf
      replace hs : Sep w F R w3 F2 [.box w1.heap.size 25 [.int .u32 ((gt p_l s2).1), .int .u32 ((gt p_l s2).2.1), .int .u64 ((gt p_l s2).2.2.1), .int .u64 ((gt p_l s2).2.2.2.1), .int .u64 ((gt p_l s2).2.2.2.2.1), .int .u64 ((gt p_l s2).2.2.2.2.2.1), .int .u64 ((gt p_l s2).2.2.2.2.2.2)], .ro ty24 (.slice ao1 p_l.length cp1) p_l] := hs.updBox 0 rfl hb hg
      clear hb hg
      replace hf := Fr.keep (ks := [1, 2, 9, 11, 12, 13]) (L' := [(1, .int .u64 addr), (2, .int .u64 size), (9, .pointer (some ⟨w1.heap.size, 0, none⟩)), (11, .slice ao1 p_l.length cp1), (12, .int .i64 ((p_l.length : Nat) : Int)), (13, .int .i64 s2)]) hf (by kernel_rfl)
      refine wpList_nil ?_
      refine sq ?_
      refine reg ?_
      refine st tbOk 2 [1, 2, 9, 11, 12, 13, 17, 18] (L' := [(1, .int .u64 addr), (2, .int .u64 size), (9, .pointer (some ⟨w1.heap.size, 0, none⟩)), (11, .slice ao1 p_l.length cp1), (12, .int .i64 ((p_l.length : Nat) : Int)), (13, .int .i64 s2), (17, .int .u64 addr), (18, .pointer (some ⟨w1.heap.size, 3, none⟩))]) hf (by kernel_rfl) ?_
      clear hf; clear a; intro a hf
      refine ldC tbOk (T := 23) (hs.cbx 0 rfl) (LeH.refl _) 3 (.int .u64 ((gt p_l s2).2.2.2.1)) hf (by kernel_rfl) (by kernel_rfl) (by kernel_rfl) (by kernel_rfl) ?_
      clear hf; clear a; intro a hf
      replace hf := Fr.keep (ks := [1, 2, 9, 11, 12, 13, 17, 19]) (L' := [(1, .int .u64 addr), (2, .int .u64 size), (9, .pointer (some ⟨w1.heap.size, 0, none⟩)), (11, .slice ao1 p_l.length cp1), (12, .int .i64 ((p_l.length : Nat) : Int)), (13, .int .i64 s2), (17, .int .u64 addr), (19, .int .u64 ((gt p_l s2).2.2.2.1))]) hf (by kernel_rfl)
      have hT := of_let hS; clear hS; obtain ⟨at_1, hl1, hS⟩ := hT
      refine st tbOk 2 [1, 2, 9, 10, 11, 12, 13] (L' := [(1, .int .u64 addr), (2, .int .u64 size), (9, .pointer (some ⟨w1.heap.size, 0, none⟩)), (10, .int .u64 at_1), (11, .slice ao1 p_l.length cp1), (12, .int .i64 ((p_l.length : Nat) : Int)), (13, .int .i64 s2)]) hf (by subst hl1; kernel_rfl) ?_
      clear hf; clear a; intro a hf
      refine wpList_nil ?_
      refine sq ?_
      refine ctj (fun (s3 : Bool) (a : Act) (w' : World) => ∃ (F3 : SH), Sep w F R w' F3 [.box w1.heap.size 25 [.int .u32 ((gt p_l s2).1), .int .u32 ((gt p_l s2).2.1), .int .u64 ((gt p_l s2).2.2.1), .int .u64 ((gt p_l s2).2.2.2.1), .int .u64 ((gt p_l s2).2.2.2.2.1), .int .u64 ((gt p_l s2).2.2.2.2.2.1), .int .u64 ((gt p_l s2).2.2.2.2.2.2)], .ro ty24 (.slice ao1 p_l.length cp1) p_l] ∧ Fr 53 [(1, .int .u64 addr), (2, .int .u64 size), (9, .pointer (some ⟨w1.heap.size, 0, none⟩)), (10, .int .u64 at_1), (11, .slice ao1 p_l.length cp1), (12, .int .i64 ((p_l.length : Nat) : Int)), (13, .int .i64 s2), (47, .bool s3)] a) hS ?_ ?_
      · clear hS hf hs; clear a; intro s3 a w4 hM hS
        obtain ⟨F3, hs, hf⟩ := hM
        refine cnd (b := s3) hf (by kernel_rfl) (fun hb6 => ?_) (fun hb6 => ?_)
        · replace hS := of_t hb6 hS
          refine sq ?_
          refine reg ?_
          refine st tbOk 1 [10, 48] (L' := [(10, .int .u64 at_1), (48, .pointer (some ⟨w1.heap.size, 2, none⟩))]) hf (by kernel_rfl) ?_
          clear hf; clear a; intro a hf
          refine ldC tbOk (T := 23) (hs.cbx 0 rfl) (LeH.refl _) 2 (.int .u64 ((gt p_l s2).2.2.1)) hf (by kernel_rfl) (by kernel_rfl) (by kernel_rfl) (by kernel_rfl) ?_
          clear hf; clear a; intro a hf
          replace hs : Sep w F R w4 F3 [] := hs.sel [] rfl rfl
          replace hf := Fr.keep (ks := [10, 49]) (L' := [(10, .int .u64 at_1), (49, .int .u64 ((gt p_l s2).2.2.1))]) hf (by kernel_rfl)
          refine st tbOk 4 [6, 7] (L' := [(6, .int .u64 (IntKind.u64.wrap (((gt p_l s2).2.2.1) + at_1))), (7, .int .i64 0)]) hf (by kernel_rfl) ?_
          clear hf; clear a; intro a hf
          refine wpList_nil ?_
          have hr := Option.some.inj hS; subst hr
          refine wp_ret ?_
          exact ret_ok hf (vs := [.int .u64 (IntKind.u64.wrap (((gt p_l s2).2.2.1) + at_1)), .int .i64 0]) (by kernel_rfl) ⟨_, rfl, hs.sel [] rfl rfl⟩
        · replace hS := of_f hb6 hS
          refine wp_skip ?_
          refine reg ?_
          refine st tbOk 2 [1, 2, 11, 12, 13] (L' := [(1, .int .u64 addr), (2, .int .u64 size), (11, .slice ao1 p_l.length cp1), (12, .int .i64 ((p_l.length : Nat) : Int)), (13, .int .i64 (IntKind.i64.wrap (s2 + 1)))]) hf (by kernel_rfl) ?_
          clear hf; clear a; intro a hf
          refine wpList_nil ?_
          exact hK2 (IntKind.i64.wrap (s2 + 1)) _ _ ⟨_, hs.sel [1] rfl rfl, hf.keep (ks := [1, 2, 11, 12, 13]) (by kernel_rfl)⟩ hS
      · clear hS; intro KK3 k2 hK3 hS
        refine reg ?_
        refine st tbOk 3 [1, 2, 9, 10, 11, 12, 13, 23] (L' := [(1, .int .u64 addr), (2, .int .u64 size), (9, .pointer (some ⟨w1.heap.size, 0, none⟩)), (10, .int .u64 at_1), (11, .slice ao1 p_l.length cp1), (12, .int .i64 ((p_l.length : Nat) : Int)), (13, .int .i64 s2), (23, .bool (decide (size > 0)))]) hf (by kernel_rfl) ?_
        clear hf; clear a; intro a hf
        rcases Bool.eq_false_or_eq_true (decide (size > 0)) with hb2 | hb2
        · replace hS := of_t hb2 hS
          replace hf := Fr.cast (L' := [(1, .int .u64 addr), (2, .int .u64 size), (9, .pointer (some ⟨w1.heap.size, 0, none⟩)), (10, .int .u64 at_1), (11, .slice ao1 p_l.length cp1), (12, .int .i64 ((p_l.length : Nat) : Int)), (13, .int .i64 s2), (23, .bool true)]) hf (by rw [hb2])
          refine st tbOk 1 [1, 2, 9, 10, 11, 12, 13, 23, 24] (L' := [(1, .int .u64 addr), (2, .int .u64 size), (9, .pointer (some ⟨w1.heap.size, 0, none⟩)), (10, .int .u64 at_1), (11, .slice ao1 p_l.length cp1), (12, .int .i64 ((p_l.length : Nat) : Int)), (13, .int .i64 s2), (23, .bool true), (24, .pointer (some ⟨w1.heap.size, 0, none⟩))]) hf (by kernel_rfl) ?_
          clear hf; clear a; intro a hf
          refine ldC tbOk (T := 22) (hs.cbx 0 rfl) (LeH.refl _) 0 (.int .u32 ((gt p_l s2).1)) hf (by kernel_rfl) (by kernel_rfl) (by kernel_rfl) (by kernel_rfl) ?_
          clear hf; clear a; intro a hf
          replace hf := Fr.keep (ks := [1, 2, 9, 10, 11, 12, 13, 23, 25]) (L' := [(1, .int .u64 addr), (2, .int .u64 size), (9, .pointer (some ⟨w1.heap.size, 0, none⟩)), (10, .int .u64 at_1), (11, .slice ao1 p_l.length cp1), (12, .int .i64 ((p_l.length : Nat) : Int)), (13, .int .i64 s2), (23, .bool true), (25, .int .u32 ((gt p_l s2).1))]) hf (by kernel_rfl)
          refine st tbOk 3 [1, 2, 9, 10, 11, 12, 13, 28] (L' := [(1, .int .u64 addr), (2, .int .u64 size), (9, .pointer (some ⟨w1.heap.size, 0, none⟩)), (10, .int .u64 at_1), (11, .slice ao1 p_l.length cp1), (12, .int .i64 ((p_l.length : Nat) : Int)), (13, .int .i64 s2), (28, .bool (((gt p_l s2).1) == 1))]) hf (by kernel_rfl) ?_
          clear hf; clear a; intro a hf
          rcases Bool.eq_false_or_eq_true (((gt p_l s2).1) == 1) with hb3 | hb3
          · replace hS := of_t hb3 hS
            replace hf := Fr.cast (L' := [(1, .int .u64 addr), (2, .int .u64 size), (9, .pointer (some ⟨w1.heap.size, 0, none⟩)), (10, .int .u64 at_1), (11, .slice ao1 p_l.length cp1), (12, .int .i64 ((p_l.length : Nat) : Int)), (13, .int .i64 s2), (28, .bool true)]) hf (by rw [hb3])
            refine st tbOk 2 [1, 2, 9, 10, 11, 12, 13, 28, 29, 30] (L' := [(1, .int .u64 addr), (2, .int .u64 size), (9, .pointer (some ⟨w1.heap.size, 0, none⟩)), (10, .int .u64 at_1), (11, .slice ao1 p_l.length cp1), (12, .int .i64 ((p_l.length : Nat) : Int)), (13, .int .i64 s2), (28, .bool true), (29, .int .u64 addr), (30, .pointer (some ⟨w1.heap.size, 3, none⟩))]) hf (by kernel_rfl) ?_
            clear hf; clear a; intro a hf
            refine ldC tbOk (T := 23) (hs.cbx 0 rfl) (LeH.refl _) 3 (.int .u64 ((gt p_l s2).2.2.2.1)) hf (by kernel_rfl) (by kernel_rfl) (by kernel_rfl) (by kernel_rfl) ?_
            clear hf; clear a; intro a hf
            replace hf := Fr.keep (ks := [1, 2, 9, 10, 11, 12, 13, 28, 29, 31]) (L' := [(1, .int .u64 addr), (2, .int .u64 size), (9, .pointer (some ⟨w1.heap.size, 0, none⟩)), (10, .int .u64 at_1), (11, .slice ao1 p_l.length cp1), (12, .int .i64 ((p_l.length : Nat) : Int)), (13, .int .i64 s2), (28, .bool true), (29, .int .u64 addr), (31, .int .u64 ((gt p_l s2).2.2.2.1))]) hf (by kernel_rfl)
            refine st tbOk 3 [1, 2, 9, 10, 11, 12, 13, 34] (L' := [(1, .int .u64 addr), (2, .int .u64 size), (9, .pointer (some ⟨w1.heap.size, 0, none⟩)), (10, .int .u64 at_1), (11, .slice ao1 p_l.length cp1), (12, .int .i64 ((p_l.length : Nat) : Int)), (13, .int .i64 s2), (34, .bool (decide (addr ≥ ((gt p_l s2).2.2.2.1))))]) hf (by kernel_rfl) ?_
            clear hf; clear a; intro a hf
            rcases Bool.eq_false_or_eq_true (decide (addr ≥ ((gt p_l s2).2.2.2.1))) with hb4 | hb4
            · replace hS := of_t hb4 hS
              replace hf := Fr.cast (L' := [(1, .int .u64 addr), (2, .int .u64 size), (9, .pointer (some ⟨w1.heap.size, 0, none⟩)), (10, .int .u64 at_1), (11, .slice ao1 p_l.length cp1), (12, .int .i64 ((p_l.length : Nat) : Int)), (13, .int .i64 s2), (34, .bool true)]) hf (by rw [hb4])
              refine st tbOk 2 [1, 2, 9, 10, 11, 12, 13, 34, 35, 36] (L' := [(1, .int .u64 addr), (2, .int .u64 size), (9, .pointer (some ⟨w1.heap.size, 0, none⟩)), (10, .int .u64 at_1), (11, .slice ao1 p_l.length cp1), (12, .int .i64 ((p_l.length : Nat) : Int)), (13, .int .i64 s2), (34, .bool true), (35, .int .u64 at_1), (36, .pointer (some ⟨w1.heap.size, 4, none⟩))]) hf (by kernel_rfl) ?_
              clear hf; clear a; intro a hf
              refine ldC tbOk (T := 23) (hs.cbx 0 rfl) (LeH.refl _) 4 (.int .u64 ((gt p_l s2).2.2.2.2.1)) hf (by kernel_rfl) (by kernel_rfl) (by kernel_rfl) (by kernel_rfl) ?_
              clear hf; clear a; intro a hf
              replace hf := Fr.keep (ks := [1, 2, 9, 10, 11, 12, 13, 34, 35, 37]) (L' := [(1, .int .u64 addr), (2, .int .u64 size), (9, .pointer (some ⟨w1.heap.size, 0, none⟩)), (10, .int .u64 at_1), (11, .slice ao1 p_l.length cp1), (12, .int .i64 ((p_l.length : Nat) : Int)), (13, .int .i64 s2), (34, .bool true), (35, .int .u64 at_1), (37, .int .u64 ((gt p_l s2).2.2.2.2.1))]) hf (by kernel_rfl)
              refine st tbOk 3 [1, 2, 9, 10, 11, 12, 13, 40] (L' := [(1, .int .u64 addr), (2, .int .u64 size), (9, .pointer (some ⟨w1.heap.size, 0, none⟩)), (10, .int .u64 at_1), (11, .slice ao1 p_l.length cp1), (12, .int .i64 ((p_l.length : Nat) : Int)), (13, .int .i64 s2), (40, .bool (decide (at_1 ≤ ((gt p_l s2).2.2.2.2.1))))]) hf (by kernel_rfl) ?_
              clear hf; clear a; intro a hf
              rcases Bool.eq_false_or_eq_true (decide (at_1 ≤ ((gt p_l s2).2.2.2.2.1))) with hb5 | hb5
              · replace hS := of_t hb5 hS
                replace hf := Fr.cast (L' := [(1, .int .u64 addr), (2, .int .u64 size), (9, .pointer (some ⟨w1.heap.size, 0, none⟩)), (10, .int .u64 at_1), (11, .slice ao1 p_l.length cp1), (12, .int .i64 ((p_l.length : Nat) : Int)), (13, .int .i64 s2), (40, .bool true)]) hf (by rw [hb5])
                refine st tbOk 2 [1, 2, 9, 10, 11, 12, 13, 40, 41, 42] (L' := [(1, .int .u64 addr), (2, .int .u64 size), (9, .pointer (some ⟨w1.heap.size, 0, none⟩)), (10, .int .u64 at_1), (11, .slice ao1 p_l.length cp1), (12, .int .i64 ((p_l.length : Nat) : Int)), (13, .int .i64 s2), (40, .bool true), (41, .int .u64 size), (42, .pointer (some ⟨w1.heap.size, 4, none⟩))]) hf (by kernel_rfl) ?_
                clear hf; clear a; intro a hf
                refine ldC tbOk (T := 23) (hs.cbx 0 rfl) (LeH.refl _) 4 (.int .u64 ((gt p_l s2).2.2.2.2.1)) hf (by kernel_rfl) (by kernel_rfl) (by kernel_rfl) (by kernel_rfl) ?_
                clear hf; clear a; intro a hf
                replace hf := Fr.keep (ks := [1, 2, 9, 10, 11, 12, 13, 40, 41, 43]) (L' := [(1, .int .u64 addr), (2, .int .u64 size), (9, .pointer (some ⟨w1.heap.size, 0, none⟩)), (10, .int .u64 at_1), (11, .slice ao1 p_l.length cp1), (12, .int .i64 ((p_l.length : Nat) : Int)), (13, .int .i64 s2), (40, .bool true), (41, .int .u64 size), (43, .int .u64 ((gt p_l s2).2.2.2.2.1))]) hf (by kernel_rfl)
                refine st tbOk 4 [1, 2, 9, 10, 11, 12, 13, 47] (L' := [(1, .int .u64 addr), (2, .int .u64 size), (9, .pointer (some ⟨w1.heap.size, 0, none⟩)), (10, .int .u64 at_1), (11, .slice ao1 p_l.length cp1), (12, .int .i64 ((p_l.length : Nat) : Int)), (13, .int .i64 s2), (47, .bool (decide (size ≤ (IntKind.u64.wrap (((gt p_l s2).2.2.2.2.1) - at_1)))))]) hf (by kernel_rfl) ?_
                clear hf; clear a; intro a hf
                refine wpList_nil ?_
                exact hK3 (decide (size ≤ (IntKind.u64.wrap (((gt p_l s2).2.2.2.2.1) - at_1)))) _ _ ⟨_, hs.sel [0, 1] rfl rfl, hf.keep (ks := [1, 2, 9, 10, 11, 12, 13, 47]) (by kernel_rfl)⟩ hS
              · replace hS := of_f hb5 hS
                replace hf := Fr.cast (L' := [(1, .int .u64 addr), (2, .int .u64 size), (9, .pointer (some ⟨w1.heap.size, 0, none⟩)), (10, .int .u64 at_1), (11, .slice ao1 p_l.length cp1), (12, .int .i64 ((p_l.length : Nat) : Int)), (13, .int .i64 s2), (40, .bool false)]) hf (by rw [hb5])
                refine st tbOk 7 [1, 2, 9, 10, 11, 12, 13, 47] (L' := [(1, .int .u64 addr), (2, .int .u64 size), (9, .pointer (some ⟨w1.heap.size, 0, none⟩)), (10, .int .u64 at_1), (11, .slice ao1 p_l.length cp1), (12, .int .i64 ((p_l.length : Nat) : Int)), (13, .int .i64 s2), (47, .bool false)]) hf (by kernel_rfl) ?_
                clear hf; clear a; intro a hf
                refine wpList_nil ?_
                exact hK3 false _ _ ⟨_, hs.sel [0, 1] rfl rfl, hf.keep (ks := [1, 2, 9, 10, 11, 12, 13, 47]) (by kernel_rfl)⟩ hS
            · replace hS := of_f hb4 hS
              replace hf := Fr.cast (L' := [(1, .int .u64 addr), (2, .int .u64 size), (9, .pointer (some ⟨w1.heap.size, 0, none⟩)), (10, .int .u64 at_1), (11, .slice ao1 p_l.length cp1), (12, .int .i64 ((p_l.length : Nat) : Int)), (13, .int .i64 s2), (34, .bool false)]) hf (by rw [hb4])
              refine st tbOk 13 [1, 2, 9, 10, 11, 12, 13, 47] (L' := [(1, .int .u64 addr), (2, .int .u64 size), (9, .pointer (some ⟨w1.heap.size, 0, none⟩)), (10, .int .u64 at_1), (11, .slice ao1 p_l.length cp1), (12, .int .i64 ((p_l.length : Nat) : Int)), (13, .int .i64 s2), (47, .bool false)]) hf (by kernel_rfl) ?_
              clear hf; clear a; intro a hf
              refine wpList_nil ?_
              exact hK3 false _ _ ⟨_, hs.sel [0, 1] rfl rfl, hf.keep (ks := [1, 2, 9, 10, 11, 12, 13, 47]) (by kernel_rfl)⟩ hS
          · replace hS := of_f hb3 hS
            replace hf := Fr.cast (L' := [(1, .int .u64 addr), (2, .int .u64 size), (9, .pointer (some ⟨w1.heap.size, 0, none⟩)), (10, .int .u64 at_1), (11, .slice ao1 p_l.length cp1), (12, .int .i64 ((p_l.length : Nat) : Int)), (13, .int .i64 s2), (28, .bool false)]) hf (by rw [hb3])
            refine st tbOk 19 [1, 2, 9, 10, 11, 12, 13, 47] (L' := [(1, .int .u64 addr), (2, .int .u64 size), (9, .pointer (some ⟨w1.heap.size, 0, none⟩)), (10, .int .u64 at_1), (11, .slice ao1 p_l.length cp1), (12, .int .i64 ((p_l.length : Nat) : Int)), (13, .int .i64 s2), (47, .bool false)]) hf (by kernel_rfl) ?_
            clear hf; clear a; intro a hf
            refine wpList_nil ?_
            exact hK3 false _ _ ⟨_, hs.sel [0, 1] rfl rfl, hf.keep (ks := [1, 2, 9, 10, 11, 12, 13, 47]) (by kernel_rfl)⟩ hS
        · replace hS := of_f hb2 hS
          replace hf := Fr.cast (L' := [(1, .int .u64 addr), (2, .int .u64 size), (9, .pointer (some ⟨w1.heap.size, 0, none⟩)), (10, .int .u64 at_1), (11, .slice ao1 p_l.length cp1), (12, .int .i64 ((p_l.length : Nat) : Int)), (13, .int .i64 s2), (23, .bool false)]) hf (by rw [hb2])
          refine st tbOk 24 [1, 2, 9, 10, 11, 12, 13, 47] (L' := [(1, .int .u64 addr), (2, .int .u64 size), (9, .pointer (some ⟨w1.heap.size, 0, none⟩)), (10, .int .u64 at_1), (11, .slice ao1 p_l.length cp1), (12, .int .i64 ((p_l.length : Nat) : Int)), (13, .int .i64 s2), (47, .bool false)]) hf (by kernel_rfl) ?_
          clear hf; clear a; intro a hf
          refine wpList_nil ?_
          exact hK3 false _ _ ⟨_, hs.sel [0, 1] rfl rfl, hf.keep (ks := [1, 2, 9, 10, 11, 12, 13, 47]) (by kernel_rfl)⟩ hS
    · replace hS := of_f hb1 hS
      refine wp_exit ?_
      exact hK1 () _ _ ⟨_, hs.sel [] rfl rfl, hf.keep (ks := []) (by kernel_rfl)⟩ hS

set_option maxHeartbeats 4000000 in
theorem octets_Down_ok {w : World} {F : SH} {p_x : Int} {p_a : Int}  (hs : Sep w F (blks []) w F []) {r : Int × Int} (hS : octets_Down p_x p_a = some r) :
    Calls Try.prog 47 [.int .u64 p_x, .int .u64 p_a].toArray w (Gives (fun u w' => ∃ (F' : SH), u = .tuple #[.int .u64 r.1, .int .i64 r.2] ∧ Sep w F (blks []) w' F' [])) := by
  generalize (blks []) = R at hs ⊢
  unfold octets_Down at hS
  refine fn_ok (vs := [.int .u64 p_x, .int .u64 p_a]) Try.func47 rfl 19 Try.ntmps47 (Nat.le_of_ble_eq_true rfl) ?_
  intro a hf
  replace hf := Fr.cast (L' := [(0, .int .u64 p_x), (1, .int .u64 p_a)]) hf (by kernel_rfl)
  refine sq ?_
  refine reg ?_
  refine st tbOk 2 [0, 1] (L' := [(0, .int .u64 p_x), (1, .int .u64 p_a)]) hf (by kernel_rfl) ?_
  clear hf; clear a; intro a hf
  refine wpList_nil ?_
  refine sq ?_
  refine sq ?_
  refine ctj (fun (s1 : Bool) (a : Act) (w' : World) => ∃ (F1 : SH), Sep w F R w' F1 [] ∧ Fr 19 [(0, .int .u64 p_x), (1, .int .u64 p_a), (14, .bool s1)] a) hS ?_ ?_
  · clear hS hf hs; clear a; intro s1 a w1 hM hS
    obtain ⟨F1, hs, hf⟩ := hM
    refine cnd (b := s1) hf (by kernel_rfl) (fun hb2 => ?_) (fun hb2 => ?_)
    · replace hS := of_t hb2 hS
      refine sq ?_
      refine reg ?_
      refine st tbOk 2 [4, 5] (L' := [(4, .int .u64 0), (5, .int .i64 1)]) hf (by kernel_rfl) ?_
      clear hf; clear a; intro a hf
      refine wpList_nil ?_
      have hr := Option.some.inj hS; subst hr
      refine wp_ret ?_
      exact ret_ok hf (vs := [.int .u64 0, .int .i64 1]) (by kernel_rfl) ⟨_, rfl, hs.sel [] rfl rfl⟩
    · replace hS := of_f hb2 hS
      refine wp_skip ?_
      refine sq ?_
      refine reg ?_
      refine st tbOk 6 [4, 5] (L' := [(4, .int .u64 (bandn .u64 p_x (IntKind.u64.wrap (p_a - 1)))), (5, .int .i64 0)]) hf (by kernel_rfl) ?_
      clear hf; clear a; intro a hf
      refine wpList_nil ?_
      have hr := Option.some.inj hS; subst hr
      refine wp_ret ?_
      exact ret_ok hf (vs := [.int .u64 (bandn .u64 p_x (IntKind.u64.wrap (p_a - 1))), .int .i64 0]) (by kernel_rfl) ⟨_, rfl, hs.sel [] rfl rfl⟩
  · clear hS; intro KK1 k1 hK1 hS
    refine reg ?_
    refine st tbOk 3 [0, 1, 8] (L' := [(0, .int .u64 p_x), (1, .int .u64 p_a), (8, .bool (p_a == 0))]) hf (by kernel_rfl) ?_
    clear hf; clear a; intro a hf
    rcases Bool.eq_false_or_eq_true (p_a == 0) with hb1 | hb1
    · replace hS := of_t hb1 hS
      replace hf := Fr.cast (L' := [(0, .int .u64 p_x), (1, .int .u64 p_a), (8, .bool true)]) hf (by rw [hb1])
      refine st tbOk 6 [0, 1, 14] (L' := [(0, .int .u64 p_x), (1, .int .u64 p_a), (14, .bool true)]) hf (by kernel_rfl) ?_
      clear hf; clear a; intro a hf
      refine wpList_nil ?_
      exact hK1 true _ _ ⟨_, hs.sel [] rfl rfl, hf.keep (ks := [0, 1, 14]) (by kernel_rfl)⟩ hS
    · replace hS := of_f hb1 hS
      replace hf := Fr.cast (L' := [(0, .int .u64 p_x), (1, .int .u64 p_a), (8, .bool false)]) hf (by rw [hb1])
      refine st tbOk 6 [0, 1, 14] (L' := [(0, .int .u64 p_x), (1, .int .u64 p_a), (14, .bool ((band .u64 p_a (IntKind.u64.wrap (p_a - 1))) != 0))]) hf (by kernel_rfl) ?_
      clear hf; clear a; intro a hf
      refine wpList_nil ?_
      exact hK1 ((band .u64 p_a (IntKind.u64.wrap (p_a - 1))) != 0) _ _ ⟨_, hs.sel [] rfl rfl, hf.keep (ks := [0, 1, 14]) (by kernel_rfl)⟩ hS

set_option maxHeartbeats 4000000 in
theorem octets_Up_ok {w : World} {F : SH} {p_x : Int} {p_a : Int}  (hs : Sep w F (blks []) w F []) {r : Int × Int} (hS : octets_Up p_x p_a = some r) :
    Calls Try.prog 48 [.int .u64 p_x, .int .u64 p_a].toArray w (Gives (fun u w' => ∃ (F' : SH), u = .tuple #[.int .u64 r.1, .int .i64 r.2] ∧ Sep w F (blks []) w' F' [])) := by
  generalize (blks []) = R at hs ⊢
  unfold octets_Up at hS
  refine fn_ok (vs := [.int .u64 p_x, .int .u64 p_a]) Try.func48 rfl 32 Try.ntmps48 (Nat.le_of_ble_eq_true rfl) ?_
  intro a hf
  replace hf := Fr.cast (L' := [(0, .int .u64 p_x), (1, .int .u64 p_a)]) hf (by kernel_rfl)
  refine sq ?_
  refine reg ?_
  refine st tbOk 2 [0, 1] (L' := [(0, .int .u64 p_x), (1, .int .u64 p_a)]) hf (by kernel_rfl) ?_
  clear hf; clear a; intro a hf
  refine wpList_nil ?_
  refine sq ?_
  refine reg ?_
  refine st tbOk 2 [0, 1, 9, 10] (L' := [(0, .int .u64 p_x), (1, .int .u64 p_a), (9, .int .u64 p_x), (10, .int .u64 p_a)]) hf (by kernel_rfl) ?_
  clear hf; clear a; intro a hf
  have hT := of_bd hS; clear hS; obtain ⟨z1, hz1, hS⟩ := hT
  refine clV ent47 (vs := [.int .u64 p_x, .int .u64 p_a]) (caps := []) hf (by kernel_rfl) (by kernel_rfl) (by kernel_rfl) (by kernel_rfl) (octets_Down_ok (p_x := p_x) (p_a := p_a) (hs.enter [] rfl rfl) hz1) ?_
  clear hf; clear a; intro v w1 a hT hf; obtain ⟨F1, rfl, hr⟩ := hT
  replace hs : Sep w F R w1 F1 [] := hs.back [] [] rfl rfl rfl rfl hr
  clear hr
  replace hf := Fr.keep (ks := [0, 1, 11]) (L' := [(0, .int .u64 p_x), (1, .int .u64 p_a), (11, .tuple #[.int .u64 z1.1, .int .i64 z1.2])]) hf (by kernel_rfl)
  refine st tbOk 5 [0, 1, 6, 7] (L' := [(0, .int .u64 p_x), (1, .int .u64 p_a), (6, .int .u64 z1.1), (7, .int .i64 z1.2)]) hf (by kernel_rfl) ?_
  clear hf; clear a; intro a hf
  refine wpList_nil ?_
  refine sq ?_
  refine blk ?_
  refine sq ?_
  refine ctj (fun (s1 : Bool) (a : Act) (w' : World) => ∃ (F2 : SH), Sep w F R w' F2 [] ∧ Fr 32 [(1, .int .u64 p_a), (6, .int .u64 z1.1), (7, .int .i64 z1.2), (14, .bool s1)] a) hS ?_ ?_
  · clear hS hf hs; clear a; intro s1 a w2 hM hS
    obtain ⟨F2, hs, hf⟩ := hM
    refine cnd (b := s1) hf (by kernel_rfl) (fun hb2 => ?_) (fun hb2 => ?_)
    · replace hS := of_t hb2 hS
      refine sq ?_
      refine reg ?_
      refine st tbOk 4 [4, 5] (L' := [(4, .int .u64 z1.1), (5, .int .i64 z1.2)]) hf (by kernel_rfl) ?_
      clear hf; clear a; intro a hf
      refine wpList_nil ?_
      have hr := Option.some.inj hS; subst hr
      refine wp_ret ?_
      exact ret_ok hf (vs := [.int .u64 z1.1, .int .i64 z1.2]) (by kernel_rfl) ⟨_, rfl, hs.sel [] rfl rfl⟩
    · replace hS := of_f hb2 hS
      refine sq ?_
      refine reg ?_
      refine st tbOk 5 [1, 6, 24] (L' := [(1, .int .u64 p_a), (6, .int .u64 z1.1), (24, .bool ((IntKind.u64.wrap (z1.1 + p_a)) == 0))]) hf (by kernel_rfl) ?_
      clear hf; clear a; intro a hf
      refine wpList_nil ?_
      refine cnd (b := (IntKind.u64.wrap (z1.1 + p_a)) == 0) hf (by kernel_rfl) (fun hb3 => ?_) (fun hb3 => ?_)
      · replace hS := of_t hb3 hS
        refine sq ?_
        refine reg ?_
        refine st tbOk 2 [4, 5] (L' := [(4, .int .u64 0), (5, .int .i64 10)]) hf (by kernel_rfl) ?_
        clear hf; clear a; intro a hf
        refine wpList_nil ?_
        have hr := Option.some.inj hS; subst hr
        refine wp_ret ?_
        exact ret_ok hf (vs := [.int .u64 0, .int .i64 10]) (by kernel_rfl) ⟨_, rfl, hs.sel [] rfl rfl⟩
      · replace hS := of_f hb3 hS
        refine wp_skip ?_
        refine sq ?_
        refine reg ?_
        refine st tbOk 5 [4, 5] (L' := [(4, .int .u64 (IntKind.u64.wrap (z1.1 + p_a))), (5, .int .i64 0)]) hf (by kernel_rfl) ?_
        clear hf; clear a; intro a hf
        refine wpList_nil ?_
        have hr := Option.some.inj hS; subst hr
        refine wp_ret ?_
        exact ret_ok hf (vs := [.int .u64 (IntKind.u64.wrap (z1.1 + p_a)), .int .i64 0]) (by kernel_rfl) ⟨_, rfl, hs.sel [] rfl rfl⟩
  · clear hS; intro KK1 k1 hK1 hS
    refine reg ?_
    refine st tbOk 3 [0, 1, 6, 7, 17] (L' := [(0, .int .u64 p_x), (1, .int .u64 p_a), (6, .int .u64 z1.1), (7, .int .i64 z1.2), (17, .bool (z1.2 != 0))]) hf (by kernel_rfl) ?_
    clear hf; clear a; intro a hf
    rcases Bool.eq_false_or_eq_true (z1.2 != 0) with hb1 | hb1
    · replace hS := of_t hb1 hS
      replace hf := Fr.cast (L' := [(0, .int .u64 p_x), (1, .int .u64 p_a), (6, .int .u64 z1.1), (7, .int .i64 z1.2), (17, .bool true)]) hf (by rw [hb1])
      refine st tbOk 5 [1, 6, 7, 14] (L' := [(1, .int .u64 p_a), (6, .int .u64 z1.1), (7, .int .i64 z1.2), (14, .bool true)]) hf (by kernel_rfl) ?_
      clear hf; clear a; intro a hf
      refine wpList_nil ?_
      exact hK1 true _ _ ⟨_, hs.sel [] rfl rfl, hf.keep (ks := [1, 6, 7, 14]) (by kernel_rfl)⟩ hS
    · replace hS := of_f hb1 hS
      replace hf := Fr.cast (L' := [(0, .int .u64 p_x), (1, .int .u64 p_a), (6, .int .u64 z1.1), (7, .int .i64 z1.2), (17, .bool false)]) hf (by rw [hb1])
      refine st tbOk 5 [1, 6, 7, 14] (L' := [(1, .int .u64 p_a), (6, .int .u64 z1.1), (7, .int .i64 z1.2), (14, .bool (z1.1 == p_x))]) hf (by kernel_rfl) ?_
      clear hf; clear a; intro a hf
      refine wpList_nil ?_
      exact hK1 (z1.1 == p_x) _ _ ⟨_, hs.sel [] rfl rfl, hf.keep (ks := [1, 6, 7, 14]) (by kernel_rfl)⟩ hS

set_option maxHeartbeats 4000000 in
theorem segs_pages_ok {w : World} {F : SH} {p_s : Int × Int × Int × Int × Int × Int × Int}  (hs : Sep w F (blks []) w F []) {r : Int × Int} (hS : segs_pages p_s = some r) :
    Calls Try.prog 34 [.agg #[.int .u32 p_s.1, .int .u32 p_s.2.1, .int .u64 p_s.2.2.1, .int .u64 p_s.2.2.2.1, .int .u64 p_s.2.2.2.2.1, .int .u64 p_s.2.2.2.2.2.1, .int .u64 p_s.2.2.2.2.2.2]].toArray w (Gives (fun u w' => ∃ (F' : SH), u = .tuple #[.int .u64 r.1, .int .u64 r.2] ∧ Sep w F (blks []) w' F' [])) := by
  generalize (blks []) = R at hs ⊢
  unfold segs_pages at hS
  refine fn_ok (vs := [.agg #[.int .u32 p_s.1, .int .u32 p_s.2.1, .int .u64 p_s.2.2.1, .int .u64 p_s.2.2.2.1, .int .u64 p_s.2.2.2.2.1, .int .u64 p_s.2.2.2.2.2.1, .int .u64 p_s.2.2.2.2.2.2]]) Try.func34 rfl 25 Try.ntmps34 (Nat.le_of_ble_eq_true rfl) ?_
  intro a hf
  replace hf := Fr.cast (L' := [(0, .agg #[.int .u32 p_s.1, .int .u32 p_s.2.1, .int .u64 p_s.2.2.1, .int .u64 p_s.2.2.2.1, .int .u64 p_s.2.2.2.2.1, .int .u64 p_s.2.2.2.2.2.1, .int .u64 p_s.2.2.2.2.2.2])]) hf (by kernel_rfl)
  refine sq ?_
  refine reg ?_
  refine bx (T := 25) [.int .u32 p_s.1, .int .u32 p_s.2.1, .int .u64 p_s.2.2.1, .int .u64 p_s.2.2.2.1, .int .u64 p_s.2.2.2.2.1, .int .u64 p_s.2.2.2.2.2.1, .int .u64 p_s.2.2.2.2.2.2] (v := .agg #[.int .u32 p_s.1, .int .u32 p_s.2.1, .int .u64 p_s.2.2.1, .int .u64 p_s.2.2.2.1, .int .u64 p_s.2.2.2.2.1, .int .u64 p_s.2.2.2.2.2.1, .int .u64 p_s.2.2.2.2.2.2]) rfl (by kernel_rfl) hf (by kernel_rfl) (by kernel_rfl) (by kernel_rfl) ?_
  clear hf; clear a; intro w1 a hb hx _ hf
  replace hs : Sep w F R w1 F [.box w.heap.size 25 [.int .u32 p_s.1, .int .u32 p_s.2.1, .int .u64 p_s.2.2.1, .int .u64 p_s.2.2.2.1, .int .u64 p_s.2.2.2.2.1, .int .u64 p_s.2.2.2.2.2.1, .int .u64 p_s.2.2.2.2.2.2]] := hs.newBox hb hx
  clear hb hx
  replace hf := Fr.keep (ks := [1]) (L' := [(1, .pointer (some ⟨w.heap.size, 0, none⟩))]) hf (by kernel_rfl)
  refine st tbOk 2 [1] (L' := [(1, .pointer (some ⟨w.heap.size, 0, none⟩))]) hf (by kernel_rfl) ?_
  clear hf; clear a; intro a hf
  refine wpList_nil ?_
  refine sq ?_
  refine reg ?_
  refine st tbOk 1 [1, 9] (L' := [(1, .pointer (some ⟨w.heap.size, 0, none⟩)), (9, .pointer (some ⟨w.heap.size, 3, none⟩))]) hf (by kernel_rfl) ?_
  clear hf; clear a; intro a hf
  refine ldC tbOk (T := 23) (hs.cbx 0 rfl) (LeH.refl _) 3 (.int .u64 p_s.2.2.2.1) hf (by kernel_rfl) (by kernel_rfl) (by kernel_rfl) (by kernel_rfl) ?_
  clear hf; clear a; intro a hf
  replace hf := Fr.keep (ks := [1, 10]) (L' := [(1, .pointer (some ⟨w.heap.size, 0, none⟩)), (10, .int .u64 p_s.2.2.2.1)]) hf (by kernel_rfl)
  have hT := of_bd hS; clear hS; obtain ⟨z1, hz1, hS⟩ := hT
  refine clV ent47 (vs := [.int .u64 p_s.2.2.2.1, .int .u64 256]) (caps := []) hf (by kernel_rfl) (by kernel_rfl) (by kernel_rfl) (by kernel_rfl) (octets_Down_ok (p_x := p_s.2.2.2.1) (p_a := 256) (hs.enter [] rfl rfl) hz1) ?_
  clear hf; clear a; intro v w2 a hT hf; obtain ⟨F1, rfl, hr⟩ := hT
  replace hs : Sep w F R w2 F1 [.box w.heap.size 25 [.int .u32 p_s.1, .int .u32 p_s.2.1, .int .u64 p_s.2.2.1, .int .u64 p_s.2.2.2.1, .int .u64 p_s.2.2.2.2.1, .int .u64 p_s.2.2.2.2.2.1, .int .u64 p_s.2.2.2.2.2.2]] := hs.back [] [0] rfl rfl rfl rfl hr
  clear hr
  replace hf := Fr.keep (ks := [1, 11]) (L' := [(1, .pointer (some ⟨w.heap.size, 0, none⟩)), (11, .tuple #[.int .u64 z1.1, .int .i64 z1.2])]) hf (by kernel_rfl)
  refine st tbOk 5 [1, 4] (L' := [(1, .pointer (some ⟨w.heap.size, 0, none⟩)), (4, .int .u64 z1.1)]) hf (by kernel_rfl) ?_
  clear hf; clear a; intro a hf
  refine wpList_nil ?_
  refine sq ?_
  refine reg ?_
  refine st tbOk 1 [1, 4, 15] (L' := [(1, .pointer (some ⟨w.heap.size, 0, none⟩)), (4, .int .u64 z1.1), (15, .pointer (some ⟨w.heap.size, 3, none⟩))]) hf (by kernel_rfl) ?_
  clear hf; clear a; intro a hf
  refine ldC tbOk (T := 23) (hs.cbx 0 rfl) (LeH.refl _) 3 (.int .u64 p_s.2.2.2.1) hf (by kernel_rfl) (by kernel_rfl) (by kernel_rfl) (by kernel_rfl) ?_
  clear hf; clear a; intro a hf
  replace hf := Fr.keep (ks := [1, 4, 16]) (L' := [(1, .pointer (some ⟨w.heap.size, 0, none⟩)), (4, .int .u64 z1.1), (16, .int .u64 p_s.2.2.2.1)]) hf (by kernel_rfl)
  refine st tbOk 1 [4, 16, 17] (L' := [(4, .int .u64 z1.1), (16, .int .u64 p_s.2.2.2.1), (17, .pointer (some ⟨w.heap.size, 5, none⟩))]) hf (by kernel_rfl) ?_
  clear hf; clear a; intro a hf
  refine ldC tbOk (T := 23) (hs.cbx 0 rfl) (LeH.refl _) 5 (.int .u64 p_s.2.2.2.2.2.1) hf (by kernel_rfl) (by kernel_rfl) (by kernel_rfl) (by kernel_rfl) ?_
  clear hf; clear a; intro a hf
  replace hs : Sep w F R w2 F1 [] := hs.sel [] rfl rfl
  replace hf := Fr.keep (ks := [4, 16, 18]) (L' := [(4, .int .u64 z1.1), (16, .int .u64 p_s.2.2.2.1), (18, .int .u64 p_s.2.2.2.2.2.1)]) hf (by kernel_rfl)
  refine st tbOk 1 [4, 19] (L' := [(4, .int .u64 z1.1), (19, .int .u64 (IntKind.u64.wrap (p_s.2.2.2.1 + p_s.2.2.2.2.2.1)))]) hf (by kernel_rfl) ?_
  clear hf; clear a; intro a hf
  have hT := of_bd hS; clear hS; obtain ⟨z2, hz2, hS⟩ := hT
  refine clV ent48 (vs := [.int .u64 (IntKind.u64.wrap (p_s.2.2.2.1 + p_s.2.2.2.2.2.1)), .int .u64 256]) (caps := []) hf (by kernel_rfl) (by kernel_rfl) (by kernel_rfl) (by kernel_rfl) (octets_Up_ok (p_x := IntKind.u64.wrap (p_s.2.2.2.1 + p_s.2.2.2.2.2.1)) (p_a := 256) (hs.enter [] rfl rfl) hz2) ?_
  clear hf; clear a; intro v w3 a hT hf; obtain ⟨F2, rfl, hr⟩ := hT
  replace hs : Sep w F R w3 F2 [] := hs.back [] [] rfl rfl rfl rfl hr
  clear hr
  replace hf := Fr.keep (ks := [4, 20]) (L' := [(4, .int .u64 z1.1), (20, .tuple #[.int .u64 z2.1, .int .i64 z2.2])]) hf (by kernel_rfl)
  refine st tbOk 5 [4, 6] (L' := [(4, .int .u64 z1.1), (6, .int .u64 z2.1)]) hf (by kernel_rfl) ?_
  clear hf; clear a; intro a hf
  refine wpList_nil ?_
  refine sq ?_
  refine reg ?_
  refine st tbOk 4 [2, 3] (L' := [(2, .int .u64 z1.1), (3, .int .u64 z2.1)]) hf (by kernel_rfl) ?_
  clear hf; clear a; intro a hf
  refine wpList_nil ?_
  have hr := Option.some.inj hS; subst hr
  refine wp_ret ?_
  exact ret_ok hf (vs := [.int .u64 z1.1, .int .u64 z2.1]) (by kernel_rfl) ⟨_, rfl, hs.sel [] rfl rfl⟩

set_option maxHeartbeats 4000000 in
theorem segs_Span_ok {w : World} {F : SH} {p_l : List (Int × Int × Int × Int × Int × Int × Int)} {ao1 : Option Addr} {cp1 : Nat} (hs : Sep w F (blks [.ro ty24 (.slice ao1 p_l.length cp1) p_l]) w F [.ro ty24 (.slice ao1 p_l.length cp1) p_l]) {r : Int × Int} (hS : segs_Span p_l = some r) :
    Calls Try.prog 24 [.slice ao1 p_l.length cp1].toArray w (Gives (fun u w' => ∃ (F' : SH), u = .tuple #[.int .u64 r.1, .int .u64 r.2] ∧ Sep w F (blks [.ro ty24 (.slice ao1 p_l.length cp1) p_l]) w' F' [])) := by
  generalize (blks [.ro ty24 (.slice ao1 p_l.length cp1) p_l]) = R at hs ⊢
  unfold segs_Span at hS
  refine fn_ok (vs := [.slice ao1 p_l.length cp1]) Try.func24 rfl 39 Try.ntmps24 (Nat.le_of_ble_eq_true rfl) ?_
  intro a hf
  replace hf := Fr.cast (L' := [(0, .slice ao1 p_l.length cp1)]) hf (by kernel_rfl)
  refine sq ?_
  refine reg ?_
  refine st tbOk 2 [0] (L' := [(0, .slice ao1 p_l.length cp1)]) hf (by kernel_rfl) ?_
  clear hf; clear a; intro a hf
  refine wpList_nil ?_
  refine sq ?_
  refine reg ?_
  refine st tbOk 3 [0, 4, 5, 6] (L' := [(0, .slice ao1 p_l.length cp1), (4, .int .u64 0), (5, .int .u64 0), (6, .bool false)]) hf (by kernel_rfl) ?_
  clear hf; clear a; intro a hf
  refine wpList_nil ?_
  refine sq ?_
  refine sq ?_
  refine reg ?_
  refine st tbOk 3 [4, 5, 6, 11, 12, 13] (L' := [(4, .int .u64 0), (5, .int .u64 0), (6, .bool false), (11, .slice ao1 p_l.length cp1), (12, .int .i64 ((p_l.length : Nat) : Int)), (13, .int .i64 0)]) hf (by kernel_rfl) ?_
  clear hf; clear a; intro a hf
  refine wpList_nil ?_
  refine ctj (fun (s1 : Int × Int) (a : Act) (w' : World) => ∃ (F1 : SH), Sep w F R w' F1 [] ∧ Fr 39 [(4, .int .u64 s1.1), (5, .int .u64 s1.2)] a) hS ?_ ?_
  · clear hS hf hs; clear a; intro s1 a w9 hM hS
    obtain ⟨F1, hs, hf⟩ := hM
    refine sq ?_
    refine reg ?_
    refine st tbOk 4 [2, 3] (L' := [(2, .int .u64 s1.1), (3, .int .u64 s1.2)]) hf (by kernel_rfl) ?_
    clear hf; clear a; intro a hf
    refine wpList_nil ?_
    have hr := Option.some.inj hS; subst hr
    refine wp_ret ?_
    exact ret_ok hf (vs := [.int .u64 s1.1, .int .u64 s1.2]) (by kernel_rfl) ⟨_, rfl, hs.sel [] rfl rfl⟩
  · clear hS; intro KK1 k1 hK1 hS
    refine blk ?_
    refine lp (st := (0, 0, false, 0)) (fun (s2 : Int × Int × Bool × Int) (a : Act) (w' : World) => ∃ (F2 : SH), Sep w F R w' F2 [.ro ty24 (.slice ao1 p_l.length cp1) p_l] ∧ Fr 39 [(4, .int .u64 s2.1), (5, .int .u64 s2.2.1), (6, .bool s2.2.2.1), (11, .slice ao1 p_l.length cp1), (12, .int .i64 ((p_l.length : Nat) : Int)), (13, .int .i64 s2.2.2.2)] a) ?_ ⟨_, hs.sel [0] rfl rfl, hf.keep (ks := [4, 5, 6, 11, 12, 13]) (by kernel_rfl)⟩ hS
    clear hS hf hs; clear a
    intro rec1 KK2 hK2 s2 a w1 hM hS
    obtain ⟨F2, hs, hf⟩ := hM
    refine sq ?_
    refine reg ?_
    refine st tbOk 1 [4, 5, 6, 11, 12, 13, 14] (L' := [(4, .int .u64 s2.1), (5, .int .u64 s2.2.1), (6, .bool s2.2.2.1), (11, .slice ao1 p_l.length cp1), (12, .int .i64 ((p_l.length : Nat) : Int)), (13, .int .i64 s2.2.2.2), (14, .bool (decide (s2.2.2.2 < ((p_l.length : Nat) : Int))))]) hf (by kernel_rfl) ?_
    clear hf; clear a; intro a hf
    refine wpList_nil ?_
    refine sq ?_
    refine cnd (b := decide (s2.2.2.2 < ((p_l.length : Nat) : Int))) hf (by kernel_rfl) (fun hb1 => ?_) (fun hb1 => ?_)
    · replace hS := of_t hb1 hS
      refine wp_skip ?_
      refine sq ?_
      refine ctj (fun (s3 : Int × Int × Bool) (a : Act) (w' : World) => ∃ (F3 : SH), Sep w F R w' F3 [.ro ty24 (.slice ao1 p_l.length cp1) p_l] ∧ Fr 39 [(4, .int .u64 s3.1), (5, .int .u64 s3.2.1), (6, .bool s3.2.2), (11, .slice ao1 p_l.length cp1), (12, .int .i64 ((p_l.length : Nat) : Int)), (13, .int .i64 s2.2.2.2)] a) hS ?_ ?_
      · clear hS hf hs; clear a; intro s3 a w8 hM hS
        obtain ⟨F3, hs, hf⟩ := hM
        refine reg ?_
        refine st tbOk 2 [4, 5, 6, 11, 12, 13] (L' := [(4, .int .u64 s3.1), (5, .int .u64 s3.2.1), (6, .bool s3.2.2), (11, .slice ao1 p_l.length cp1), (12, .int .i64 ((p_l.length : Nat) : Int)), (13, .int .i64 (IntKind.i64.wrap (s2.2.2.2 + 1)))]) hf (by kernel_rfl) ?_
        clear hf; clear a; intro a hf
        refine wpList_nil ?_
        exact hK2 (s3.1, s3.2.1, s3.2.2, IntKind.i64.wrap (s2.2.2.2 + 1)) _ _ ⟨_, hs.sel [0] rfl rfl, hf.keep (ks := [4, 5, 6, 11, 12, 13]) (by kernel_rfl)⟩ hS
      · clear hS; intro KK3 k2 hK3 hS
        refine blk ?_
        refine sq ?_
        refine reg ?_
        have hT := of_gd hS; clear hS; obtain ⟨hc1, hS⟩ := hT
        refine ixR tbOk u33 i25 rfl rfl ((hs.ro 0 rfl).ra (LeH.refl _)) (k := .i64) (n := s2.2.2.2) hc1 hf (by kernel_rfl) (by kernel_rfl) (by kernel_rfl) (by kernel_rfl) ?_
        clear hf; clear a; intro pb1 po1 c1 a hp1 hr1 hf
        obtain rfl : c1 = [.int .u32 ((gt p_l s2.2.2.2).1), .int .u32 ((gt p_l s2.2.2.2).2.1), .int .u64 ((gt p_l s2.2.2.2).2.2.1), .int .u64 ((gt p_l s2.2.2.2).2.2.2.1), .int .u64 ((gt p_l s2.2.2.2).2.2.2.2.1), .int .u64 ((gt p_l s2.2.2.2).2.2.2.2.2.1), .int .u64 ((gt p_l s2.2.2.2).2.2.2.2.2.2)] := hr1
        replace hs : Sep w F R w1 F2 [.cel pb1 po1 [.int .u32 ((gt p_l s2.2.2.2).1), .int .u32 ((gt p_l s2.2.2.2).2.1), .int .u64 ((gt p_l s2.2.2.2).2.2.1), .int .u64 ((gt p_l s2.2.2.2).2.2.2.1), .int .u64 ((gt p_l s2.2.2.2).2.2.2.2.1), .int .u64 ((gt p_l s2.2.2.2).2.2.2.2.2.1), .int .u64 ((gt p_l s2.2.2.2).2.2.2.2.2.2)], .ro ty24 (.slice ao1 p_l.length cp1) p_l] := hs.addCel hp1
        replace hf := Fr.keep (ks := [4, 5, 6, 11, 12, 13, 15]) (L' := [(4, .int .u64 s2.1), (5, .int .u64 s2.2.1), (6, .bool s2.2.2.1), (11, .slice ao1 p_l.length cp1), (12, .int .i64 ((p_l.length : Nat) : Int)), (13, .int .i64 s2.2.2.2), (15, .pointer (some ⟨pb1, po1, none⟩))]) hf (by kernel_rfl)
        refine ldC tbOk (T := 25) (hs.ccel 0 rfl) (LeH.refl _) 0 (.agg #[.int .u32 ((gt p_l s2.2.2.2).1), .int .u32 ((gt p_l s2.2.2.2).2.1), .int .u64 ((gt p_l s2.2.2.2).2.2.1), .int .u64 ((gt p_l s2.2.2.2).2.2.2.1), .int .u64 ((gt p_l s2.2.2.2).2.2.2.2.1), .int .u64 ((gt p_l s2.2.2.2).2.2.2.2.2.1), .int .u64 ((gt p_l s2.2.2.2).2.2.2.2.2.2)]) hf (by kernel_rfl) (by kernel_rfl) (by kernel_rfl) (by kernel_rfl) ?_
        clear hf; clear a; intro a hf
        replace hs : Sep w F R w1 F2 [.ro ty24 (.slice ao1 p_l.length cp1) p_l] := hs.sel [1] rfl rfl
        replace hf := Fr.keep (ks := [4, 5, 6, 11, 12, 13, 16]) (L' := [(4, .int .u64 s2.1), (5, .int .u64 s2.2.1), (6, .bool s2.2.2.1), (11, .slice ao1 p_l.length cp1), (12, .int .i64 ((p_l.length : Nat) : Int)), (13, .int .i64 s2.2.2.2), (16, .agg #[.int .u32 ((gt p_l s2.2.2.2).1), .int .u32 ((gt p_l s2.2.2.2).2.1), .int .u64 ((gt p_l s2.2.2.2).2.2.1), .int .u64 ((gt p_l s2.2.2.2).2.2.2.1), .int .u64 ((gt p_l s2.2.2.2).2.2.2.2.1), .int .u64 ((gt p_l s2.2.2.2).2.2.2.2.2.1), .int .u64 ((gt p_l s2.2.2.2).2.2.2.2.2.2)])]) hf (by kernel_rfl)
        refine al tbOk i25 [.int .u32 0, .int .u32 0, .int .u64 0, .int .u64 0, .int .u64 0, .int .u64 0, .int .u64 0] rfl (by kernel_rfl) hf (by kernel_rfl) (by kernel_rfl) ?_
        clear hf; clear a; intro w2 a hb hx _ hf
        replace hs : Sep w F R w2 F2 [.box w1.heap.size 25 [.int .u32 0, .int .u32 0, .int .u64 0, .int .u64 0, .int .u64 0, .int .u64 0, .int .u64 0], .ro ty24 (.slice ao1 p_l.length cp1) p_l] := hs.newBox hb hx
        clear hb hx
        replace hf := Fr.keep (ks := [4, 5, 6, 8, 11, 12, 13, 16]) (L' := [(4, .int .u64 s2.1), (5, .int .u64 s2.2.1), (6, .bool s2.2.2.1), (8, .pointer (some ⟨w1.heap.size, 0, none⟩)), (11, .slice ao1 p_l.length cp1), (12, .int .i64 ((p_l.length : Nat) : Int)), (13, .int .i64 s2.2.2.2), (16, .agg #[.int .u32 ((gt p_l s2.2.2.2).1), .int .u32 ((gt p_l s2.2.2.2).2.1), .int .u64 ((gt p_l s2.2.2.2).2.2.1), .int .u64 ((gt p_l s2.2.2.2).2.2.2.1), .int .u64 ((gt p_l s2.2.2.2).2.2.2.2.1), .int .u64 ((gt p_l s2.2.2.2).2.2.2.2.2.1), .int .u64 ((gt p_l s2.2.2.2).2.2.2.2.2.2)])]) hf (by kernel_rfl)
        refine stB tbOk i25 (hs.bx 0 rfl) 0 [.int .u32 ((gt p_l s2.2.2.2).1), .int .u32 ((gt p_l s2.2.2.2).2.1), .int .u64 ((gt p_l s2.2.2.2).2.2.1), .int .u64 ((gt p_l s2.2.2.2).2.2.2.1), .int .u64 ((gt p_l s2.2.2.2).2.2.2.2.1), .int .u64 ((gt p_l s2.2.2.2).2.2.2.2.2.1), .int .u64 ((gt p_l s2.2.2.2).2.2.2.2.2.2)] [.int .u32 ((gt p_l s2.2.2.2).1), .int .u32 ((gt p_l s2.2.2.2).2.1), .int .u64 ((gt p_l s2.2.2.2).2.2.1), .int .u64 ((gt p_l s2.2.2.2).2.2.2.1), .int .u64 ((gt p_l s2.2.2.2).2.2.2.2.1), .int .u64 ((gt p_l s2.2.2.2).2.2.2.2.2.1), .int .u64 ((gt p_l s2.2.2.2).2.2.2.2.2.2)] (v := .agg #[.int .u32 ((gt p_l s2.2.2.2).1), .int .u32 ((gt p_l s2.2.2.2).2.1), .int .u64 ((gt p_l s2.2.2.2).2.2.1), .int .u64 ((gt p_l s2.2.2.2).2.2.2.1), .int .u64 ((gt p_l s2.2.2.2).2.2.2.2.1), .int .u64 ((gt p_l s2.2.2.2).2.2.2.2.2.1), .int .u64 ((gt p_l s2.2.2.2).2.2.2.2.2.2)]) rfl rfl (by kernel_rfl) (by kernel_rfl) (by kernel_rfl) (by kernel_rfl) hf (by kernel_rfl) (by kernel_rfl) (by kernel_rfl) ?_
        clear hf; clear a; intro w3 a hb hg _ hf
        replace hs : Sep w F R w3 F2 [.box w1.heap.size 25 [.int .u32 ((gt p_l s2.2.2.2).1), .int .u32 ((gt p_l s2.2.2.2).2.1), .int .u64 ((gt p_l s2.2.2.2).2.2.1), .int .u64 ((gt p_l s2.2.2.2).2.2.2.1), .int .u64 ((gt p_l s2.2.2.2).2.2.2.2.1), .int .u64 ((gt p_l s2.2.2.2).2.2.2.2.2.1), .int .u64 ((gt p_l s2.2.2.2).2.2.2.2.2.2)], .ro ty24 (.slice ao1 p_l.length cp1) p_l] := hs.updBox 0 rfl hb hg
        clear hb hg
        replace hf := Fr.keep (ks := [4, 5, 6, 8, 11, 12, 13]) (L' := [(4, .int .u64 s2.1), (5, .int .u64 s2.2.1), (6, .bool s2.2.2.1), (8, .pointer (some ⟨w1.heap.size, 0, none⟩)), (11, .slice ao1 p_l.length cp1), (12, .int .i64 ((p_l.length : Nat) : Int)), (13, .int .i64 s2.2.2.2)]) hf (by kernel_rfl)
        refine wpList_nil ?_
        refine sq ?_
        refine reg ?_
        refine st tbOk 1 [4, 5, 6, 8, 11, 12, 13, 17] (L' := [(4, .int .u64 s2.1), (5, .int .u64 s2.2.1), (6, .bool s2.2.2.1), (8, .pointer (some ⟨w1.heap.size, 0, none⟩)), (11, .slice ao1 p_l.length cp1), (12, .int .i64 ((p_l.length : Nat) : Int)), (13, .int .i64 s2.2.2.2), (17, .pointer (some ⟨w1.heap.size, 0, none⟩))]) hf (by kernel_rfl) ?_
        clear hf; clear a; intro a hf
        refine ldC tbOk (T := 22) (hs.cbx 0 rfl) (LeH.refl _) 0 (.int .u32 ((gt p_l s2.2.2.2).1)) hf (by kernel_rfl) (by kernel_rfl) (by kernel_rfl) (by kernel_rfl) ?_
        clear hf; clear a; intro a hf
        replace hf := Fr.keep (ks := [4, 5, 6, 8, 11, 12, 13, 18]) (L' := [(4, .int .u64 s2.1), (5, .int .u64 s2.2.1), (6, .bool s2.2.2.1), (8, .pointer (some ⟨w1.heap.size, 0, none⟩)), (11, .slice ao1 p_l.length cp1), (12, .int .i64 ((p_l.length : Nat) : Int)), (13, .int .i64 s2.2.2.2), (18, .int .u32 ((gt p_l s2.2.2.2).1))]) hf (by kernel_rfl)
        refine st tbOk 1 [4, 5, 6, 8, 11, 12, 13, 19] (L' := [(4, .int .u64 s2.1), (5, .int .u64 s2.2.1), (6, .bool s2.2.2.1), (8, .pointer (some ⟨w1.heap.size, 0, none⟩)), (11, .slice ao1 p_l.length cp1), (12, .int .i64 ((p_l.length : Nat) : Int)), (13, .int .i64 s2.2.2.2), (19, .bool (((gt p_l s2.2.2.2).1) == 1))]) hf (by kernel_rfl) ?_
        clear hf; clear a; intro a hf
        refine wpList_nil ?_
        refine ctj (fun (s4 : Int × Int × Bool) (a : Act) (w' : World) => ∃ (F4 : SH), Sep w F R w' F4 [.ro ty24 (.slice ao1 p_l.length cp1) p_l] ∧ Fr 39 [(4, .int .u64 s4.1), (5, .int .u64 s4.2.1), (6, .bool s4.2.2), (11, .slice ao1 p_l.length cp1), (12, .int .i64 ((p_l.length : Nat) : Int)), (13, .int .i64 s2.2.2.2)] a) hS ?_ ?_
        · clear hS hf hs; clear a; intro s4 a w7 hM hS
          obtain ⟨F4, hs, hf⟩ := hM
          exact hK3 (s4.1, s4.2.1, s4.2.2) _ _ ⟨_, hs.sel [0] rfl rfl, hf.keep (ks := [4, 5, 6, 11, 12, 13]) (by kernel_rfl)⟩ hS
        · clear hS; intro KK4 k3 hK4 hS
          refine cnd (b := ((gt p_l s2.2.2.2).1) == 1) hf (by kernel_rfl) (fun hb2 => ?_) (fun hb2 => ?_)
          · replace hS := of_t hb2 hS
            refine sq ?_
            refine reg ?_
            refine ldC tbOk (T := 25) (hs.cbx 0 rfl) (LeH.refl _) 0 (.agg #[.int .u32 ((gt p_l s2.2.2.2).1), .int .u32 ((gt p_l s2.2.2.2).2.1), .int .u64 ((gt p_l s2.2.2.2).2.2.1), .int .u64 ((gt p_l s2.2.2.2).2.2.2.1), .int .u64 ((gt p_l s2.2.2.2).2.2.2.2.1), .int .u64 ((gt p_l s2.2.2.2).2.2.2.2.2.1), .int .u64 ((gt p_l s2.2.2.2).2.2.2.2.2.2)]) hf (by kernel_rfl) (by kernel_rfl) (by kernel_rfl) (by kernel_rfl) ?_
            clear hf; clear a; intro a hf
            replace hs : Sep w F R w3 F2 [.ro ty24 (.slice ao1 p_l.length cp1) p_l] := hs.sel [1] rfl rfl
            replace hf := Fr.keep (ks := [4, 5, 6, 11, 12, 13, 21]) (L' := [(4, .int .u64 s2.1), (5, .int .u64 s2.2.1), (6, .bool s2.2.2.1), (11, .slice ao1 p_l.length cp1), (12, .int .i64 ((p_l.length : Nat) : Int)), (13, .int .i64 s2.2.2.2), (21, .agg #[.int .u32 ((gt p_l s2.2.2.2).1), .int .u32 ((gt p_l s2.2.2.2).2.1), .int .u64 ((gt p_l s2.2.2.2).2.2.1), .int .u64 ((gt p_l s2.2.2.2).2.2.2.1), .int .u64 ((gt p_l s2.2.2.2).2.2.2.2.1), .int .u64 ((gt p_l s2.2.2.2).2.2.2.2.2.1), .int .u64 ((gt p_l s2.2.2.2).2.2.2.2.2.2)])]) hf (by kernel_rfl)
            have hT := of_bd hS; clear hS; obtain ⟨z1, hz1, hS⟩ := hT
            refine clV ent34 (vs := [.agg #[.int .u32 ((gt p_l s2.2.2.2).1), .int .u32 ((gt p_l s2.2.2.2).2.1), .int .u64 ((gt p_l s2.2.2.2).2.2.1), .int .u64 ((gt p_l s2.2.2.2).2.2.2.1), .int .u64 ((gt p_l s2.2.2.2).2.2.2.2.1), .int .u64 ((gt p_l s2.2.2.2).2.2.2.2.2.1), .int .u64 ((gt p_l s2.2.2.2).2.2.2.2.2.2)]]) (caps := []) hf (by kernel_rfl) (by kernel_rfl) (by kernel_rfl) (by kernel_rfl) (segs_pages_ok (p_s := ((gt p_l s2.2.2.2).1, (gt p_l s2.2.2.2).2.1, (gt p_l s2.2.2.2).2.2.1, (gt p_l s2.2.2.2).2.2.2.1, (gt p_l s2.2.2.2).2.2.2.2.1, (gt p_l s2.2.2.2).2.2.2.2.2.1, (gt p_l s2.2.2.2).2.2.2.2.2.2)) (hs.enter [] rfl rfl) hz1) ?_
            clear hf; clear a; intro v w4 a hT hf; obtain ⟨F5, rfl, hr⟩ := hT
            replace hs : Sep w F R w4 F5 [.ro ty24 (.slice ao1 p_l.length cp1) p_l] := hs.back [] [0] rfl rfl rfl rfl hr
            clear hr
            replace hf := Fr.keep (ks := [4, 5, 6, 11, 12, 13, 22]) (L' := [(4, .int .u64 s2.1), (5, .int .u64 s2.2.1), (6, .bool s2.2.2.1), (11, .slice ao1 p_l.length cp1), (12, .int .i64 ((p_l.length : Nat) : Int)), (13, .int .i64 s2.2.2.2), (22, .tuple #[.int .u64 z1.1, .int .u64 z1.2])]) hf (by kernel_rfl)
            refine st tbOk 5 [4, 5, 6, 9, 10, 11, 12, 13] (L' := [(4, .int .u64 s2.1), (5, .int .u64 s2.2.1), (6, .bool s2.2.2.1), (9, .int .u64 z1.1), (10, .int .u64 z1.2), (11, .slice ao1 p_l.length cp1), (12, .int .i64 ((p_l.length : Nat) : Int)), (13, .int .i64 s2.2.2.2)]) hf (by kernel_rfl) ?_
            clear hf; clear a; intro a hf
            refine wpList_nil ?_
            refine sq ?_
            refine sq ?_
            refine ctj (fun (s5 : Bool) (a : Act) (w' : World) => ∃ (F6 : SH), Sep w F R w' F6 [.ro ty24 (.slice ao1 p_l.length cp1) p_l] ∧ Fr 39 [(4, .int .u64 s2.1), (5, .int .u64 s2.2.1), (9, .int .u64 z1.1), (10, .int .u64 z1.2), (11, .slice ao1 p_l.length cp1), (12, .int .i64 ((p_l.length : Nat) : Int)), (13, .int .i64 s2.2.2.2), (31, .bool s5)] a) hS ?_ ?_
            · clear hS hf hs; clear a; intro s5 a w5 hM hS
              obtain ⟨F6, hs, hf⟩ := hM
              refine ctj (fun (s6 : Int) (a : Act) (w' : World) => ∃ (F7 : SH), Sep w F R w' F7 [.ro ty24 (.slice ao1 p_l.length cp1) p_l] ∧ Fr 39 [(4, .int .u64 s6), (5, .int .u64 s2.2.1), (10, .int .u64 z1.2), (11, .slice ao1 p_l.length cp1), (12, .int .i64 ((p_l.length : Nat) : Int)), (13, .int .i64 s2.2.2.2)] a) hS ?_ ?_
              · clear hS hf hs; clear a; intro s6 a w6 hM hS
                obtain ⟨F7, hs, hf⟩ := hM
                refine reg ?_
                have hT := of_let hS; clear hS; obtain ⟨high_1, hl1, hS⟩ := hT
                refine st tbOk 5 [4, 5, 6, 11, 12, 13] (L' := [(4, .int .u64 s6), (5, .int .u64 high_1), (6, .bool true), (11, .slice ao1 p_l.length cp1), (12, .int .i64 ((p_l.length : Nat) : Int)), (13, .int .i64 s2.2.2.2)]) hf (by subst hl1; kernel_rfl) ?_
                clear hf; clear a; intro a hf
                refine wpList_nil ?_
                exact hK4 (s6, high_1, true) _ _ ⟨_, hs.sel [0] rfl rfl, hf.keep (ks := [4, 5, 6, 11, 12, 13]) (by kernel_rfl)⟩ hS
              · clear hS; intro KK6 k5 hK6 hS
                refine cnd (b := s5) hf (by kernel_rfl) (fun hb4 => ?_) (fun hb4 => ?_)
                · replace hS := of_t hb4 hS
                  refine reg ?_
                  refine st tbOk 2 [4, 5, 10, 11, 12, 13] (L' := [(4, .int .u64 z1.1), (5, .int .u64 s2.2.1), (10, .int .u64 z1.2), (11, .slice ao1 p_l.length cp1), (12, .int .i64 ((p_l.length : Nat) : Int)), (13, .int .i64 s2.2.2.2)]) hf (by kernel_rfl) ?_
                  clear hf; clear a; intro a hf
                  refine wpList_nil ?_
                  exact hK6 z1.1 _ _ ⟨_, hs.sel [0] rfl rfl, hf.keep (ks := [4, 5, 10, 11, 12, 13]) (by kernel_rfl)⟩ hS
                · replace hS := of_f hb4 hS
                  refine wp_skip ?_
                  exact hK6 s2.1 _ _ ⟨_, hs.sel [0] rfl rfl, hf.keep (ks := [4, 5, 10, 11, 12, 13]) (by kernel_rfl)⟩ hS
            · clear hS; intro KK5 k4 hK5 hS
              refine reg ?_
              refine st tbOk 3 [4, 5, 9, 10, 11, 12, 13, 27] (L' := [(4, .int .u64 s2.1), (5, .int .u64 s2.2.1), (9, .int .u64 z1.1), (10, .int .u64 z1.2), (11, .slice ao1 p_l.length cp1), (12, .int .i64 ((p_l.length : Nat) : Int)), (13, .int .i64 s2.2.2.2), (27, .bool (!s2.2.2.1))]) hf (by kernel_rfl) ?_
              clear hf; clear a; intro a hf
              rcases Bool.eq_false_or_eq_true (!s2.2.2.1) with hb3 | hb3
              · replace hS := of_t hb3 hS
                replace hf := Fr.cast (L' := [(4, .int .u64 s2.1), (5, .int .u64 s2.2.1), (9, .int .u64 z1.1), (10, .int .u64 z1.2), (11, .slice ao1 p_l.length cp1), (12, .int .i64 ((p_l.length : Nat) : Int)), (13, .int .i64 s2.2.2.2), (27, .bool true)]) hf (by rw [hb3])
                refine st tbOk 4 [4, 5, 9, 10, 11, 12, 13, 31] (L' := [(4, .int .u64 s2.1), (5, .int .u64 s2.2.1), (9, .int .u64 z1.1), (10, .int .u64 z1.2), (11, .slice ao1 p_l.length cp1), (12, .int .i64 ((p_l.length : Nat) : Int)), (13, .int .i64 s2.2.2.2), (31, .bool true)]) hf (by kernel_rfl) ?_
                clear hf; clear a; intro a hf
                refine wpList_nil ?_
                exact hK5 true _ _ ⟨_, hs.sel [0] rfl rfl, hf.keep (ks := [4, 5, 9, 10, 11, 12, 13, 31]) (by kernel_rfl)⟩ hS
              · replace hS := of_f hb3 hS
                replace hf := Fr.cast (L' := [(4, .int .u64 s2.1), (5, .int .u64 s2.2.1), (9, .int .u64 z1.1), (10, .int .u64 z1.2), (11, .slice ao1 p_l.length cp1), (12, .int .i64 ((p_l.length : Nat) : Int)), (13, .int .i64 s2.2.2.2), (27, .bool false)]) hf (by rw [hb3])
                refine st tbOk 4 [4, 5, 9, 10, 11, 12, 13, 31] (L' := [(4, .int .u64 s2.1), (5, .int .u64 s2.2.1), (9, .int .u64 z1.1), (10, .int .u64 z1.2), (11, .slice ao1 p_l.length cp1), (12, .int .i64 ((p_l.length : Nat) : Int)), (13, .int .i64 s2.2.2.2), (31, .bool (decide (z1.1 < s2.1)))]) hf (by kernel_rfl) ?_
                clear hf; clear a; intro a hf
                refine wpList_nil ?_
                exact hK5 (decide (z1.1 < s2.1)) _ _ ⟨_, hs.sel [0] rfl rfl, hf.keep (ks := [4, 5, 9, 10, 11, 12, 13, 31]) (by kernel_rfl)⟩ hS
          · replace hS := of_f hb2 hS
            refine wp_skip ?_
            exact hK4 (s2.1, s2.2.1, s2.2.2.1) _ _ ⟨_, hs.sel [1] rfl rfl, hf.keep (ks := [4, 5, 6, 11, 12, 13]) (by kernel_rfl)⟩ hS
    · replace hS := of_f hb1 hS
      refine wp_exit ?_
      exact hK1 (s2.1, s2.2.1) _ _ ⟨_, hs.sel [] rfl rfl, hf.keep (ks := [4, 5]) (by kernel_rfl)⟩ hS

set_option maxHeartbeats 4000000 in
theorem segs_Find_1_ok {w : World} {F : SH} {p_s : Int × Int × Int × Int × Int × Int × Int} {q_1 : Int} {b1 : Nat} (hs : Sep w F (blks [.cel b1 0 [.int .u32 q_1]]) w F [.cel b1 0 [.int .u32 q_1]]) {r : Bool} (hS : segs_Find_1 p_s q_1 = some r) :
    Calls Try.prog 40 [.agg #[.int .u32 p_s.1, .int .u32 p_s.2.1, .int .u64 p_s.2.2.1, .int .u64 p_s.2.2.2.1, .int .u64 p_s.2.2.2.2.1, .int .u64 p_s.2.2.2.2.2.1, .int .u64 p_s.2.2.2.2.2.2], .pointer (some ⟨b1, 0, none⟩)].toArray w (Gives (fun u w' => ∃ (F' : SH), u = .bool r ∧ Sep w F (blks [.cel b1 0 [.int .u32 q_1]]) w' F' [])) := by
  generalize (blks [.cel b1 0 [.int .u32 q_1]]) = R at hs ⊢
  unfold segs_Find_1 at hS
  refine fn_ok (vs := [.agg #[.int .u32 p_s.1, .int .u32 p_s.2.1, .int .u64 p_s.2.2.1, .int .u64 p_s.2.2.2.1, .int .u64 p_s.2.2.2.2.1, .int .u64 p_s.2.2.2.2.2.1, .int .u64 p_s.2.2.2.2.2.2], .pointer (some ⟨b1, 0, none⟩)]) Try.func40 rfl 8 Try.ntmps40 (Nat.le_of_ble_eq_true rfl) ?_
  intro a hf
  replace hf := Fr.cast (L' := [(0, .agg #[.int .u32 p_s.1, .int .u32 p_s.2.1, .int .u64 p_s.2.2.1, .int .u64 p_s.2.2.2.1, .int .u64 p_s.2.2.2.2.1, .int .u64 p_s.2.2.2.2.2.1, .int .u64 p_s.2.2.2.2.2.2]), (1, .pointer (some ⟨b1, 0, none⟩))]) hf (by kernel_rfl)
  refine sq ?_
  refine reg ?_
  refine bx (T := 25) [.int .u32 p_s.1, .int .u32 p_s.2.1, .int .u64 p_s.2.2.1, .int .u64 p_s.2.2.2.1, .int .u64 p_s.2.2.2.2.1, .int .u64 p_s.2.2.2.2.2.1, .int .u64 p_s.2.2.2.2.2.2] (v := .agg #[.int .u32 p_s.1, .int .u32 p_s.2.1, .int .u64 p_s.2.2.1, .int .u64 p_s.2.2.2.1, .int .u64 p_s.2.2.2.2.1, .int .u64 p_s.2.2.2.2.2.1, .int .u64 p_s.2.2.2.2.2.2]) rfl (by kernel_rfl) hf (by kernel_rfl) (by kernel_rfl) (by kernel_rfl) ?_
  clear hf; clear a; intro w1 a hb hx _ hf
  replace hs : Sep w F R w1 F [.box w.heap.size 25 [.int .u32 p_s.1, .int .u32 p_s.2.1, .int .u64 p_s.2.2.1, .int .u64 p_s.2.2.2.1, .int .u64 p_s.2.2.2.2.1, .int .u64 p_s.2.2.2.2.2.1, .int .u64 p_s.2.2.2.2.2.2], .cel b1 0 [.int .u32 q_1]] := hs.newBox hb hx
  clear hb hx
  replace hf := Fr.keep (ks := [1, 2]) (L' := [(1, .pointer (some ⟨b1, 0, none⟩)), (2, .pointer (some ⟨w.heap.size, 0, none⟩))]) hf (by kernel_rfl)
  refine st tbOk 1 [1, 2] (L' := [(1, .pointer (some ⟨b1, 0, none⟩)), (2, .pointer (some ⟨w.heap.size, 0, none⟩))]) hf (by kernel_rfl) ?_
  clear hf; clear a; intro a hf
  refine wpList_nil ?_
  refine sq ?_
  refine reg ?_
  refine st tbOk 1 [1, 4] (L' := [(1, .pointer (some ⟨b1, 0, none⟩)), (4, .pointer (some ⟨w.heap.size, 0, none⟩))]) hf (by kernel_rfl) ?_
  clear hf; clear a; intro a hf
  refine ldC tbOk (T := 22) (hs.cbx 0 rfl) (LeH.refl _) 0 (.int .u32 p_s.1) hf (by kernel_rfl) (by kernel_rfl) (by kernel_rfl) (by kernel_rfl) ?_
  clear hf; clear a; intro a hf
  replace hs : Sep w F R w1 F [.cel b1 0 [.int .u32 q_1]] := hs.sel [1] rfl rfl
  replace hf := Fr.keep (ks := [1, 5]) (L' := [(1, .pointer (some ⟨b1, 0, none⟩)), (5, .int .u32 p_s.1)]) hf (by kernel_rfl)
  refine ldC tbOk (T := 22) (hs.ccel 0 rfl) (LeH.refl _) 0 (.int .u32 q_1) hf (by kernel_rfl) (by kernel_rfl) (by kernel_rfl) (by kernel_rfl) ?_
  clear hf; clear a; intro a hf
  replace hs : Sep w F R w1 F [] := hs.sel [] rfl rfl
  replace hf := Fr.keep (ks := [5, 6]) (L' := [(5, .int .u32 p_s.1), (6, .int .u32 q_1)]) hf (by kernel_rfl)
  refine st tbOk 2 [3] (L' := [(3, .bool (p_s.1 == q_1))]) hf (by kernel_rfl) ?_
  clear hf; clear a; intro a hf
  refine wpList_nil ?_
  have hr := Option.some.inj hS; subst hr
  refine wp_ret ?_
  exact ret_ok hf (vs := [.bool (p_s.1 == q_1)]) (by kernel_rfl) ⟨_, rfl, hs.sel [] rfl rfl⟩

set_option maxHeartbeats 4000000 in
theorem slices_IndexFunc_api_Seg_api_Seg_Find_1_ok {w : World} {F : SH} {p_s : List (Int × Int × Int × Int × Int × Int × Int)} {q_c0 : Int} {ao1 : Option Addr} {cp1 : Nat} {b1 : Nat} (hs : Sep w F (blks [.ro ty24 (.slice ao1 p_s.length cp1) p_s, .cel b1 0 [.int .u32 q_c0]]) w F [.ro ty24 (.slice ao1 p_s.length cp1) p_s, .cel b1 0 [.int .u32 q_c0]]) {r : Int} (hS : slices_IndexFunc_api_Seg_api_Seg_Find_1 p_s q_c0 = some r) :
    Calls Try.prog 39 [.slice ao1 p_s.length cp1, .func (.func 40) #[] #[.pointer (some ⟨b1, 0, none⟩)]].toArray w (Gives (fun u w' => ∃ (F' : SH), u = .int .i64 r ∧ Sep w F (blks [.ro ty24 (.slice ao1 p_s.length cp1) p_s, .cel b1 0 [.int .u32 q_c0]]) w' F' [])) := by
  generalize (blks [.ro ty24 (.slice ao1 p_s.length cp1) p_s, .cel b1 0 [.int .u32 q_c0]]) = R at hs ⊢
  unfold slices_IndexFunc_api_Seg_api_Seg_Find_1 at hS
  refine fn_ok (vs := [.slice ao1 p_s.length cp1, .func (.func 40) #[] #[.pointer (some ⟨b1, 0, none⟩)]]) Try.func39 rfl 19 Try.ntmps39 (Nat.le_of_ble_eq_true rfl) ?_
  intro a hf
  replace hf := Fr.cast (L' := [(0, .slice ao1 p_s.length cp1), (1, .func (.func 40) #[] #[.pointer (some ⟨b1, 0, none⟩)])]) hf (by kernel_rfl)
  refine sq ?_
  refine reg ?_
  refine st tbOk 1 [0, 1] (L' := [(0, .slice ao1 p_s.length cp1), (1, .func (.func 40) #[] #[.pointer (some ⟨b1, 0, none⟩)])]) hf (by kernel_rfl) ?_
  clear hf; clear a; intro a hf
  refine wpList_nil ?_
  refine sq ?_
  refine sq ?_
  refine reg ?_
  refine st tbOk 3 [0, 1, 7, 8] (L' := [(0, .slice ao1 p_s.length cp1), (1, .func (.func 40) #[] #[.pointer (some ⟨b1, 0, none⟩)]), (7, .int .i64 ((p_s.length : Nat) : Int)), (8, .int .i64 0)]) hf (by kernel_rfl) ?_
  clear hf; clear a; intro a hf
  refine wpList_nil ?_
  refine ctj (fun (s1 : Unit) (a : Act) (w' : World) => ∃ (F1 : SH), Sep w F R w' F1 [] ∧ Fr 19 [] a) hS ?_ ?_
  · clear hS hf hs; clear a; intro s1 a w3 hM hS
    obtain ⟨F1, hs, hf⟩ := hM
    refine sq ?_
    refine reg ?_
    refine st tbOk 1 [4] (L' := [(4, .int .i64 (-1))]) hf (by kernel_rfl) ?_
    clear hf; clear a; intro a hf
    refine wpList_nil ?_
    have hr := Option.some.inj hS; subst hr
    refine wp_ret ?_
    exact ret_ok hf (vs := [.int .i64 (-1)]) (by kernel_rfl) ⟨_, rfl, hs.sel [] rfl rfl⟩
  · clear hS; intro KK1 k1 hK1 hS
    refine blk ?_
    refine lp (st := 0) (fun (s2 : Int) (a : Act) (w' : World) => ∃ (F2 : SH), Sep w F R w' F2 [.ro ty24 (.slice ao1 p_s.length cp1) p_s, .cel b1 0 [.int .u32 q_c0]] ∧ Fr 19 [(0, .slice ao1 p_s.length cp1), (1, .func (.func 40) #[] #[.pointer (some ⟨b1, 0, none⟩)]), (7, .int .i64 ((p_s.length : Nat) : Int)), (8, .int .i64 s2)] a) ?_ ⟨_, hs.sel [0, 1] rfl rfl, hf.keep (ks := [0, 1, 7, 8]) (by kernel_rfl)⟩ hS
    clear hS hf hs; clear a
    intro rec1 KK2 hK2 s2 a w1 hM hS
    obtain ⟨F2, hs, hf⟩ := hM
    refine sq ?_
    refine reg ?_
    refine st tbOk 1 [0, 1, 7, 8, 9] (L' := [(0, .slice ao1 p_s.length cp1), (1, .func (.func 40) #[] #[.pointer (some ⟨b1, 0, none⟩)]), (7, .int .i64 ((p_s.length : Nat) : Int)), (8, .int .i64 s2), (9, .bool (decide (s2 < ((p_s.length : Nat) : Int))))]) hf (by kernel_rfl) ?_
    clear hf; clear a; intro a hf
    refine wpList_nil ?_
    refine sq ?_
    refine cnd (b := decide (s2 < ((p_s.length : Nat) : Int))) hf (by kernel_rfl) (fun hb1 => ?_) (fun hb1 => ?_)
    · replace hS := of_t hb1 hS
      refine wp_skip ?_
      refine sq ?_
      refine blk ?_
      refine sq ?_
      refine reg ?_
      refine st tbOk 2 [0, 1, 5, 7, 8] (L' := [(0, .slice ao1 p_s.length cp1), (1, .func (.func 40) #[] #[.pointer (some ⟨b1, 0, none⟩)]), (5, .int .i64 s2), (7, .int .i64 ((p_s.length : Nat) : Int)), (8, .int .i64 s2)]) hf (by kernel_rfl) ?_
      clear hf; clear a; intro a hf
      refine wpList_nil ?_
      refine sq ?_
      refine reg ?_
      refine st tbOk 3 [0, 1, 5, 7, 8, 11, 12, 13] (L' := [(0, .slice ao1 p_s.length cp1), (1, .func (.func 40) #[] #[.pointer (some ⟨b1, 0, none⟩)]), (5, .int .i64 s2), (7, .int .i64 ((p_s.length : Nat) : Int)), (8, .int .i64 s2), (11, .func (.func 40) #[] #[.pointer (some ⟨b1, 0, none⟩)]), (12, .slice ao1 p_s.length cp1), (13, .int .i64 s2)]) hf (by kernel_rfl) ?_
      clear hf; clear a; intro a hf
      have hT := of_gd hS; clear hS; obtain ⟨hc1, hS⟩ := hT
      refine ixR tbOk u33 i25 rfl rfl ((hs.ro 0 rfl).ra (LeH.refl _)) (k := .i64) (n := s2) hc1 hf (by kernel_rfl) (by kernel_rfl) (by kernel_rfl) (by kernel_rfl) ?_
      clear hf; clear a; intro pb1 po1 c1 a hp1 hr1 hf
      obtain rfl : c1 = [.int .u32 ((gt p_s s2).1), .int .u32 ((gt p_s s2).2.1), .int .u64 ((gt p_s s2).2.2.1), .int .u64 ((gt p_s s2).2.2.2.1), .int .u64 ((gt p_s s2).2.2.2.2.1), .int .u64 ((gt p_s s2).2.2.2.2.2.1), .int .u64 ((gt p_s s2).2.2.2.2.2.2)] := hr1
      replace hs : Sep w F R w1 F2 [.cel pb1 po1 [.int .u32 ((gt p_s s2).1), .int .u32 ((gt p_s s2).2.1), .int .u64 ((gt p_s s2).2.2.1), .int .u64 ((gt p_s s2).2.2.2.1), .int .u64 ((gt p_s s2).2.2.2.2.1), .int .u64 ((gt p_s s2).2.2.2.2.2.1), .int .u64 ((gt p_s s2).2.2.2.2.2.2)], .ro ty24 (.slice ao1 p_s.length cp1) p_s, .cel b1 0 [.int .u32 q_c0]] := hs.addCel hp1
      replace hf := Fr.keep (ks := [0, 1, 5, 7, 8, 11, 14]) (L' := [(0, .slice ao1 p_s.length cp1), (1, .func (.func 40) #[] #[.pointer (some ⟨b1, 0, none⟩)]), (5, .int .i64 s2), (7, .int .i64 ((p_s.length : Nat) : Int)), (8, .int .i64 s2), (11, .func (.func 40) #[] #[.pointer (some ⟨b1, 0, none⟩)]), (14, .pointer (some ⟨pb1, po1, none⟩))]) hf (by kernel_rfl)
      refine ldC tbOk (T := 25) (hs.ccel 0 rfl) (LeH.refl _) 0 (.agg #[.int .u32 ((gt p_s s2).1), .int .u32 ((gt p_s s2).2.1), .int .u64 ((gt p_s s2).2.2.1), .int .u64 ((gt p_s s2).2.2.2.1), .int .u64 ((gt p_s s2).2.2.2.2.1), .int .u64 ((gt p_s s2).2.2.2.2.2.1), .int .u64 ((gt p_s s2).2.2.2.2.2.2)]) hf (by kernel_rfl) (by kernel_rfl) (by kernel_rfl) (by kernel_rfl) ?_
      clear hf; clear a; intro a hf
      replace hs : Sep w F R w1 F2 [.ro ty24 (.slice ao1 p_s.length cp1) p_s, .cel b1 0 [.int .u32 q_c0]] := hs.sel [1, 2] rfl rfl
      replace hf := Fr.keep (ks := [0, 1, 5, 7, 8, 11, 15]) (L' := [(0, .slice ao1 p_s.length cp1), (1, .func (.func 40) #[] #[.pointer (some ⟨b1, 0, none⟩)]), (5, .int .i64 s2), (7, .int .i64 ((p_s.length : Nat) : Int)), (8, .int .i64 s2), (11, .func (.func 40) #[] #[.pointer (some ⟨b1, 0, none⟩)]), (15, .agg #[.int .u32 ((gt p_s s2).1), .int .u32 ((gt p_s s2).2.1), .int .u64 ((gt p_s s2).2.2.1), .int .u64 ((gt p_s s2).2.2.2.1), .int .u64 ((gt p_s s2).2.2.2.2.1), .int .u64 ((gt p_s s2).2.2.2.2.2.1), .int .u64 ((gt p_s s2).2.2.2.2.2.2)])]) hf (by kernel_rfl)
      have hT := of_bd hS; clear hS; obtain ⟨z1, hz1, hS⟩ := hT
      refine clV ent40 (vs := [.agg #[.int .u32 ((gt p_s s2).1), .int .u32 ((gt p_s s2).2.1), .int .u64 ((gt p_s s2).2.2.1), .int .u64 ((gt p_s s2).2.2.2.1), .int .u64 ((gt p_s s2).2.2.2.2.1), .int .u64 ((gt p_s s2).2.2.2.2.2.1), .int .u64 ((gt p_s s2).2.2.2.2.2.2)]]) (caps := [.pointer (some ⟨b1, 0, none⟩)]) hf (by kernel_rfl) (by kernel_rfl) (by kernel_rfl) (by kernel_rfl) (segs_Find_1_ok (p_s := gt p_s s2) (q_1 := q_c0) (hs.enter [1] rfl rfl) hz1) ?_
      clear hf; clear a; intro v w2 a hT hf; obtain ⟨F3, rfl, hr⟩ := hT
      replace hs : Sep w F R w2 F3 [.ro ty24 (.slice ao1 p_s.length cp1) p_s, .cel b1 0 [.int .u32 q_c0]] := hs.back [1] [0, 1] rfl rfl rfl rfl hr
      clear hr
      replace hf := Fr.keep (ks := [0, 1, 5, 7, 8, 16]) (L' := [(0, .slice ao1 p_s.length cp1), (1, .func (.func 40) #[] #[.pointer (some ⟨b1, 0, none⟩)]), (5, .int .i64 s2), (7, .int .i64 ((p_s.length : Nat) : Int)), (8, .int .i64 s2), (16, .bool z1)]) hf (by kernel_rfl)
      refine wpList_nil ?_
      refine cnd (b := z1) hf (by kernel_rfl) (fun hb2 => ?_) (fun hb2 => ?_)
      · replace hS := of_t hb2 hS
        refine sq ?_
        refine reg ?_
        refine st tbOk 2 [4] (L' := [(4, .int .i64 s2)]) hf (by kernel_rfl) ?_
        clear hf; clear a; intro a hf
        refine wpList_nil ?_
        have hr := Option.some.inj hS; subst hr
        refine wp_ret ?_
        exact ret_ok hf (vs := [.int .i64 s2]) (by kernel_rfl) ⟨_, rfl, hs.sel [] rfl rfl⟩
      · replace hS := of_f hb2 hS
        refine wp_skip ?_
        refine reg ?_
        refine st tbOk 2 [0, 1, 7, 8] (L' := [(0, .slice ao1 p_s.length cp1), (1, .func (.func 40) #[] #[.pointer (some ⟨b1, 0, none⟩)]), (7, .int .i64 ((p_s.length : Nat) : Int)), (8, .int .i64 (IntKind.i64.wrap (s2 + 1)))]) hf (by kernel_rfl) ?_
        clear hf; clear a; intro a hf
        refine wpList_nil ?_
        exact hK2 (IntKind.i64.wrap (s2 + 1)) _ _ ⟨_, hs.sel [0, 1] rfl rfl, hf.keep (ks := [0, 1, 7, 8]) (by kernel_rfl)⟩ hS
    · replace hS := of_f hb1 hS
      refine wp_exit ?_
      exact hK1 () _ _ ⟨_, hs.sel [] rfl rfl, hf.keep (ks := []) (by kernel_rfl)⟩ hS

set_option maxHeartbeats 4000000 in
theorem segs_Find_ok {w : World} {F : SH} {p_l : List (Int × Int × Int × Int × Int × Int × Int)} {kind : Int} {ao1 : Option Addr} {cp1 : Nat} (hs : Sep w F (blks [.ro ty24 (.slice ao1 p_l.length cp1) p_l]) w F [.ro ty24 (.slice ao1 p_l.length cp1) p_l]) {r : (Int × Int × Int × Int × Int × Int × Int) × Bool} (hS : segs_Find p_l kind = some r) :
    Calls Try.prog 22 [.slice ao1 p_l.length cp1, .int .u32 kind].toArray w (Gives (fun u w' => ∃ (F' : SH), u = .tuple #[.agg #[.int .u32 r.1.1, .int .u32 r.1.2.1, .int .u64 r.1.2.2.1, .int .u64 r.1.2.2.2.1, .int .u64 r.1.2.2.2.2.1, .int .u64 r.1.2.2.2.2.2.1, .int .u64 r.1.2.2.2.2.2.2], .bool r.2] ∧ Sep w F (blks [.ro ty24 (.slice ao1 p_l.length cp1) p_l]) w' F' [])) := by
  generalize (blks [.ro ty24 (.slice ao1 p_l.length cp1) p_l]) = R at hs ⊢
  unfold segs_Find at hS
  refine fn_ok (vs := [.slice ao1 p_l.length cp1, .int .u32 kind]) Try.func22 rfl 17 Try.ntmps22 (Nat.le_of_ble_eq_true rfl) ?_
  intro a hf
  replace hf := Fr.cast (L' := [(0, .slice ao1 p_l.length cp1), (1, .int .u32 kind)]) hf (by kernel_rfl)
  refine sq ?_
  refine reg ?_
  refine bx (T := 22) [.int .u32 kind] (v := .int .u32 kind) rfl (by kernel_rfl) hf (by kernel_rfl) (by kernel_rfl) (by kernel_rfl) ?_
  clear hf; clear a; intro w1 a hb hx _ hf
  replace hs : Sep w F R w1 F [.box w.heap.size 22 [.int .u32 kind], .ro ty24 (.slice ao1 p_l.length cp1) p_l] := hs.newBox hb hx
  clear hb hx
  replace hf := Fr.keep (ks := [0, 3]) (L' := [(0, .slice ao1 p_l.length cp1), (3, .pointer (some ⟨w.heap.size, 0, none⟩))]) hf (by kernel_rfl)
  refine al tbOk i25 [.int .u32 0, .int .u32 0, .int .u64 0, .int .u64 0, .int .u64 0, .int .u64 0, .int .u64 0] rfl (by kernel_rfl) hf (by kernel_rfl) (by kernel_rfl) ?_
  clear hf; clear a; intro w2 a hb hx _ hf
  replace hs : Sep w F R w2 F [.box w1.heap.size 25 [.int .u32 0, .int .u32 0, .int .u64 0, .int .u64 0, .int .u64 0, .int .u64 0, .int .u64 0], .box w.heap.size 22 [.int .u32 kind], .ro ty24 (.slice ao1 p_l.length cp1) p_l] := hs.newBox hb hx
  clear hb hx
  replace hf := Fr.keep (ks := [0, 3, 4]) (L' := [(0, .slice ao1 p_l.length cp1), (3, .pointer (some ⟨w.heap.size, 0, none⟩)), (4, .pointer (some ⟨w1.heap.size, 0, none⟩))]) hf (by kernel_rfl)
  refine st tbOk 1 [0, 3, 4] (L' := [(0, .slice ao1 p_l.length cp1), (3, .pointer (some ⟨w.heap.size, 0, none⟩)), (4, .pointer (some ⟨w1.heap.size, 0, none⟩))]) hf (by kernel_rfl) ?_
  clear hf; clear a; intro a hf
  refine wpList_nil ?_
  refine sq ?_
  refine reg ?_
  refine st tbOk 2 [0, 4, 7, 8] (L' := [(0, .slice ao1 p_l.length cp1), (4, .pointer (some ⟨w1.heap.size, 0, none⟩)), (7, .slice ao1 p_l.length cp1), (8, .func (.func 40) #[] #[.pointer (some ⟨w.heap.size, 0, none⟩)])]) hf (by kernel_rfl) ?_
  clear hf; clear a; intro a hf
  have hT := of_bd hS; clear hS; obtain ⟨z1, hz1, hS⟩ := hT
  refine clV ent39 (vs := [.slice ao1 p_l.length cp1, .func (.func 40) #[] #[.pointer (some ⟨w.heap.size, 0, none⟩)]]) (caps := []) hf (by kernel_rfl) (by kernel_rfl) (by kernel_rfl) (by kernel_rfl) (slices_IndexFunc_api_Seg_api_Seg_Find_1_ok (p_s := p_l) (q_c0 := kind) (hs.lend [2, 1] [] rfl rfl rfl rfl rfl) hz1) ?_
  clear hf; clear a; intro v w3 a hT hf; obtain ⟨F1, rfl, hr⟩ := hT
  replace hs : Sep w F R w3 F [.box w1.heap.size 25 [.int .u32 0, .int .u32 0, .int .u64 0, .int .u64 0, .int .u64 0, .int .u64 0, .int .u64 0], .box w.heap.size 22 [.int .u32 kind], .ro ty24 (.slice ao1 p_l.length cp1) p_l] := hs.backL [2, 1] [] [0, 1, 2] rfl rfl rfl rfl rfl rfl hr trivial
  clear hr
  replace hs : Sep w F R w3 F [.box w1.heap.size 25 [.int .u32 0, .int .u32 0, .int .u64 0, .int .u64 0, .int .u64 0, .int .u64 0, .int .u64 0], .ro ty24 (.slice ao1 p_l.length cp1) p_l] := hs.sel [0, 2] rfl rfl
  replace hf := Fr.keep (ks := [0, 4, 9]) (L' := [(0, .slice ao1 p_l.length cp1), (4, .pointer (some ⟨w1.heap.size, 0, none⟩)), (9, .int .i64 z1)]) hf (by kernel_rfl)
  refine st tbOk 1 [0, 4, 6] (L' := [(0, .slice ao1 p_l.length cp1), (4, .pointer (some ⟨w1.heap.size, 0, none⟩)), (6, .int .i64 z1)]) hf (by kernel_rfl) ?_
  clear hf; clear a; intro a hf
  refine wpList_nil ?_
  refine sq ?_
  refine sq ?_
  refine reg ?_
  refine st tbOk 2 [0, 4, 6, 11] (L' := [(0, .slice ao1 p_l.length cp1), (4, .pointer (some ⟨w1.heap.size, 0, none⟩)), (6, .int .i64 z1), (11, .bool (decide (z1 < 0)))]) hf (by kernel_rfl) ?_
  clear hf; clear a; intro a hf
  refine wpList_nil ?_
  refine cnd (b := decide (z1 < 0)) hf (by kernel_rfl) (fun hb1 => ?_) (fun hb1 => ?_)
  · replace hS := of_t hb1 hS
    refine sq ?_
    refine reg ?_
    refine st tbOk 1 [4, 12] (L' := [(4, .pointer (some ⟨w1.heap.size, 0, none⟩)), (12, .agg #[.int .u32 0, .int .u32 0, .int .u64 0, .int .u64 0, .int .u64 0, .int .u64 0, .int .u64 0])]) hf (by kernel_rfl) ?_
    clear hf; clear a; intro a hf
    refine stB tbOk i25 (hs.bx 0 rfl) 0 [.int .u32 0, .int .u32 0, .int .u64 0, .int .u64 0, .int .u64 0, .int .u64 0, .int .u64 0] [.int .u32 0, .int .u32 0, .int .u64 0, .int .u64 0, .int .u64 0, .int .u64 0, .int .u64 0] (v := .agg #[.int .u32 0, .int .u32 0, .int .u64 0, .int .u64 0, .int .u64 0, .int .u64 0, .int .u64 0]) rfl rfl (by kernel_rfl) (by kernel_rfl) (by kernel_rfl) (by kernel_rfl) hf (by kernel_rfl) (by kernel_rfl) (by kernel_rfl) ?_
    clear hf; clear a; intro w4 a hb hg _ hf
    replace hs : Sep w F R w4 F [.box w1.heap.size 25 [.int .u32 0, .int .u32 0, .int .u64 0, .int .u64 0, .int .u64 0, .int .u64 0, .int .u64 0], .ro ty24 (.slice ao1 p_l.length cp1) p_l] := hs.updBox 0 rfl hb hg
    clear hb hg
    replace hs : Sep w F R w4 F [.box w1.heap.size 25 [.int .u32 0, .int .u32 0, .int .u64 0, .int .u64 0, .int .u64 0, .int .u64 0, .int .u64 0]] := hs.sel [0] rfl rfl
    replace hf := Fr.keep (ks := [4]) (L' := [(4, .pointer (some ⟨w1.heap.size, 0, none⟩))]) hf (by kernel_rfl)
    refine st tbOk 1 [4, 5] (L' := [(4, .pointer (some ⟨w1.heap.size, 0, none⟩)), (5, .bool false)]) hf (by kernel_rfl) ?_
    clear hf; clear a; intro a hf
    refine wpList_nil ?_
    have hr := Option.some.inj hS; subst hr
    refine wp_ret ?_
    exact ret_okC hf (vs := [.agg #[.int .u32 0, .int .u32 0, .int .u64 0, .int .u64 0, .int .u64 0, .int .u64 0, .int .u64 0], .bool false]) (.cons (.cell tbOk (hs.cbx 0 rfl) (off := 0) (by kernel_rfl) (by kernel_rfl)) (.cons (.tmp (by kernel_rfl)) .nil)) ⟨_, rfl, hs.sel [] rfl rfl⟩
  · replace hS := of_f hb1 hS
    refine wp_skip ?_
    refine sq ?_
    refine reg ?_
    refine st tbOk 2 [4, 13, 14] (L' := [(4, .pointer (some ⟨w1.heap.size, 0, none⟩)), (13, .slice ao1 p_l.length cp1), (14, .int .i64 z1)]) hf (by kernel_rfl) ?_
    clear hf; clear a; intro a hf
    have hT := of_gd hS; clear hS; obtain ⟨hc1, hS⟩ := hT
    refine ixR tbOk u33 i25 rfl rfl ((hs.ro 1 rfl).ra (LeH.refl _)) (k := .i64) (n := z1) hc1 hf (by kernel_rfl) (by kernel_rfl) (by kernel_rfl) (by kernel_rfl) ?_
    clear hf; clear a; intro pb1 po1 c1 a hp1 hr1 hf
    obtain rfl : c1 = [.int .u32 ((gt p_l z1).1), .int .u32 ((gt p_l z1).2.1), .int .u64 ((gt p_l z1).2.2.1), .int .u64 ((gt p_l z1).2.2.2.1), .int .u64 ((gt p_l z1).2.2.2.2.1), .int .u64 ((gt p_l z1).2.2.2.2.2.1), .int .u64 ((gt p_l z1).2.2.2.2.2.2)] := hr1
    replace hs : Sep w F R w3 F [.cel pb1 po1 [.int .u32 ((gt p_l z1).1), .int .u32 ((gt p_l z1).2.1), .int .u64 ((gt p_l z1).2.2.1), .int .u64 ((gt p_l z1).2.2.2.1), .int .u64 ((gt p_l z1).2.2.2.2.1), .int .u64 ((gt p_l z1).2.2.2.2.2.1), .int .u64 ((gt p_l z1).2.2.2.2.2.2)], .box w1.heap.size 25 [.int .u32 0, .int .u32 0, .int .u64 0, .int .u64 0, .int .u64 0, .int .u64 0, .int .u64 0], .ro ty24 (.slice ao1 p_l.length cp1) p_l] := hs.addCel hp1
    replace hs : Sep w F R w3 F [.cel pb1 po1 [.int .u32 ((gt p_l z1).1), .int .u32 ((gt p_l z1).2.1), .int .u64 ((gt p_l z1).2.2.1), .int .u64 ((gt p_l z1).2.2.2.1), .int .u64 ((gt p_l z1).2.2.2.2.1), .int .u64 ((gt p_l z1).2.2.2.2.2.1), .int .u64 ((gt p_l z1).2.2.2.2.2.2)], .box w1.heap.size 25 [.int .u32 0, .int .u32 0, .int .u64 0, .int .u64 0, .int .u64 0, .int .u64 0, .int .u64 0]] := hs.sel [0, 1] rfl rfl
    replace hf := Fr.keep (ks := [4, 15]) (L' := [(4, .pointer (some ⟨w1.heap.size, 0, none⟩)), (15, .pointer (some ⟨pb1, po1, none⟩))]) hf (by kernel_rfl)
    refine ldC tbOk (T := 25) (hs.ccel 0 rfl) (LeH.refl _) 0 (.agg #[.int .u32 ((gt p_l z1).1), .int .u32 ((gt p_l z1).2.1), .int .u64 ((gt p_l z1).2.2.1), .int .u64 ((gt p_l z1).2.2.2.1), .int .u64 ((gt p_l z1).2.2.2.2.1), .int .u64 ((gt p_l z1).2.2.2.2.2.1), .int .u64 ((gt p_l z1).2.2.2.2.2.2)]) hf (by kernel_rfl) (by kernel_rfl) (by kernel_rfl) (by kernel_rfl) ?_
    clear hf; clear a; intro a hf
    replace hs : Sep w F R w3 F [.box w1.heap.size 25 [.int .u32 0, .int .u32 0, .int .u64 0, .int .u64 0, .int .u64 0, .int .u64 0, .int .u64 0]] := hs.sel [1] rfl rfl
    replace hf := Fr.keep (ks := [4, 16]) (L' := [(4, .pointer (some ⟨w1.heap.size, 0, none⟩)), (16, .agg #[.int .u32 ((gt p_l z1).1), .int .u32 ((gt p_l z1).2.1), .int .u64 ((gt p_l z1).2.2.1), .int .u64 ((gt p_l z1).2.2.2.1), .int .u64 ((gt p_l z1).2.2.2.2.1), .int .u64 ((gt p_l z1).2.2.2.2.2.1), .int .u64 ((gt p_l z1).2.2.2.2.2.2)])]) hf (by kernel_rfl)
    refine stB tbOk i25 (hs.bx 0 rfl) 0 [.int .u32 ((gt p_l z1).1), .int .u32 ((gt p_l z1).2.1), .int .u64 ((gt p_l z1).2.2.1), .int .u64 ((gt p_l z1).2.2.2.1), .int .u64 ((gt p_l z1).2.2.2.2.1), .int .u64 ((gt p_l z1).2.2.2.2.2.1), .int .u64 ((gt p_l z1).2.2.2.2.2.2)] [.int .u32 ((gt p_l z1).1), .int .u32 ((gt p_l z1).2.1), .int .u64 ((gt p_l z1).2.2.1), .int .u64 ((gt p_l z1).2.2.2.1), .int .u64 ((gt p_l z1).2.2.2.2.1), .int .u64 ((gt p_l z1).2.2.2.2.2.1), .int .u64 ((gt p_l z1).2.2.2.2.2.2)] (v := .agg #[.int .u32 ((gt p_l z1).1), .int .u32 ((gt p_l z1).2.1), .int .u64 ((gt p_l z1).2.2.1), .int .u64 ((gt p_l z1).2.2.2.1), .int .u64 ((gt p_l z1).2.2.2.2.1), .int .u64 ((gt p_l z1).2.2.2.2.2.1), .int .u64 ((gt p_l z1).2.2.2.2.2.2)]) rfl rfl (by kernel_rfl) (by kernel_rfl) (by kernel_rfl) (by kernel_rfl) hf (by kernel_rfl) (by kernel_rfl) (by kernel_rfl) ?_
    clear hf; clear a; intro w5 a hb hg _ hf
    replace hs : Sep w F R w5 F [.box w1.heap.size 25 [.int .u32 ((gt p_l z1).1), .int .u32 ((gt p_l z1).2.1), .int .u64 ((gt p_l z1).2.2.1), .int .u64 ((gt p_l z1).2.2.2.1), .int .u64 ((gt p_l z1).2.2.2.2.1), .int .u64 ((gt p_l z1).2.2.2.2.2.1), .int .u64 ((gt p_l z1).2.2.2.2.2.2)]] := hs.updBox 0 rfl hb hg
    clear hb hg
    replace hf := Fr.keep (ks := [4]) (L' := [(4, .pointer (some ⟨w1.heap.size, 0, none⟩))]) hf (by kernel_rfl)
    refine st tbOk 1 [4, 5] (L' := [(4, .pointer (some ⟨w1.heap.size, 0, none⟩)), (5, .bool true)]) hf (by kernel_rfl) ?_
    clear hf; clear a; intro a hf
    refine wpList_nil ?_
    have hr := Option.some.inj hS; subst hr
    refine wp_ret ?_
    exact ret_okC hf (vs := [.agg #[.int .u32 ((gt p_l z1).1), .int .u32 ((gt p_l z1).2.1), .int .u64 ((gt p_l z1).2.2.1), .int .u64 ((gt p_l z1).2.2.2.1), .int .u64 ((gt p_l z1).2.2.2.2.1), .int .u64 ((gt p_l z1).2.2.2.2.2.1), .int .u64 ((gt p_l z1).2.2.2.2.2.2)], .bool true]) (.cons (.cell tbOk (hs.cbx 0 rfl) (off := 0) (by kernel_rfl) (by kernel_rfl)) (.cons (.tmp (by kernel_rfl)) .nil)) ⟨_, rfl, hs.sel [] rfl rfl⟩

set_option maxHeartbeats 4000000 in
theorem octets_Cut_ok {w : World} {F : SH} {b : List Int} {p_at : Int} {size : Int} {ao1 : Option Addr} {cp1 : Nat} (hs : Sep w F (blks [.ro (tI .u8) (.slice ao1 b.length cp1) b]) w F [.ro (tI .u8) (.slice ao1 b.length cp1) b]) {r : (List Int) × Int} (hS : octets_Cut b p_at size = some r) :
    Calls Try.prog 30 [.slice ao1 b.length cp1, .int .u64 p_at, .int .u64 size].toArray w (Gives (fun u w' => ∃ (ao4 : Option Addr) (cp4 : Nat) (F' : SH), u = .tuple #[.slice ao4 r.1.length cp4, .int .i64 r.2] ∧ Sep w F (blks [.ro (tI .u8) (.slice ao1 b.length cp1) b]) w' F' [.row 5 (tI .u8) (.slice ao4 r.1.length cp4) r.1])) := by
  generalize (blks [.ro (tI .u8) (.slice ao1 b.length cp1) b]) = R at hs ⊢
  unfold octets_Cut at hS
  refine fn_ok (vs := [.slice ao1 b.length cp1, .int .u64 p_at, .int .u64 size]) Try.func30 rfl 21 Try.ntmps30 (Nat.le_of_ble_eq_true rfl) ?_
  intro a hf
  replace hf := Fr.cast (L' := [(0, .slice ao1 b.length cp1), (1, .int .u64 p_at), (2, .int .u64 size)]) hf (by kernel_rfl)
  refine sq ?_
  refine reg ?_
  refine st tbOk 2 [0, 1, 2] (L' := [(0, .slice ao1 b.length cp1), (1, .int .u64 p_at), (2, .int .u64 size)]) hf (by kernel_rfl) ?_
  clear hf; clear a; intro a hf
  refine wpList_nil ?_
  refine sq ?_
  refine sq ?_
  refine reg ?_
  refine st tbOk 4 [0, 1, 2, 9, 10, 11] (L' := [(0, .slice ao1 b.length cp1), (1, .int .u64 p_at), (2, .int .u64 size), (9, .int .i64 ((b.length : Nat) : Int)), (10, .int .u64 p_at), (11, .int .u64 size)]) hf (by kernel_rfl) ?_
  clear hf; clear a; intro a hf
  have hT := of_bd hS; clear hS; obtain ⟨z1, hz1, hS⟩ := hT
  refine clV ent44 (vs := [.int .i64 ((b.length : Nat) : Int), .int .u64 p_at, .int .u64 size]) (caps := []) hf (by kernel_rfl) (by kernel_rfl) (by kernel_rfl) (by kernel_rfl) (octets_has_ok (p_many := ((b.length : Nat) : Int)) (p_at := p_at) (size := size) (hs.enter [] rfl rfl) hz1) ?_
  clear hf; clear a; intro v w1 a hT hf; obtain ⟨F1, rfl, hr⟩ := hT
  replace hs : Sep w F R w1 F1 [.ro (tI .u8) (.slice ao1 b.length cp1) b] := hs.back [] [0] rfl rfl rfl rfl hr
  clear hr
  replace hf := Fr.keep (ks := [0, 1, 2, 12]) (L' := [(0, .slice ao1 b.length cp1), (1, .int .u64 p_at), (2, .int .u64 size), (12, .bool z1)]) hf (by kernel_rfl)
  refine st tbOk 1 [0, 1, 2, 13] (L' := [(0, .slice ao1 b.length cp1), (1, .int .u64 p_at), (2, .int .u64 size), (13, .bool (!z1))]) hf (by kernel_rfl) ?_
  clear hf; clear a; intro a hf
  refine wpList_nil ?_
  refine cnd (b := !z1) hf (by kernel_rfl) (fun hb1 => ?_) (fun hb1 => ?_)
  · replace hS := of_t hb1 hS
    refine sq ?_
    refine reg ?_
    refine st tbOk 2 [6, 7] (L' := [(6, .slice none 0 0), (7, .int .i64 10)]) hf (by kernel_rfl) ?_
    clear hf; clear a; intro a hf
    refine wpList_nil ?_
    have hr := Option.some.inj hS; subst hr
    refine wp_ret ?_
    replace hs : Sep w F R w1 F1 [.row 5 (tI .u8) (.slice none 0 0) ([] : List Int), .ro (tI .u8) (.slice ao1 b.length cp1) b] := hs.addNil 5 (tI .u8)
    exact ret_ok hf (vs := [.slice none 0 0, .int .i64 10]) (by kernel_rfl) ⟨none, 0, _, rfl, hs.sel [0] rfl rfl⟩
  · replace hS := of_f hb1 hS
    refine wp_skip ?_
    refine sq ?_
    refine reg ?_
    refine st tbOk 5 [14, 15, 18] (L' := [(14, .slice ao1 b.length cp1), (15, .int .u64 p_at), (18, .int .u64 (IntKind.u64.wrap (p_at + size)))]) hf (by kernel_rfl) ?_
    clear hf; clear a; intro a hf
    have hT := of_gd hS; clear hS; obtain ⟨hc1, hS⟩ := hT
    refine sl tbOk u27 i5 rfl (hs.ro 0 rfl) (lo := p_at) (hi := IntKind.u64.wrap (p_at + size)) (m := 0) hc1 (.inr ⟨_, .u64, rfl, by kernel_rfl⟩) (.inr ⟨_, .u64, rfl, by kernel_rfl⟩) (.inl rfl) hf (by kernel_rfl) (by kernel_rfl) (by kernel_rfl) ?_
    clear hf; clear a; intro ao2 cp2 a hr1 hf
    replace hs : Sep w F R w1 F1 [.ro (tI .u8) (.slice ao2 (cutL b p_at (IntKind.u64.wrap (p_at + size))).length cp2) (cutL b p_at (IntKind.u64.wrap (p_at + size))), .ro (tI .u8) (.slice ao1 b.length cp1) b] := hs.addRo hr1
    replace hs : Sep w F R w1 F1 [.ro (tI .u8) (.slice ao2 (cutL b p_at (IntKind.u64.wrap (p_at + size))).length cp2) (cutL b p_at (IntKind.u64.wrap (p_at + size)))] := hs.sel [0] rfl rfl
    replace hf := Fr.keep (ks := [19]) (L' := [(19, .slice ao2 (cutL b p_at (IntKind.u64.wrap (p_at + size))).length cp2)]) hf (by kernel_rfl)
    have hT := of_bd hS; clear hS; obtain ⟨z2, hz2, hS⟩ := hT
    refine clV ent42 (vs := [.slice ao2 (cutL b p_at (IntKind.u64.wrap (p_at + size))).length cp2]) (caps := []) hf (by kernel_rfl) (by kernel_rfl) (by kernel_rfl) (by kernel_rfl) (slices_Clone_byte_byte_ok (s := (cutL b p_at (IntKind.u64.wrap (p_at + size)))) (hs.enter [0] rfl rfl) hz2) ?_
    clear hf; clear a; intro v w2 a hT hf; obtain ⟨ao3, cp3, F2, rfl, hr⟩ := hT
    replace hs : Sep w F R w2 F2 [.row 5 (tI .u8) (.slice ao3 z2.length cp3) z2, .ro (tI .u8) (.slice ao2 (cutL b p_at (IntKind.u64.wrap (p_at + size))).length cp2) (cutL b p_at (IntKind.u64.wrap (p_at + size)))] := hs.back [0] [0] rfl rfl rfl rfl hr
    clear hr
    replace hs : Sep w F R w2 F2 [.row 5 (tI .u8) (.slice ao3 z2.length cp3) z2] := hs.sel [0] rfl rfl
    replace hf := Fr.keep (ks := [20]) (L' := [(20, .slice ao3 z2.length cp3)]) hf (by kernel_rfl)
    refine st tbOk 2 [6, 7] (L' := [(6, .slice ao3 z2.length cp3), (7, .int .i64 0)]) hf (by kernel_rfl) ?_
    clear hf; clear a; intro a hf
    refine wpList_nil ?_
    have hr := Option.some.inj hS; subst hr
    refine wp_ret ?_
    exact ret_ok hf (vs := [.slice ao3 z2.length cp3, .int .i64 0]) (by kernel_rfl) ⟨ao3, cp3, _, rfl, hs.sel [0] rfl rfl⟩

set_option maxHeartbeats 4000000 in
theorem segs_Table_ok {w : World} {F : SH} {b : List Int} {p_at : Int} {n : Int} {ao1 : Option Addr} {cp1 : Nat} (hs : Sep w F (blks [.ro (tI .u8) (.slice ao1 b.length cp1) b]) w F [.ro (tI .u8) (.slice ao1 b.length cp1) b]) {r : (List (Int × Int × Int × Int × Int × Int × Int)) × Int} (hS : segs_Table b p_at n = some r) :
    Calls Try.prog 16 [.slice ao1 b.length cp1, .int .u64 p_at, .int .i64 n].toArray w (Gives (fun u w' => ∃ (ao7 : Option Addr) (cp7 : Nat) (F' : SH), u = .tuple #[.slice ao7 r.1.length cp7, .int .i64 r.2] ∧ Sep w F (blks [.ro (tI .u8) (.slice ao1 b.length cp1) b]) w' F' [.row 25 ty24 (.slice ao7 r.1.length cp7) r.1])) := by
  generalize (blks [.ro (tI .u8) (.slice ao1 b.length cp1) b]) = R at hs ⊢
  unfold segs_Table at hS
  refine fn_ok (vs := [.slice ao1 b.length cp1, .int .u64 p_at, .int .i64 n]) Try.func16 rfl 53 Try.ntmps16 (Nat.le_of_ble_eq_true rfl) ?_
  intro a hf
  replace hf := Fr.cast (L' := [(0, .slice ao1 b.length cp1), (1, .int .u64 p_at), (2, .int .i64 n)]) hf (by kernel_rfl)
  refine sq ?_
  refine reg ?_
  refine st tbOk 2 [0, 1, 2] (L' := [(0, .slice ao1 b.length cp1), (1, .int .u64 p_at), (2, .int .i64 n)]) hf (by kernel_rfl) ?_
  clear hf; clear a; intro a hf
  refine wpList_nil ?_
  refine sq ?_
  refine sq ?_
  refine ctj (fun (s1 : Bool) (a : Act) (w' : World) => ∃ (F1 : SH), Sep w F R w' F1 [.ro (tI .u8) (.slice ao1 b.length cp1) b] ∧ Fr 53 [(0, .slice ao1 b.length cp1), (1, .int .u64 p_at), (2, .int .i64 n), (19, .bool s1)] a) hS ?_ ?_
  · clear hS hf hs; clear a; intro s1 a w1 hM hS
    obtain ⟨F1, hs, hf⟩ := hM
    refine cnd (b := s1) hf (by kernel_rfl) (fun hb2 => ?_) (fun hb2 => ?_)
    · replace hS := of_t hb2 hS
      refine sq ?_
      refine reg ?_
      refine st tbOk 2 [6, 7] (L' := [(6, .slice none 0 0), (7, .int .i64 1)]) hf (by kernel_rfl) ?_
      clear hf; clear a; intro a hf
      refine wpList_nil ?_
      have hr := Option.some.inj hS; subst hr
      refine wp_ret ?_
      replace hs : Sep w F R w1 F1 [.row 25 ty24 (.slice none 0 0) ([] : List (Int × Int × Int × Int × Int × Int × Int)), .ro (tI .u8) (.slice ao1 b.length cp1) b] := hs.addNil 25 ty24
      exact ret_ok hf (vs := [.slice none 0 0, .int .i64 1]) (by kernel_rfl) ⟨none, 0, _, rfl, hs.sel [0] rfl rfl⟩
    · replace hS := of_f hb2 hS
      refine wp_skip ?_
      refine sq ?_
      refine reg ?_
      refine st tbOk 5 [2, 21, 22, 25] (L' := [(2, .int .i64 n), (21, .slice ao1 b.length cp1), (22, .int .u64 p_at), (25, .int .u64 (IntKind.u64.wrap (IntKind.i64.wrap (n * 56))))]) hf (by kernel_rfl) ?_
      clear hf; clear a; intro a hf
      have hT := of_bd hS; clear hS; obtain ⟨z1, hz1, hS⟩ := hT
      refine clV ent30 (vs := [.slice ao1 b.length cp1, .int .u64 p_at, .int .u64 (IntKind.u64.wrap (IntKind.i64.wrap (n * 56)))]) (caps := []) hf (by kernel_rfl) (by kernel_rfl) (by kernel_rfl) (by kernel_rfl) (octets_Cut_ok (b := b) (p_at := p_at) (size := IntKind.u64.wrap (IntKind.i64.wrap (n * 56))) (hs.enter [0] rfl rfl) hz1) ?_
      clear hf; clear a; intro v w2 a hT hf; obtain ⟨ao2, cp2, F2, rfl, hr⟩ := hT
      replace hs : Sep w F R w2 F2 [.row 5 (tI .u8) (.slice ao2 z1.1.length cp2) z1.1, .ro (tI .u8) (.slice ao1 b.length cp1) b] := hs.back [0] [0] rfl rfl rfl rfl hr
      clear hr
      replace hs : Sep w F R w2 F2 [.row 5 (tI .u8) (.slice ao2 z1.1.length cp2) z1.1] := hs.sel [0] rfl rfl
      replace hf := Fr.keep (ks := [2, 26]) (L' := [(2, .int .i64 n), (26, .tuple #[.slice ao2 z1.1.length cp2, .int .i64 z1.2])]) hf (by kernel_rfl)
      refine st tbOk 5 [2, 8, 9] (L' := [(2, .int .i64 n), (8, .slice ao2 z1.1.length cp2), (9, .int .i64 z1.2)]) hf (by kernel_rfl) ?_
      clear hf; clear a; intro a hf
      refine wpList_nil ?_
      refine sq ?_
      refine sq ?_
      refine reg ?_
      refine st tbOk 2 [2, 8, 9, 30] (L' := [(2, .int .i64 n), (8, .slice ao2 z1.1.length cp2), (9, .int .i64 z1.2), (30, .bool (z1.2 != 0))]) hf (by kernel_rfl) ?_
      clear hf; clear a; intro a hf
      refine wpList_nil ?_
      refine cnd (b := z1.2 != 0) hf (by kernel_rfl) (fun hb3 => ?_) (fun hb3 => ?_)
      · replace hS := of_t hb3 hS
        refine sq ?_
        refine reg ?_
        refine st tbOk 3 [6, 7] (L' := [(6, .slice none 0 0), (7, .int .i64 z1.2)]) hf (by kernel_rfl) ?_
        clear hf; clear a; intro a hf
        refine wpList_nil ?_
        have hr := Option.some.inj hS; subst hr
        refine wp_ret ?_
        replace hs : Sep w F R w2 F2 [.row 25 ty24 (.slice none 0 0) ([] : List (Int × Int × Int × Int × Int × Int × Int)), .row 5 (tI .u8) (.slice ao2 z1.1.length cp2) z1.1] := hs.addNil 25 ty24
        exact ret_ok hf (vs := [.slice none 0 0, .int .i64 z1.2]) (by kernel_rfl) ⟨none, 0, _, rfl, hs.sel [0] rfl rfl⟩
      · replace hS := of_f hb3 hS
        refine wp_skip ?_
        refine sq ?_
        refine reg ?_
        refine st tbOk 1 [2, 8, 10] (L' := [(2, .int .i64 n), (8, .slice ao2 z1.1.length cp2), (10, .slice none 0 0)]) hf (by kernel_rfl) ?_
        clear hf; clear a; intro a hf
        refine wpList_nil ?_
        refine sq ?_
        refine sq ?_
        refine reg ?_
        refine st tbOk 2 [8, 10, 32, 33] (L' := [(8, .slice ao2 z1.1.length cp2), (10, .slice none 0 0), (32, .int .i64 n), (33, .int .i64 0)]) hf (by kernel_rfl) ?_
        clear hf; clear a; intro a hf
        refine wpList_nil ?_
        obtain ⟨F3, _, hs⟩ := hs.frz 0 rfl
        replace hs : Sep w F R w2 F3 [.ro (tI .u8) (.slice ao2 z1.1.length cp2) z1.1] := hs
        refine ctj (fun (s3 : List (Int × Int × Int × Int × Int × Int × Int)) (a : Act) (w' : World) => ∃ (ao3 : Option Addr) (cp3 : Nat) (F4 : SH), Sep w F R w' F4 [.row 25 ty24 (.slice ao3 s3.length cp3) s3] ∧ Fr 53 [(10, .slice ao3 s3.length cp3)] a) hS ?_ ?_
        · clear hS hf hs; clear a; intro s3 a w9 hM hS
          obtain ⟨ao3, cp3, F4, hs, hf⟩ := hM
          refine sq ?_
          refine reg ?_
          refine st tbOk 3 [6, 7] (L' := [(6, .slice ao3 s3.length cp3), (7, .int .i64 0)]) hf (by kernel_rfl) ?_
          clear hf; clear a; intro a hf
          refine wpList_nil ?_
          have hr := Option.some.inj hS; subst hr
          refine wp_ret ?_
          exact ret_ok hf (vs := [.slice ao3 s3.length cp3, .int .i64 0]) (by kernel_rfl) ⟨ao3, cp3, _, rfl, hs.sel [0] rfl rfl⟩
        · clear hS; intro KK2 k3 hK2 hS
          refine blk ?_
          replace hs : Sep w F R w2 F3 [.row 25 ty24 (.slice none 0 0) ([] : List (Int × Int × Int × Int × Int × Int × Int)), .ro (tI .u8) (.slice ao2 z1.1.length cp2) z1.1] := hs.addNil 25 ty24
          refine lp (st := ([], 0)) (fun (s4 : (List (Int × Int × Int × Int × Int × Int × Int)) × Int) (a : Act) (w' : World) => ∃ (ao4 : Option Addr) (cp4 : Nat) (F5 : SH), Sep w F R w' F5 [.row 25 ty24 (.slice ao4 s4.1.length cp4) s4.1, .ro (tI .u8) (.slice ao2 z1.1.length cp2) z1.1] ∧ Fr 53 [(8, .slice ao2 z1.1.length cp2), (10, .slice ao4 s4.1.length cp4), (32, .int .i64 n), (33, .int .i64 s4.2)] a) ?_ ⟨none, 0, _, hs.sel [0, 1] rfl rfl, hf.keep (ks := [8, 10, 32, 33]) (by kernel_rfl)⟩ hS
          clear hS hf hs; clear a
          intro rec1 KK3 hK3 s4 a w3 hM hS
          obtain ⟨ao4, cp4, F5, hs, hf⟩ := hM
          refine sq ?_
          refine reg ?_
          refine st tbOk 1 [8, 10, 32, 33, 34] (L' := [(8, .slice ao2 z1.1.length cp2), (10, .slice ao4 s4.1.length cp4), (32, .int .i64 n), (33, .int .i64 s4.2), (34, .bool (decide (s4.2 < n)))]) hf (by kernel_rfl) ?_
          clear hf; clear a; intro a hf
          refine wpList_nil ?_
          refine sq ?_
          refine cnd (b := decide (s4.2 < n)) hf (by kernel_rfl) (fun hb4 => ?_) (fun hb4 => ?_)
          · replace hS := of_t hb4 hS
            refine wp_skip ?_
            refine sq ?_
            refine blk ?_
            refine sq ?_
            refine reg ?_
            refine st tbOk 2 [8, 10, 11, 32, 33] (L' := [(8, .slice ao2 z1.1.length cp2), (10, .slice ao4 s4.1.length cp4), (11, .int .i64 s4.2), (32, .int .i64 n), (33, .int .i64 s4.2)]) hf (by kernel_rfl) ?_
            clear hf; clear a; intro a hf
            refine wpList_nil ?_
            refine sq ?_
            refine reg ?_
            refine st tbOk 3 [8, 10, 32, 33, 37, 39] (L' := [(8, .slice ao2 z1.1.length cp2), (10, .slice ao4 s4.1.length cp4), (32, .int .i64 n), (33, .int .i64 s4.2), (37, .slice ao2 z1.1.length cp2), (39, .int .i64 (IntKind.i64.wrap (s4.2 * 56)))]) hf (by kernel_rfl) ?_
            clear hf; clear a; intro a hf
            have hT := of_gd hS; clear hS; obtain ⟨hc1, hS⟩ := hT
            refine sl tbOk u27 i5 rfl (hs.ro 1 rfl) (lo := IntKind.i64.wrap (s4.2 * 56)) (hi := ((z1.1.length : Nat) : Int)) (m := 0) hc1 (.inr ⟨_, .i64, rfl, by kernel_rfl⟩) (.inl ⟨rfl, rfl⟩) (.inl rfl) hf (by kernel_rfl) (by kernel_rfl) (by kernel_rfl) ?_
            clear hf; clear a; intro ao5 cp5 a hr1 hf
            replace hs : Sep w F R w3 F5 [.ro (tI .u8) (.slice ao5 (cutL z1.1 (IntKind.i64.wrap (s4.2 * 56)) ((z1.1.length : Nat) : Int)).length cp5) (cutL z1.1 (IntKind.i64.wrap (s4.2 * 56)) ((z1.1.length : Nat) : Int)), .row 25 ty24 (.slice ao4 s4.1.length cp4) s4.1, .ro (tI .u8) (.slice ao2 z1.1.length cp2) z1.1] := hs.addRo hr1
            replace hf := Fr.keep (ks := [8, 10, 32, 33, 40]) (L' := [(8, .slice ao2 z1.1.length cp2), (10, .slice ao4 s4.1.length cp4), (32, .int .i64 n), (33, .int .i64 s4.2), (40, .slice ao5 (cutL z1.1 (IntKind.i64.wrap (s4.2 * 56)) ((z1.1.length : Nat) : Int)).length cp5)]) hf (by kernel_rfl)
            have hT := of_bd hS; clear hS; obtain ⟨z2, hz2, hS⟩ := hT
            refine clV ent13 (vs := [.slice ao5 (cutL z1.1 (IntKind.i64.wrap (s4.2 * 56)) ((z1.1.length : Nat) : Int)).length cp5]) (caps := []) hf (by kernel_rfl) (by kernel_rfl) (by kernel_rfl) (by kernel_rfl) (segs_Get_ok (b := (cutL z1.1 (IntKind.i64.wrap (s4.2 * 56)) ((z1.1.length : Nat) : Int))) (hs.enter [0] rfl rfl) hz2) ?_
            clear hf; clear a; intro v w4 a hT hf; obtain ⟨F6, rfl, hr⟩ := hT
            replace hs : Sep w F R w4 F6 [.ro (tI .u8) (.slice ao5 (cutL z1.1 (IntKind.i64.wrap (s4.2 * 56)) ((z1.1.length : Nat) : Int)).length cp5) (cutL z1.1 (IntKind.i64.wrap (s4.2 * 56)) ((z1.1.length : Nat) : Int)), .row 25 ty24 (.slice ao4 s4.1.length cp4) s4.1, .ro (tI .u8) (.slice ao2 z1.1.length cp2) z1.1] := hs.back [0] [0, 1, 2] rfl rfl rfl rfl hr
            clear hr
            replace hs : Sep w F R w4 F6 [.row 25 ty24 (.slice ao4 s4.1.length cp4) s4.1, .ro (tI .u8) (.slice ao2 z1.1.length cp2) z1.1] := hs.sel [1, 2] rfl rfl
            replace hf := Fr.keep (ks := [8, 10, 32, 33, 41]) (L' := [(8, .slice ao2 z1.1.length cp2), (10, .slice ao4 s4.1.length cp4), (32, .int .i64 n), (33, .int .i64 s4.2), (41, .tuple #[.agg #[.int .u32 z2.1.1, .int .u32 z2.1.2.1, .int .u64 z2.1.2.2.1, .int .u64 z2.1.2.2.2.1, .int .u64 z2.1.2.2.2.2.1, .int .u64 z2.1.2.2.2.2.2.1, .int .u64 z2.1.2.2.2.2.2.2], .int .i64 z2.2])]) hf (by kernel_rfl)
            refine st tbOk 3 [8, 10, 32, 33, 42, 43] (L' := [(8, .slice ao2 z1.1.length cp2), (10, .slice ao4 s4.1.length cp4), (32, .int .i64 n), (33, .int .i64 s4.2), (42, .agg #[.int .u32 z2.1.1, .int .u32 z2.1.2.1, .int .u64 z2.1.2.2.1, .int .u64 z2.1.2.2.2.1, .int .u64 z2.1.2.2.2.2.1, .int .u64 z2.1.2.2.2.2.2.1, .int .u64 z2.1.2.2.2.2.2.2]), (43, .int .i64 z2.2)]) hf (by kernel_rfl) ?_
            clear hf; clear a; intro a hf
            refine al tbOk i25 [.int .u32 0, .int .u32 0, .int .u64 0, .int .u64 0, .int .u64 0, .int .u64 0, .int .u64 0] rfl (by kernel_rfl) hf (by kernel_rfl) (by kernel_rfl) ?_
            clear hf; clear a; intro w5 a hb hx _ hf
            replace hs : Sep w F R w5 F6 [.box w4.heap.size 25 [.int .u32 0, .int .u32 0, .int .u64 0, .int .u64 0, .int .u64 0, .int .u64 0, .int .u64 0], .row 25 ty24 (.slice ao4 s4.1.length cp4) s4.1, .ro (tI .u8) (.slice ao2 z1.1.length cp2) z1.1] := hs.newBox hb hx
            clear hb hx
            replace hf := Fr.keep (ks := [8, 10, 12, 32, 33, 42, 43]) (L' := [(8, .slice ao2 z1.1.length cp2), (10, .slice ao4 s4.1.length cp4), (12, .pointer (some ⟨w4.heap.size, 0, none⟩)), (32, .int .i64 n), (33, .int .i64 s4.2), (42, .agg #[.int .u32 z2.1.1, .int .u32 z2.1.2.1, .int .u64 z2.1.2.2.1, .int .u64 z2.1.2.2.2.1, .int .u64 z2.1.2.2.2.2.1, .int .u64 z2.1.2.2.2.2.2.1, .int .u64 z2.1.2.2.2.2.2.2]), (43, .int .i64 z2.2)]) hf (by kernel_rfl)
            refine stB tbOk i25 (hs.bx 0 rfl) 0 [.int .u32 z2.1.1, .int .u32 z2.1.2.1, .int .u64 z2.1.2.2.1, .int .u64 z2.1.2.2.2.1, .int .u64 z2.1.2.2.2.2.1, .int .u64 z2.1.2.2.2.2.2.1, .int .u64 z2.1.2.2.2.2.2.2] [.int .u32 z2.1.1, .int .u32 z2.1.2.1, .int .u64 z2.1.2.2.1, .int .u64 z2.1.2.2.2.1, .int .u64 z2.1.2.2.2.2.1, .int .u64 z2.1.2.2.2.2.2.1, .int .u64 z2.1.2.2.2.2.2.2] (v := .agg #[.int .u32 z2.1.1, .int .u32 z2.1.2.1, .int .u64 z2.1.2.2.1, .int .u64 z2.1.2.2.2.1, .int .u64 z2.1.2.2.2.2.1, .int .u64 z2.1.2.2.2.2.2.1, .int .u64 z2.1.2.2.2.2.2.2]) rfl rfl (by kernel_rfl) (by kernel_rfl) (by kernel_rfl) (by kernel_rfl) hf (by kernel_rfl) (by kernel_rfl) (by kernel_rfl) ?_
            clear hf; clear a; intro w6 a hb hg _ hf
            replace hs : Sep w F R w6 F6 [.box w4.heap.size 25 [.int .u32 z2.1.1, .int .u32 z2.1.2.1, .int .u64 z2.1.2.2.1, .int .u64 z2.1.2.2.2.1, .int .u64 z2.1.2.2.2.2.1, .int .u64 z2.1.2.2.2.2.2.1, .int .u64 z2.1.2.2.2.2.2.2], .row 25 ty24 (.slice ao4 s4.1.length cp4) s4.1, .ro (tI .u8) (.slice ao2 z1.1.length cp2) z1.1] := hs.updBox 0 rfl hb hg
            clear hb hg
            replace hf := Fr.keep (ks := [8, 10, 12, 32, 33, 43]) (L' := [(8, .slice ao2 z1.1.length cp2), (10, .slice ao4 s4.1.length cp4), (12, .pointer (some ⟨w4.heap.size, 0, none⟩)), (32, .int .i64 n), (33, .int .i64 s4.2), (43, .int .i64 z2.2)]) hf (by kernel_rfl)
            refine st tbOk 1 [8, 10, 12, 13, 32, 33] (L' := [(8, .slice ao2 z1.1.length cp2), (10, .slice ao4 s4.1.length cp4), (12, .pointer (some ⟨w4.heap.size, 0, none⟩)), (13, .int .i64 z2.2), (32, .int .i64 n), (33, .int .i64 s4.2)]) hf (by kernel_rfl) ?_
            clear hf; clear a; intro a hf
            refine wpList_nil ?_
            refine sq ?_
            refine sq ?_
            refine reg ?_
            refine st tbOk 2 [8, 10, 12, 13, 32, 33, 45] (L' := [(8, .slice ao2 z1.1.length cp2), (10, .slice ao4 s4.1.length cp4), (12, .pointer (some ⟨w4.heap.size, 0, none⟩)), (13, .int .i64 z2.2), (32, .int .i64 n), (33, .int .i64 s4.2), (45, .bool (z2.2 != 0))]) hf (by kernel_rfl) ?_
            clear hf; clear a; intro a hf
            refine wpList_nil ?_
            refine cnd (b := z2.2 != 0) hf (by kernel_rfl) (fun hb5 => ?_) (fun hb5 => ?_)
            · replace hS := of_t hb5 hS
              refine sq ?_
              refine reg ?_
              refine st tbOk 3 [6, 7] (L' := [(6, .slice none 0 0), (7, .int .i64 z2.2)]) hf (by kernel_rfl) ?_
              clear hf; clear a; intro a hf
              refine wpList_nil ?_
              have hr := Option.some.inj hS; subst hr
              refine wp_ret ?_
              replace hs : Sep w F R w6 F6 [.row 25 ty24 (.slice none 0 0) ([] : List (Int × Int × Int × Int × Int × Int × Int)), .box w4.heap.size 25 [.int .u32 z2.1.1, .int .u32 z2.1.2.1, .int .u64 z2.1.2.2.1, .int .u64 z2.1.2.2.2.1, .int .u64 z2.1.2.2.2.2.1, .int .u64 z2.1.2.2.2.2.2.1, .int .u64 z2.1.2.2.2.2.2.2], .row 25 ty24 (.slice ao4 s4.1.length cp4) s4.1, .ro (tI .u8) (.slice ao2 z1.1.length cp2) z1.1] := hs.addNil 25 ty24
              exact ret_ok hf (vs := [.slice none 0 0, .int .i64 z2.2]) (by kernel_rfl) ⟨none, 0, _, rfl, hs.sel [0] rfl rfl⟩
            · replace hS := of_f hb5 hS
              refine wp_skip ?_
              refine reg ?_
              refine st tbOk 1 [8, 12, 32, 33, 47] (L' := [(8, .slice ao2 z1.1.length cp2), (12, .pointer (some ⟨w4.heap.size, 0, none⟩)), (32, .int .i64 n), (33, .int .i64 s4.2), (47, .slice ao4 s4.1.length cp4)]) hf (by kernel_rfl) ?_
              clear hf; clear a; intro a hf
              refine ldC tbOk (T := 25) (hs.cbx 0 rfl) (LeH.refl _) 0 (.agg #[.int .u32 z2.1.1, .int .u32 z2.1.2.1, .int .u64 z2.1.2.2.1, .int .u64 z2.1.2.2.2.1, .int .u64 z2.1.2.2.2.2.1, .int .u64 z2.1.2.2.2.2.2.1, .int .u64 z2.1.2.2.2.2.2.2]) hf (by kernel_rfl) (by kernel_rfl) (by kernel_rfl) (by kernel_rfl) ?_
              clear hf; clear a; intro a hf
              replace hs : Sep w F R w6 F6 [.row 25 ty24 (.slice ao4 s4.1.length cp4) s4.1, .ro (tI .u8) (.slice ao2 z1.1.length cp2) z1.1] := hs.sel [1, 2] rfl rfl
              replace hf := Fr.keep (ks := [8, 32, 33, 47, 48]) (L' := [(8, .slice ao2 z1.1.length cp2), (32, .int .i64 n), (33, .int .i64 s4.2), (47, .slice ao4 s4.1.length cp4), (48, .agg #[.int .u32 z2.1.1, .int .u32 z2.1.2.1, .int .u64 z2.1.2.2.1, .int .u64 z2.1.2.2.2.1, .int .u64 z2.1.2.2.2.2.1, .int .u64 z2.1.2.2.2.2.2.1, .int .u64 z2.1.2.2.2.2.2.2])]) hf (by kernel_rfl)
              refine bsR tbOk u33 i25 rfl (t := ty24) (vs := [(0, .agg #[.int .u32 z2.1.1, .int .u32 z2.1.2.1, .int .u64 z2.1.2.2.1, .int .u64 z2.1.2.2.2.1, .int .u64 z2.1.2.2.2.2.1, .int .u64 z2.1.2.2.2.2.2.1, .int .u64 z2.1.2.2.2.2.2.2])]) (cells := #[.int .u32 z2.1.1, .int .u32 z2.1.2.1, .int .u64 z2.1.2.2.1, .int .u64 z2.1.2.2.2.1, .int .u64 z2.1.2.2.2.2.1, .int .u64 z2.1.2.2.2.2.2.1, .int .u64 z2.1.2.2.2.2.2.2]) ([(z2.1.1, z2.1.2.1, z2.1.2.2.1, z2.1.2.2.2.1, z2.1.2.2.2.2.1, z2.1.2.2.2.2.2.1, z2.1.2.2.2.2.2.2)] : List (Int × Int × Int × Int × Int × Int × Int)) hs.le hf (by kernel_rfl) (by kernel_rfl) (by kernel_rfl) rfl (by kernel_rfl) (reps_flat _) rfl ?_
              clear hf; clear a; intro w7 a ho hx hf
              replace hs : Sep w F R w7 F6 [.row 25 ty24 (.slice (some ⟨w6.heap.size, 0, none⟩) ([(z2.1.1, z2.1.2.1, z2.1.2.2.1, z2.1.2.2.2.1, z2.1.2.2.2.2.1, z2.1.2.2.2.2.2.1, z2.1.2.2.2.2.2.2)] : List (Int × Int × Int × Int × Int × Int × Int)).length ([(z2.1.1, z2.1.2.1, z2.1.2.2.1, z2.1.2.2.2.1, z2.1.2.2.2.2.1, z2.1.2.2.2.2.2.1, z2.1.2.2.2.2.2.2)] : List (Int × Int × Int × Int × Int × Int × Int)).length) ([(z2.1.1, z2.1.2.1, z2.1.2.2.1, z2.1.2.2.2.1, z2.1.2.2.2.2.1, z2.1.2.2.2.2.2.1, z2.1.2.2.2.2.2.2)] : List (Int × Int × Int × Int × Int × Int × Int)), .row 25 ty24 (.slice ao4 s4.1.length cp4) s4.1, .ro (tI .u8) (.slice ao2 z1.1.length cp2) z1.1] := hs.newRow ho hx
              clear ho hx
              replace hf := Fr.keep (ks := [8, 32, 33, 47, 49]) (L' := [(8, .slice ao2 z1.1.length cp2), (32, .int .i64 n), (33, .int .i64 s4.2), (47, .slice ao4 s4.1.length cp4), (49, .slice (some ⟨w6.heap.size, 0, none⟩) ([(z2.1.1, z2.1.2.1, z2.1.2.2.1, z2.1.2.2.2.1, z2.1.2.2.2.2.1, z2.1.2.2.2.2.2.1, z2.1.2.2.2.2.2.2)] : List (Int × Int × Int × Int × Int × Int × Int)).length ([(z2.1.1, z2.1.2.1, z2.1.2.2.1, z2.1.2.2.2.1, z2.1.2.2.2.2.1, z2.1.2.2.2.2.2.1, z2.1.2.2.2.2.2.2)] : List (Int × Int × Int × Int × Int × Int × Int)).length)]) hf (by kernel_rfl)
              have hT := of_gd hS; clear hS; obtain ⟨hc2, hS⟩ := hT
              refine apR tbOk u33 i25 rfl rfl rfl rfl hs.le (hs.own 1 rfl) (hs.raW 0 rfl) hc2 hf (by kernel_rfl) (by kernel_rfl) (by kernel_rfl) (by kernel_rfl) ?_
              clear hf; clear a; intro ao6 cp6 w8 a ho hg hl hf
              replace hs : Sep w F R w8 F6 [.row 25 ty24 (.slice (some ⟨w6.heap.size, 0, none⟩) ([(z2.1.1, z2.1.2.1, z2.1.2.2.1, z2.1.2.2.2.1, z2.1.2.2.2.2.1, z2.1.2.2.2.2.2.1, z2.1.2.2.2.2.2.2)] : List (Int × Int × Int × Int × Int × Int × Int)).length ([(z2.1.1, z2.1.2.1, z2.1.2.2.1, z2.1.2.2.2.1, z2.1.2.2.2.2.1, z2.1.2.2.2.2.2.1, z2.1.2.2.2.2.2.2)] : List (Int × Int × Int × Int × Int × Int × Int)).length) ([(z2.1.1, z2.1.2.1, z2.1.2.2.1, z2.1.2.2.2.1, z2.1.2.2.2.2.1, z2.1.2.2.2.2.2.1, z2.1.2.2.2.2.2.2)] : List (Int × Int × Int × Int × Int × Int × Int)), .row 25 ty24 (.slice ao6 (s4.1 ++ ([(z2.1.1, z2.1.2.1, z2.1.2.2.1, z2.1.2.2.2.1, z2.1.2.2.2.2.1, z2.1.2.2.2.2.2.1, z2.1.2.2.2.2.2.2)] : List (Int × Int × Int × Int × Int × Int × Int))).length cp6) (s4.1 ++ ([(z2.1.1, z2.1.2.1, z2.1.2.2.1, z2.1.2.2.2.1, z2.1.2.2.2.2.1, z2.1.2.2.2.2.2.1, z2.1.2.2.2.2.2.2)] : List (Int × Int × Int × Int × Int × Int × Int))), .ro (tI .u8) (.slice ao2 z1.1.length cp2) z1.1] := hs.updRow 1 rfl ho hg hl
              clear ho hg hl
              replace hs : Sep w F R w8 F6 [.row 25 ty24 (.slice ao6 (s4.1 ++ ([(z2.1.1, z2.1.2.1, z2.1.2.2.1, z2.1.2.2.2.1, z2.1.2.2.2.2.1, z2.1.2.2.2.2.2.1, z2.1.2.2.2.2.2.2)] : List (Int × Int × Int × Int × Int × Int × Int))).length cp6) (s4.1 ++ ([(z2.1.1, z2.1.2.1, z2.1.2.2.1, z2.1.2.2.2.1, z2.1.2.2.2.2.1, z2.1.2.2.2.2.2.1, z2.1.2.2.2.2.2.2)] : List (Int × Int × Int × Int × Int × Int × Int))), .ro (tI .u8) (.slice ao2 z1.1.length cp2) z1.1] := hs.sel [1, 2] rfl rfl
              replace hf := Fr.keep (ks := [8, 32, 33, 50]) (L' := [(8, .slice ao2 z1.1.length cp2), (32, .int .i64 n), (33, .int .i64 s4.2), (50, .slice ao6 (s4.1 ++ ([(z2.1.1, z2.1.2.1, z2.1.2.2.1, z2.1.2.2.2.1, z2.1.2.2.2.2.1, z2.1.2.2.2.2.2.1, z2.1.2.2.2.2.2.2)] : List (Int × Int × Int × Int × Int × Int × Int))).length cp6)]) hf (by kernel_rfl)
              refine st tbOk 1 [8, 10, 32, 33] (L' := [(8, .slice ao2 z1.1.length cp2), (10, .slice ao6 (s4.1 ++ ([(z2.1.1, z2.1.2.1, z2.1.2.2.1, z2.1.2.2.2.1, z2.1.2.2.2.2.1, z2.1.2.2.2.2.2.1, z2.1.2.2.2.2.2.2)] : List (Int × Int × Int × Int × Int × Int × Int))).length cp6), (32, .int .i64 n), (33, .int .i64 s4.2)]) hf (by kernel_rfl) ?_
              clear hf; clear a; intro a hf
              refine wpList_nil ?_
              refine reg ?_
              refine st tbOk 2 [8, 10, 32, 33] (L' := [(8, .slice ao2 z1.1.length cp2), (10, .slice ao6 (s4.1 ++ ([(z2.1.1, z2.1.2.1, z2.1.2.2.1, z2.1.2.2.2.1, z2.1.2.2.2.2.1, z2.1.2.2.2.2.2.1, z2.1.2.2.2.2.2.2)] : List (Int × Int × Int × Int × Int × Int × Int))).length cp6), (32, .int .i64 n), (33, .int .i64 (IntKind.i64.wrap (s4.2 + 1)))]) hf (by kernel_rfl) ?_
              clear hf; clear a; intro a hf
              refine wpList_nil ?_
              exact hK3 ((s4.1 ++ ([(z2.1.1, z2.1.2.1, z2.1.2.2.1, z2.1.2.2.2.1, z2.1.2.2.2.2.1, z2.1.2.2.2.2.2.1, z2.1.2.2.2.2.2.2)] : List (Int × Int × Int × Int × Int × Int × Int))), IntKind.i64.wrap (s4.2 + 1)) _ _ ⟨ao6, cp6, _, hs.sel [0, 1] rfl rfl, hf.keep (ks := [8, 10, 32, 33]) (by kernel_rfl)⟩ hS
          · replace hS := of_f hb4 hS
            refine wp_exit ?_
            exact hK2 s4.1 _ _ ⟨ao4, cp4, _, hs.sel [0] rfl rfl, hf.keep (ks := [10]) (by kernel_rfl)⟩ hS
  · clear hS; intro KK1 k1 hK1 hS
    refine reg ?_
    refine st tbOk 3 [0, 1, 2, 16] (L' := [(0, .slice ao1 b.length cp1), (1, .int .u64 p_at), (2, .int .i64 n), (16, .bool (decide (n < 0)))]) hf (by kernel_rfl) ?_
    clear hf; clear a; intro a hf
    rcases Bool.eq_false_or_eq_true (decide (n < 0)) with hb1 | hb1
    · replace hS := of_t hb1 hS
      replace hf := Fr.cast (L' := [(0, .slice ao1 b.length cp1), (1, .int .u64 p_at), (2, .int .i64 n), (16, .bool true)]) hf (by rw [hb1])
      refine st tbOk 3 [0, 1, 2, 19] (L' := [(0, .slice ao1 b.length cp1), (1, .int .u64 p_at), (2, .int .i64 n), (19, .bool true)]) hf (by kernel_rfl) ?_
      clear hf; clear a; intro a hf
      refine wpList_nil ?_
      exact hK1 true _ _ ⟨_, hs.sel [0] rfl rfl, hf.keep (ks := [0, 1, 2, 19]) (by kernel_rfl)⟩ hS
    · replace hS := of_f hb1 hS
      replace hf := Fr.cast (L' := [(0, .slice ao1 b.length cp1), (1, .int .u64 p_at), (2, .int .i64 n), (16, .bool false)]) hf (by rw [hb1])
      refine st tbOk 3 [0, 1, 2, 19] (L' := [(0, .slice ao1 b.length cp1), (1, .int .u64 p_at), (2, .int .i64 n), (19, .bool (decide (n > 64)))]) hf (by kernel_rfl) ?_
      clear hf; clear a; intro a hf
      refine wpList_nil ?_
      exact hK1 (decide (n > 64)) _ _ ⟨_, hs.sel [0] rfl rfl, hf.keep (ks := [0, 1, 2, 19]) (by kernel_rfl)⟩ hS

set_option maxHeartbeats 4000000 in
theorem slices_Index_uint32_uint32_ok {w : World} {F : SH} {p_s : List Int} {p_v : Int} {ao1 : Option Addr} {cp1 : Nat} (hs : Sep w F (blks [.ro (tI .u32) (.slice ao1 p_s.length cp1) p_s]) w F [.ro (tI .u32) (.slice ao1 p_s.length cp1) p_s]) {r : Int} (hS : slices_Index_uint32_uint32 p_s p_v = some r) :
    Calls Try.prog 54 [.slice ao1 p_s.length cp1, .int .u32 p_v].toArray w (Gives (fun u w' => ∃ (F' : SH), u = .int .i64 r ∧ Sep w F (blks [.ro (tI .u32) (.slice ao1 p_s.length cp1) p_s]) w' F' [])) := by
  generalize (blks [.ro (tI .u32) (.slice ao1 p_s.length cp1) p_s]) = R at hs ⊢
  unfold slices_Index_uint32_uint32 at hS
  refine fn_ok (vs := [.slice ao1 p_s.length cp1, .int .u32 p_v]) Try.func54 rfl 19 Try.ntmps54 (Nat.le_of_ble_eq_true rfl) ?_
  intro a hf
  replace hf := Fr.cast (L' := [(0, .slice ao1 p_s.length cp1), (1, .int .u32 p_v)]) hf (by kernel_rfl)
  refine sq ?_
  refine reg ?_
  refine st tbOk 1 [0, 1] (L' := [(0, .slice ao1 p_s.length cp1), (1, .int .u32 p_v)]) hf (by kernel_rfl) ?_
  clear hf; clear a; intro a hf
  refine wpList_nil ?_
  refine sq ?_
  refine sq ?_
  refine reg ?_
  refine st tbOk 3 [0, 1, 7, 8] (L' := [(0, .slice ao1 p_s.length cp1), (1, .int .u32 p_v), (7, .int .i64 ((p_s.length : Nat) : Int)), (8, .int .i64 0)]) hf (by kernel_rfl) ?_
  clear hf; clear a; intro a hf
  refine wpList_nil ?_
  refine ctj (fun (s1 : Unit) (a : Act) (w' : World) => ∃ (F1 : SH), Sep w F R w' F1 [] ∧ Fr 19 [] a) hS ?_ ?_
  · clear hS hf hs; clear a; intro s1 a w2 hM hS
    obtain ⟨F1, hs, hf⟩ := hM
    refine sq ?_
    refine reg ?_
    refine st tbOk 1 [4] (L' := [(4, .int .i64 (-1))]) hf (by kernel_rfl) ?_
    clear hf; clear a; intro a hf
    refine wpList_nil ?_
    have hr := Option.some.inj hS; subst hr
    refine wp_ret ?_
    exact ret_ok hf (vs := [.int .i64 (-1)]) (by kernel_rfl) ⟨_, rfl, hs.sel [] rfl rfl⟩
  · clear hS; intro KK1 k1 hK1 hS
    refine blk ?_
    refine lp (st := 0) (fun (s2 : Int) (a : Act) (w' : World) => ∃ (F2 : SH), Sep w F R w' F2 [.ro (tI .u32) (.slice ao1 p_s.length cp1) p_s] ∧ Fr 19 [(0, .slice ao1 p_s.length cp1), (1, .int .u32 p_v), (7, .int .i64 ((p_s.length : Nat) : Int)), (8, .int .i64 s2)] a) ?_ ⟨_, hs.sel [0] rfl rfl, hf.keep (ks := [0, 1, 7, 8]) (by kernel_rfl)⟩ hS
    clear hS hf hs; clear a
    intro rec1 KK2 hK2 s2 a w1 hM hS
    obtain ⟨F2, hs, hf⟩ := hM
    refine sq ?_
    refine reg ?_
    refine st tbOk 1 [0, 1, 7, 8, 9] (L' := [(0, .slice ao1 p_s.length cp1), (1, .int .u32 p_v), (7, .int .i64 ((p_s.length : Nat) : Int)), (8, .int .i64 s2), (9, .bool (decide (s2 < ((p_s.length : Nat) : Int))))]) hf (by kernel_rfl) ?_
    clear hf; clear a; intro a hf
    refine wpList_nil ?_
    refine sq ?_
    refine cnd (b := decide (s2 < ((p_s.length : Nat) : Int))) hf (by kernel_rfl) (fun hb1 => ?_) (fun hb1 => ?_)
    · replace hS := of_t hb1 hS
      refine wp_skip ?_
      refine sq ?_
      refine blk ?_
      refine sq ?_
      refine reg ?_
      refine st tbOk 2 [0, 1, 5, 7, 8] (L' := [(0, .slice ao1 p_s.length cp1), (1, .int .u32 p_v), (5, .int .i64 s2), (7, .int .i64 ((p_s.length : Nat) : Int)), (8, .int .i64 s2)]) hf (by kernel_rfl) ?_
      clear hf; clear a; intro a hf
      refine wpList_nil ?_
      refine sq ?_
      refine reg ?_
      refine st tbOk 3 [0, 1, 5, 7, 8, 11, 12, 13] (L' := [(0, .slice ao1 p_s.length cp1), (1, .int .u32 p_v), (5, .int .i64 s2), (7, .int .i64 ((p_s.length : Nat) : Int)), (8, .int .i64 s2), (11, .int .u32 p_v), (12, .slice ao1 p_s.length cp1), (13, .int .i64 s2)]) hf (by kernel_rfl) ?_
      clear hf; clear a; intro a hf
      have hT := of_gd hS; clear hS; obtain ⟨hc1, hS⟩ := hT
      refine ixR tbOk u74 i22 rfl rfl ((hs.ro 0 rfl).ra (LeH.refl _)) (k := .i64) (n := s2) hc1 hf (by kernel_rfl) (by kernel_rfl) (by kernel_rfl) (by kernel_rfl) ?_
      clear hf; clear a; intro pb1 po1 c1 a hp1 hr1 hf
      obtain rfl : c1 = [.int .u32 (gt p_s s2)] := hr1
      replace hs : Sep w F R w1 F2 [.cel pb1 po1 [.int .u32 (gt p_s s2)], .ro (tI .u32) (.slice ao1 p_s.length cp1) p_s] := hs.addCel hp1
      replace hf := Fr.keep (ks := [0, 1, 5, 7, 8, 11, 14]) (L' := [(0, .slice ao1 p_s.length cp1), (1, .int .u32 p_v), (5, .int .i64 s2), (7, .int .i64 ((p_s.length : Nat) : Int)), (8, .int .i64 s2), (11, .int .u32 p_v), (14, .pointer (some ⟨pb1, po1, none⟩))]) hf (by kernel_rfl)
      refine ldC tbOk (T := 22) (hs.ccel 0 rfl) (LeH.refl _) 0 (.int .u32 (gt p_s s2)) hf (by kernel_rfl) (by kernel_rfl) (by kernel_rfl) (by kernel_rfl) ?_
      clear hf; clear a; intro a hf
      replace hs : Sep w F R w1 F2 [.ro (tI .u32) (.slice ao1 p_s.length cp1) p_s] := hs.sel [1] rfl rfl
      replace hf := Fr.keep (ks := [0, 1, 5, 7, 8, 11, 15]) (L' := [(0, .slice ao1 p_s.length cp1), (1, .int .u32 p_v), (5, .int .i64 s2), (7, .int .i64 ((p_s.length : Nat) : Int)), (8, .int .i64 s2), (11, .int .u32 p_v), (15, .int .u32 (gt p_s s2))]) hf (by kernel_rfl)
      refine st tbOk 1 [0, 1, 5, 7, 8, 16] (L' := [(0, .slice ao1 p_s.length cp1), (1, .int .u32 p_v), (5, .int .i64 s2), (7, .int .i64 ((p_s.length : Nat) : Int)), (8, .int .i64 s2), (16, .bool (p_v == (gt p_s s2)))]) hf (by kernel_rfl) ?_
      clear hf; clear a; intro a hf
      refine wpList_nil ?_
      refine cnd (b := p_v == (gt p_s s2)) hf (by kernel_rfl) (fun hb2 => ?_) (fun hb2 => ?_)
      · replace hS := of_t hb2 hS
        refine sq ?_
        refine reg ?_
        refine st tbOk 2 [4] (L' := [(4, .int .i64 s2)]) hf (by kernel_rfl) ?_
        clear hf; clear a; intro a hf
        refine wpList_nil ?_
        have hr := Option.some.inj hS; subst hr
        refine wp_ret ?_
        exact ret_ok hf (vs := [.int .i64 s2]) (by kernel_rfl) ⟨_, rfl, hs.sel [] rfl rfl⟩
      · replace hS := of_f hb2 hS
        refine wp_skip ?_
        refine reg ?_
        refine st tbOk 2 [0, 1, 7, 8] (L' := [(0, .slice ao1 p_s.length cp1), (1, .int .u32 p_v), (7, .int .i64 ((p_s.length : Nat) : Int)), (8, .int .i64 (IntKind.i64.wrap (s2 + 1)))]) hf (by kernel_rfl) ?_
        clear hf; clear a; intro a hf
        refine wpList_nil ?_
        exact hK2 (IntKind.i64.wrap (s2 + 1)) _ _ ⟨_, hs.sel [0] rfl rfl, hf.keep (ks := [0, 1, 7, 8]) (by kernel_rfl)⟩ hS
    · replace hS := of_f hb1 hS
      refine wp_exit ?_
      exact hK1 () _ _ ⟨_, hs.sel [] rfl rfl, hf.keep (ks := []) (by kernel_rfl)⟩ hS

set_option maxHeartbeats 4000000 in
theorem slices_Contains_uint32_uint32_ok {w : World} {F : SH} {p_s : List Int} {p_v : Int} {ao1 : Option Addr} {cp1 : Nat} (hs : Sep w F (blks [.ro (tI .u32) (.slice ao1 p_s.length cp1) p_s]) w F [.ro (tI .u32) (.slice ao1 p_s.length cp1) p_s]) {r : Bool} (hS : slices_Contains_uint32_uint32 p_s p_v = some r) :
    Calls Try.prog 53 [.slice ao1 p_s.length cp1, .int .u32 p_v].toArray w (Gives (fun u w' => ∃ (F' : SH), u = .bool r ∧ Sep w F (blks [.ro (tI .u32) (.slice ao1 p_s.length cp1) p_s]) w' F' [])) := by
  generalize (blks [.ro (tI .u32) (.slice ao1 p_s.length cp1) p_s]) = R at hs ⊢
  unfold slices_Contains_uint32_uint32 at hS
  refine fn_ok (vs := [.slice ao1 p_s.length cp1, .int .u32 p_v]) Try.func53 rfl 9 Try.ntmps53 (Nat.le_of_ble_eq_true rfl) ?_
  intro a hf
  replace hf := Fr.cast (L' := [(0, .slice ao1 p_s.length cp1), (1, .int .u32 p_v)]) hf (by kernel_rfl)
  refine sq ?_
  refine reg ?_
  refine st tbOk 1 [0, 1] (L' := [(0, .slice ao1 p_s.length cp1), (1, .int .u32 p_v)]) hf (by kernel_rfl) ?_
  clear hf; clear a; intro a hf
  refine wpList_nil ?_
  refine sq ?_
  refine reg ?_
  refine st tbOk 2 [5, 6] (L' := [(5, .slice ao1 p_s.length cp1), (6, .int .u32 p_v)]) hf (by kernel_rfl) ?_
  clear hf; clear a; intro a hf
  have hT := of_bd hS; clear hS; obtain ⟨z1, hz1, hS⟩ := hT
  refine clV ent54 (vs := [.slice ao1 p_s.length cp1, .int .u32 p_v]) (caps := []) hf (by kernel_rfl) (by kernel_rfl) (by kernel_rfl) (by kernel_rfl) (slices_Index_uint32_uint32_ok (p_s := p_s) (p_v := p_v) (hs.enter [0] rfl rfl) hz1) ?_
  clear hf; clear a; intro v w1 a hT hf; obtain ⟨F1, rfl, hr⟩ := hT
  replace hs : Sep w F R w1 F1 [.ro (tI .u32) (.slice ao1 p_s.length cp1) p_s] := hs.back [0] [0] rfl rfl rfl rfl hr
  clear hr
  replace hs : Sep w F R w1 F1 [] := hs.sel [] rfl rfl
  replace hf := Fr.keep (ks := [7]) (L' := [(7, .int .i64 z1)]) hf (by kernel_rfl)
  refine st tbOk 2 [4] (L' := [(4, .bool (decide (z1 ≥ 0)))]) hf (by kernel_rfl) ?_
  clear hf; clear a; intro a hf
  refine wpList_nil ?_
  have hr := Option.some.inj hS; subst hr
  refine wp_ret ?_
  exact ret_ok hf (vs := [.bool (decide (z1 ≥ 0))]) (by kernel_rfl) ⟨_, rfl, hs.sel [] rfl rfl⟩

set_option maxHeartbeats 4000000 in
theorem segs_kind_ok {w : World} {F : SH} {p_k : Int}  (hs : Sep w F (blks []) w F []) {r : Bool} (hS : segs_kind p_k = some r) :
    Calls Try.prog 46 [.int .u32 p_k].toArray w (Gives (fun u w' => ∃ (F' : SH), u = .bool r ∧ Sep w F (blks []) w' F' [])) := by
  generalize (blks []) = R at hs ⊢
  unfold segs_kind at hS
  refine fn_ok (vs := [.int .u32 p_k]) Try.func46 rfl 6 Try.ntmps46 (Nat.le_of_ble_eq_true rfl) ?_
  intro a hf
  replace hf := Fr.cast (L' := [(0, .int .u32 p_k)]) hf (by kernel_rfl)
  refine sq ?_
  refine reg ?_
  refine st tbOk 1 [0] (L' := [(0, .int .u32 p_k)]) hf (by kernel_rfl) ?_
  clear hf; clear a; intro a hf
  refine wpList_nil ?_
  refine sq ?_
  refine reg ?_
  refine bsR tbOk u74 i22 rfl (t := (tI .u32)) (vs := [(0, .int .u32 0), (1, .int .u32 1), (2, .int .u32 2), (3, .int .u32 4), (4, .int .u32 7)]) (cells := #[.int .u32 0, .int .u32 1, .int .u32 2, .int .u32 4, .int .u32 7]) ([0, 1, 2, 4, 7] : List Int) hs.le hf (by kernel_rfl) (by kernel_rfl) (by kernel_rfl) rfl (by kernel_rfl) (reps_flat _) rfl ?_
  clear hf; clear a; intro w1 a ho hx hf
  replace hs : Sep w F R w1 F [.row 22 (tI .u32) (.slice (some ⟨w.heap.size, 0, none⟩) ([0, 1, 2, 4, 7] : List Int).length ([0, 1, 2, 4, 7] : List Int).length) ([0, 1, 2, 4, 7] : List Int)] := hs.newRow ho hx
  clear ho hx
  replace hf := Fr.keep (ks := [0, 3]) (L' := [(0, .int .u32 p_k), (3, .slice (some ⟨w.heap.size, 0, none⟩) ([0, 1, 2, 4, 7] : List Int).length ([0, 1, 2, 4, 7] : List Int).length)]) hf (by kernel_rfl)
  refine st tbOk 1 [3, 4] (L' := [(3, .slice (some ⟨w.heap.size, 0, none⟩) ([0, 1, 2, 4, 7] : List Int).length ([0, 1, 2, 4, 7] : List Int).length), (4, .int .u32 p_k)]) hf (by kernel_rfl) ?_
  clear hf; clear a; intro a hf
  have hT := of_bd hS; clear hS; obtain ⟨z1, hz1, hS⟩ := hT
  refine clV ent53 (vs := [.slice (some ⟨w.heap.size, 0, none⟩) ([0, 1, 2, 4, 7] : List Int).length ([0, 1, 2, 4, 7] : List Int).length, .int .u32 p_k]) (caps := []) hf (by kernel_rfl) (by kernel_rfl) (by kernel_rfl) (by kernel_rfl) (slices_Contains_uint32_uint32_ok (p_s := ([0, 1, 2, 4, 7] : List Int)) (p_v := p_k) (hs.lend [0] [] rfl rfl rfl rfl rfl) hz1) ?_
  clear hf; clear a; intro v w2 a hT hf; obtain ⟨F1, rfl, hr⟩ := hT
  replace hs : Sep w F R w2 F [.row 22 (tI .u32) (.slice (some ⟨w.heap.size, 0, none⟩) ([0, 1, 2, 4, 7] : List Int).length ([0, 1, 2, 4, 7] : List Int).length) ([0, 1, 2, 4, 7] : List Int)] := hs.backL [0] [] [0] rfl rfl rfl rfl rfl rfl hr trivial
  clear hr
  replace hs : Sep w F R w2 F [] := hs.sel [] rfl rfl
  replace hf := Fr.keep (ks := [5]) (L' := [(5, .bool z1)]) hf (by kernel_rfl)
  refine st tbOk 1 [2] (L' := [(2, .bool z1)]) hf (by kernel_rfl) ?_
  clear hf; clear a; intro a hf
  refine wpList_nil ?_
  have hr := Option.some.inj hS; subst hr
  refine wp_ret ?_
  exact ret_ok hf (vs := [.bool z1]) (by kernel_rfl) ⟨_, rfl, hs.sel [] rfl rfl⟩

set_option maxHeartbeats 4000000 in
theorem segs_one_ok {w : World} {F : SH} {p_s : Int × Int × Int × Int × Int × Int × Int} {size : Int}  (hs : Sep w F (blks []) w F []) {r : Int} (hS : segs_one p_s size = some r) :
    Calls Try.prog 32 [.agg #[.int .u32 p_s.1, .int .u32 p_s.2.1, .int .u64 p_s.2.2.1, .int .u64 p_s.2.2.2.1, .int .u64 p_s.2.2.2.2.1, .int .u64 p_s.2.2.2.2.2.1, .int .u64 p_s.2.2.2.2.2.2], .int .u64 size].toArray w (Gives (fun u w' => ∃ (F' : SH), u = .int .i64 r ∧ Sep w F (blks []) w' F' [])) := by
  generalize (blks []) = R at hs ⊢
  unfold segs_one at hS
  refine fn_ok (vs := [.agg #[.int .u32 p_s.1, .int .u32 p_s.2.1, .int .u64 p_s.2.2.1, .int .u64 p_s.2.2.2.1, .int .u64 p_s.2.2.2.2.1, .int .u64 p_s.2.2.2.2.2.1, .int .u64 p_s.2.2.2.2.2.2], .int .u64 size]) Try.func32 rfl 69 Try.ntmps32 (Nat.le_of_ble_eq_true rfl) ?_
  intro a hf
  replace hf := Fr.cast (L' := [(0, .agg #[.int .u32 p_s.1, .int .u32 p_s.2.1, .int .u64 p_s.2.2.1, .int .u64 p_s.2.2.2.1, .int .u64 p_s.2.2.2.2.1, .int .u64 p_s.2.2.2.2.2.1, .int .u64 p_s.2.2.2.2.2.2]), (1, .int .u64 size)]) hf (by kernel_rfl)
  refine sq ?_
  refine reg ?_
  refine bx (T := 25) [.int .u32 p_s.1, .int .u32 p_s.2.1, .int .u64 p_s.2.2.1, .int .u64 p_s.2.2.2.1, .int .u64 p_s.2.2.2.2.1, .int .u64 p_s.2.2.2.2.2.1, .int .u64 p_s.2.2.2.2.2.2] (v := .agg #[.int .u32 p_s.1, .int .u32 p_s.2.1, .int .u64 p_s.2.2.1, .int .u64 p_s.2.2.2.1, .int .u64 p_s.2.2.2.2.1, .int .u64 p_s.2.2.2.2.2.1, .int .u64 p_s.2.2.2.2.2.2]) rfl (by kernel_rfl) hf (by kernel_rfl) (by kernel_rfl) (by kernel_rfl) ?_
  clear hf; clear a; intro w1 a hb hx _ hf
  replace hs : Sep w F R w1 F [.box w.heap.size 25 [.int .u32 p_s.1, .int .u32 p_s.2.1, .int .u64 p_s.2.2.1, .int .u64 p_s.2.2.2.1, .int .u64 p_s.2.2.2.2.1, .int .u64 p_s.2.2.2.2.2.1, .int .u64 p_s.2.2.2.2.2.2]] := hs.newBox hb hx
  clear hb hx
  replace hf := Fr.keep (ks := [1, 2]) (L' := [(1, .int .u64 size), (2, .pointer (some ⟨w.heap.size, 0, none⟩))]) hf (by kernel_rfl)
  refine st tbOk 1 [1, 2] (L' := [(1, .int .u64 size), (2, .pointer (some ⟨w.heap.size, 0, none⟩))]) hf (by kernel_rfl) ?_
  clear hf; clear a; intro a hf
  refine wpList_nil ?_
  refine sq ?_
  refine blk ?_
  refine sq ?_
  refine ctj (fun (s1 : Bool) (a : Act) (w' : World) => ∃ (F1 : SH), Sep w F R w' F1 [.box w.heap.size 25 [.int .u32 p_s.1, .int .u32 p_s.2.1, .int .u64 p_s.2.2.1, .int .u64 p_s.2.2.2.1, .int .u64 p_s.2.2.2.2.1, .int .u64 p_s.2.2.2.2.2.1, .int .u64 p_s.2.2.2.2.2.2]] ∧ Fr 69 [(1, .int .u64 size), (2, .pointer (some ⟨w.heap.size, 0, none⟩)), (5, .bool s1)] a) hS ?_ ?_
  · clear hS hf hs; clear a; intro s1 a w3 hM hS
    obtain ⟨F1, hs, hf⟩ := hM
    refine cnd (b := s1) hf (by kernel_rfl) (fun hb2 => ?_) (fun hb2 => ?_)
    · replace hS := of_t hb2 hS
      refine sq ?_
      refine reg ?_
      refine st tbOk 1 [4] (L' := [(4, .int .i64 11)]) hf (by kernel_rfl) ?_
      clear hf; clear a; intro a hf
      refine wpList_nil ?_
      have hr := Option.some.inj hS; subst hr
      refine wp_ret ?_
      exact ret_ok hf (vs := [.int .i64 11]) (by kernel_rfl) ⟨_, rfl, hs.sel [] rfl rfl⟩
    · replace hS := of_f hb2 hS
      refine sq ?_
      refine reg ?_
      refine st tbOk 1 [1, 2, 16] (L' := [(1, .int .u64 size), (2, .pointer (some ⟨w.heap.size, 0, none⟩)), (16, .pointer (some ⟨w.heap.size, 0, none⟩))]) hf (by kernel_rfl) ?_
      clear hf; clear a; intro a hf
      refine ldC tbOk (T := 22) (hs.cbx 0 rfl) (LeH.refl _) 0 (.int .u32 p_s.1) hf (by kernel_rfl) (by kernel_rfl) (by kernel_rfl) (by kernel_rfl) ?_
      clear hf; clear a; intro a hf
      replace hf := Fr.keep (ks := [1, 2, 17]) (L' := [(1, .int .u64 size), (2, .pointer (some ⟨w.heap.size, 0, none⟩)), (17, .int .u32 p_s.1)]) hf (by kernel_rfl)
      refine st tbOk 2 [1, 2, 15] (L' := [(1, .int .u64 size), (2, .pointer (some ⟨w.heap.size, 0, none⟩)), (15, .bool (p_s.1 == 0))]) hf (by kernel_rfl) ?_
      clear hf; clear a; intro a hf
      refine wpList_nil ?_
      refine cnd (b := p_s.1 == 0) hf (by kernel_rfl) (fun hb3 => ?_) (fun hb3 => ?_)
      · replace hS := of_t hb3 hS
        refine sq ?_
        refine reg ?_
        refine st tbOk 1 [4] (L' := [(4, .int .i64 0)]) hf (by kernel_rfl) ?_
        clear hf; clear a; intro a hf
        refine wpList_nil ?_
        have hr := Option.some.inj hS; subst hr
        refine wp_ret ?_
        exact ret_ok hf (vs := [.int .i64 0]) (by kernel_rfl) ⟨_, rfl, hs.sel [] rfl rfl⟩
      · replace hS := of_f hb3 hS
        refine sq ?_
        refine ctj (fun (s2 : Bool) (a : Act) (w' : World) => ∃ (F3 : SH), Sep w F R w' F3 [.box w.heap.size 25 [.int .u32 p_s.1, .int .u32 p_s.2.1, .int .u64 p_s.2.2.1, .int .u64 p_s.2.2.2.1, .int .u64 p_s.2.2.2.2.1, .int .u64 p_s.2.2.2.2.2.1, .int .u64 p_s.2.2.2.2.2.2]] ∧ Fr 69 [(2, .pointer (some ⟨w.heap.size, 0, none⟩)), (19, .bool s2)] a) hS ?_ ?_
        · clear hS hf hs; clear a; intro s2 a w4 hM hS
          obtain ⟨F3, hs, hf⟩ := hM
          refine cnd (b := s2) hf (by kernel_rfl) (fun hb5 => ?_) (fun hb5 => ?_)
          · replace hS := of_t hb5 hS
            refine sq ?_
            refine reg ?_
            refine st tbOk 1 [4] (L' := [(4, .int .i64 10)]) hf (by kernel_rfl) ?_
            clear hf; clear a; intro a hf
            refine wpList_nil ?_
            have hr := Option.some.inj hS; subst hr
            refine wp_ret ?_
            exact ret_ok hf (vs := [.int .i64 10]) (by kernel_rfl) ⟨_, rfl, hs.sel [] rfl rfl⟩
          · replace hS := of_f hb5 hS
            refine sq ?_
            refine reg ?_
            refine st tbOk 1 [2, 34] (L' := [(2, .pointer (some ⟨w.heap.size, 0, none⟩)), (34, .pointer (some ⟨w.heap.size, 5, none⟩))]) hf (by kernel_rfl) ?_
            clear hf; clear a; intro a hf
            refine ldC tbOk (T := 23) (hs.cbx 0 rfl) (LeH.refl _) 5 (.int .u64 p_s.2.2.2.2.2.1) hf (by kernel_rfl) (by kernel_rfl) (by kernel_rfl) (by kernel_rfl) ?_
            clear hf; clear a; intro a hf
            replace hf := Fr.keep (ks := [2, 35]) (L' := [(2, .pointer (some ⟨w.heap.size, 0, none⟩)), (35, .int .u64 p_s.2.2.2.2.2.1)]) hf (by kernel_rfl)
            refine st tbOk 1 [2, 35, 36] (L' := [(2, .pointer (some ⟨w.heap.size, 0, none⟩)), (35, .int .u64 p_s.2.2.2.2.2.1), (36, .pointer (some ⟨w.heap.size, 4, none⟩))]) hf (by kernel_rfl) ?_
            clear hf; clear a; intro a hf
            refine ldC tbOk (T := 23) (hs.cbx 0 rfl) (LeH.refl _) 4 (.int .u64 p_s.2.2.2.2.1) hf (by kernel_rfl) (by kernel_rfl) (by kernel_rfl) (by kernel_rfl) ?_
            clear hf; clear a; intro a hf
            replace hf := Fr.keep (ks := [2, 35, 37]) (L' := [(2, .pointer (some ⟨w.heap.size, 0, none⟩)), (35, .int .u64 p_s.2.2.2.2.2.1), (37, .int .u64 p_s.2.2.2.2.1)]) hf (by kernel_rfl)
            refine st tbOk 2 [2, 33] (L' := [(2, .pointer (some ⟨w.heap.size, 0, none⟩)), (33, .bool (decide (p_s.2.2.2.2.2.1 < p_s.2.2.2.2.1)))]) hf (by kernel_rfl) ?_
            clear hf; clear a; intro a hf
            refine wpList_nil ?_
            refine cnd (b := decide (p_s.2.2.2.2.2.1 < p_s.2.2.2.2.1)) hf (by kernel_rfl) (fun hb6 => ?_) (fun hb6 => ?_)
            · replace hS := of_t hb6 hS
              refine sq ?_
              refine reg ?_
              refine st tbOk 1 [4] (L' := [(4, .int .i64 11)]) hf (by kernel_rfl) ?_
              clear hf; clear a; intro a hf
              refine wpList_nil ?_
              have hr := Option.some.inj hS; subst hr
              refine wp_ret ?_
              exact ret_ok hf (vs := [.int .i64 11]) (by kernel_rfl) ⟨_, rfl, hs.sel [] rfl rfl⟩
            · replace hS := of_f hb6 hS
              refine sq ?_
              refine ctj (fun (s3 : Bool) (a : Act) (w' : World) => ∃ (F4 : SH), Sep w F R w' F4 [.box w.heap.size 25 [.int .u32 p_s.1, .int .u32 p_s.2.1, .int .u64 p_s.2.2.1, .int .u64 p_s.2.2.2.1, .int .u64 p_s.2.2.2.2.1, .int .u64 p_s.2.2.2.2.2.1, .int .u64 p_s.2.2.2.2.2.2]] ∧ Fr 69 [(2, .pointer (some ⟨w.heap.size, 0, none⟩)), (39, .bool s3)] a) hS ?_ ?_
              · clear hS hf hs; clear a; intro s3 a w5 hM hS
                obtain ⟨F4, hs, hf⟩ := hM
                refine cnd (b := s3) hf (by kernel_rfl) (fun hb8 => ?_) (fun hb8 => ?_)
                · replace hS := of_t hb8 hS
                  refine sq ?_
                  refine reg ?_
                  refine st tbOk 1 [4] (L' := [(4, .int .i64 13)]) hf (by kernel_rfl) ?_
                  clear hf; clear a; intro a hf
                  refine wpList_nil ?_
                  have hr := Option.some.inj hS; subst hr
                  refine wp_ret ?_
                  exact ret_ok hf (vs := [.int .i64 13]) (by kernel_rfl) ⟨_, rfl, hs.sel [] rfl rfl⟩
                · replace hS := of_f hb8 hS
                  refine sq ?_
                  refine ctj (fun (s4 : Bool) (a : Act) (w' : World) => ∃ (F5 : SH), Sep w F R w' F5 [] ∧ Fr 69 [(51, .bool s4)] a) hS ?_ ?_
                  · clear hS hf hs; clear a; intro s4 a w6 hM hS
                    obtain ⟨F5, hs, hf⟩ := hM
                    refine cnd (b := s4) hf (by kernel_rfl) (fun hb11 => ?_) (fun hb11 => ?_)
                    · replace hS := of_t hb11 hS
                      refine sq ?_
                      refine reg ?_
                      refine st tbOk 1 [4] (L' := [(4, .int .i64 11)]) hf (by kernel_rfl) ?_
                      clear hf; clear a; intro a hf
                      refine wpList_nil ?_
                      have hr := Option.some.inj hS; subst hr
                      refine wp_ret ?_
                      exact ret_ok hf (vs := [.int .i64 11]) (by kernel_rfl) ⟨_, rfl, hs.sel [] rfl rfl⟩
                    · replace hS := of_f hb11 hS
                      refine wp_skip ?_
                      refine sq ?_
                      refine reg ?_
                      refine st tbOk 1 [4] (L' := [(4, .int .i64 0)]) hf (by kernel_rfl) ?_
                      clear hf; clear a; intro a hf
                      refine wpList_nil ?_
                      have hr := Option.some.inj hS; subst hr
                      refine wp_ret ?_
                      exact ret_ok hf (vs := [.int .i64 0]) (by kernel_rfl) ⟨_, rfl, hs.sel [] rfl rfl⟩
                  · clear hS; intro KK4 k4 hK4 hS
                    refine reg ?_
                    refine st tbOk 1 [2, 52] (L' := [(2, .pointer (some ⟨w.heap.size, 0, none⟩)), (52, .pointer (some ⟨w.heap.size, 0, none⟩))]) hf (by kernel_rfl) ?_
                    clear hf; clear a; intro a hf
                    refine ldC tbOk (T := 22) (hs.cbx 0 rfl) (LeH.refl _) 0 (.int .u32 p_s.1) hf (by kernel_rfl) (by kernel_rfl) (by kernel_rfl) (by kernel_rfl) ?_
                    clear hf; clear a; intro a hf
                    replace hf := Fr.keep (ks := [2, 53]) (L' := [(2, .pointer (some ⟨w.heap.size, 0, none⟩)), (53, .int .u32 p_s.1)]) hf (by kernel_rfl)
                    refine st tbOk 2 [2, 55] (L' := [(2, .pointer (some ⟨w.heap.size, 0, none⟩)), (55, .bool (p_s.1 == 1))]) hf (by kernel_rfl) ?_
                    clear hf; clear a; intro a hf
                    rcases Bool.eq_false_or_eq_true (p_s.1 == 1) with hb9 | hb9
                    · replace hS := of_t hb9 hS
                      replace hf := Fr.cast (L' := [(2, .pointer (some ⟨w.heap.size, 0, none⟩)), (55, .bool true)]) hf (by rw [hb9])
                      refine st tbOk 1 [2, 55, 56] (L' := [(2, .pointer (some ⟨w.heap.size, 0, none⟩)), (55, .bool true), (56, .pointer (some ⟨w.heap.size, 3, none⟩))]) hf (by kernel_rfl) ?_
                      clear hf; clear a; intro a hf
                      refine ldC tbOk (T := 23) (hs.cbx 0 rfl) (LeH.refl _) 3 (.int .u64 p_s.2.2.2.1) hf (by kernel_rfl) (by kernel_rfl) (by kernel_rfl) (by kernel_rfl) ?_
                      clear hf; clear a; intro a hf
                      replace hf := Fr.keep (ks := [2, 55, 57]) (L' := [(2, .pointer (some ⟨w.heap.size, 0, none⟩)), (55, .bool true), (57, .int .u64 p_s.2.2.2.1)]) hf (by kernel_rfl)
                      refine st tbOk 2 [2, 55, 58, 59] (L' := [(2, .pointer (some ⟨w.heap.size, 0, none⟩)), (55, .bool true), (58, .int .u64 (Int.tmod p_s.2.2.2.1 256)), (59, .pointer (some ⟨w.heap.size, 2, none⟩))]) hf (by kernel_rfl) ?_
                      clear hf; clear a; intro a hf
                      refine ldC tbOk (T := 23) (hs.cbx 0 rfl) (LeH.refl _) 2 (.int .u64 p_s.2.2.1) hf (by kernel_rfl) (by kernel_rfl) (by kernel_rfl) (by kernel_rfl) ?_
                      clear hf; clear a; intro a hf
                      replace hf := Fr.keep (ks := [2, 55, 58, 60]) (L' := [(2, .pointer (some ⟨w.heap.size, 0, none⟩)), (55, .bool true), (58, .int .u64 (Int.tmod p_s.2.2.2.1 256)), (60, .int .u64 p_s.2.2.1)]) hf (by kernel_rfl)
                      refine st tbOk 3 [2, 55, 63] (L' := [(2, .pointer (some ⟨w.heap.size, 0, none⟩)), (55, .bool true), (63, .bool ((Int.tmod p_s.2.2.2.1 256) != (Int.tmod p_s.2.2.1 256)))]) hf (by kernel_rfl) ?_
                      clear hf; clear a; intro a hf
                      rcases Bool.eq_false_or_eq_true ((Int.tmod p_s.2.2.2.1 256) != (Int.tmod p_s.2.2.1 256)) with hb10 | hb10
                      · replace hS := of_t hb10 hS
                        replace hf := Fr.cast (L' := [(2, .pointer (some ⟨w.heap.size, 0, none⟩)), (55, .bool true), (63, .bool true)]) hf (by rw [hb10])
                        refine st tbOk 6 [51] (L' := [(51, .bool true)]) hf (by kernel_rfl) ?_
                        clear hf; clear a; intro a hf
                        refine wpList_nil ?_
                        exact hK4 true _ _ ⟨_, hs.sel [] rfl rfl, hf.keep (ks := [51]) (by kernel_rfl)⟩ hS
                      · replace hS := of_f hb10 hS
                        replace hf := Fr.cast (L' := [(2, .pointer (some ⟨w.heap.size, 0, none⟩)), (55, .bool true), (63, .bool false)]) hf (by rw [hb10])
                        refine st tbOk 1 [55, 63, 64] (L' := [(55, .bool true), (63, .bool false), (64, .pointer (some ⟨w.heap.size, 5, none⟩))]) hf (by kernel_rfl) ?_
                        clear hf; clear a; intro a hf
                        refine ldC tbOk (T := 23) (hs.cbx 0 rfl) (LeH.refl _) 5 (.int .u64 p_s.2.2.2.2.2.1) hf (by kernel_rfl) (by kernel_rfl) (by kernel_rfl) (by kernel_rfl) ?_
                        clear hf; clear a; intro a hf
                        replace hs : Sep w F R w5 F4 [] := hs.sel [] rfl rfl
                        replace hf := Fr.keep (ks := [55, 63, 65]) (L' := [(55, .bool true), (63, .bool false), (65, .int .u64 p_s.2.2.2.2.2.1)]) hf (by kernel_rfl)
                        refine st tbOk 4 [51] (L' := [(51, .bool (p_s.2.2.2.2.2.1 == 0))]) hf (by kernel_rfl) ?_
                        clear hf; clear a; intro a hf
                        refine wpList_nil ?_
                        exact hK4 (p_s.2.2.2.2.2.1 == 0) _ _ ⟨_, hs.sel [] rfl rfl, hf.keep (ks := [51]) (by kernel_rfl)⟩ hS
                    · replace hS := of_f hb9 hS
                      replace hf := Fr.cast (L' := [(2, .pointer (some ⟨w.heap.size, 0, none⟩)), (55, .bool false)]) hf (by rw [hb9])
                      refine st tbOk 14 [51] (L' := [(51, .bool false)]) hf (by kernel_rfl) ?_
                      clear hf; clear a; intro a hf
                      refine wpList_nil ?_
                      exact hK4 false _ _ ⟨_, hs.sel [] rfl rfl, hf.keep (ks := [51]) (by kernel_rfl)⟩ hS
              · clear hS; intro KK3 k3 hK3 hS
                refine reg ?_
                refine st tbOk 1 [2, 40] (L' := [(2, .pointer (some ⟨w.heap.size, 0, none⟩)), (40, .pointer (some ⟨w.heap.size, 3, none⟩))]) hf (by kernel_rfl) ?_
                clear hf; clear a; intro a hf
                refine ldC tbOk (T := 23) (hs.cbx 0 rfl) (LeH.refl _) 3 (.int .u64 p_s.2.2.2.1) hf (by kernel_rfl) (by kernel_rfl) (by kernel_rfl) (by kernel_rfl) ?_
                clear hf; clear a; intro a hf
                replace hf := Fr.keep (ks := [2, 41]) (L' := [(2, .pointer (some ⟨w.heap.size, 0, none⟩)), (41, .int .u64 p_s.2.2.2.1)]) hf (by kernel_rfl)
                refine st tbOk 2 [2, 43] (L' := [(2, .pointer (some ⟨w.heap.size, 0, none⟩)), (43, .bool (decide (p_s.2.2.2.1 > 4294967296)))]) hf (by kernel_rfl) ?_
                clear hf; clear a; intro a hf
                rcases Bool.eq_false_or_eq_true (decide (p_s.2.2.2.1 > 4294967296)) with hb7 | hb7
                · replace hS := of_t hb7 hS
                  replace hf := Fr.cast (L' := [(2, .pointer (some ⟨w.heap.size, 0, none⟩)), (43, .bool true)]) hf (by rw [hb7])
                  refine st tbOk 8 [2, 39] (L' := [(2, .pointer (some ⟨w.heap.size, 0, none⟩)), (39, .bool true)]) hf (by kernel_rfl) ?_
                  clear hf; clear a; intro a hf
                  refine wpList_nil ?_
                  exact hK3 true _ _ ⟨_, hs.sel [0] rfl rfl, hf.keep (ks := [2, 39]) (by kernel_rfl)⟩ hS
                · replace hS := of_f hb7 hS
                  replace hf := Fr.cast (L' := [(2, .pointer (some ⟨w.heap.size, 0, none⟩)), (43, .bool false)]) hf (by rw [hb7])
                  refine st tbOk 1 [2, 43, 44] (L' := [(2, .pointer (some ⟨w.heap.size, 0, none⟩)), (43, .bool false), (44, .pointer (some ⟨w.heap.size, 5, none⟩))]) hf (by kernel_rfl) ?_
                  clear hf; clear a; intro a hf
                  refine ldC tbOk (T := 23) (hs.cbx 0 rfl) (LeH.refl _) 5 (.int .u64 p_s.2.2.2.2.2.1) hf (by kernel_rfl) (by kernel_rfl) (by kernel_rfl) (by kernel_rfl) ?_
                  clear hf; clear a; intro a hf
                  replace hf := Fr.keep (ks := [2, 43, 45]) (L' := [(2, .pointer (some ⟨w.heap.size, 0, none⟩)), (43, .bool false), (45, .int .u64 p_s.2.2.2.2.2.1)]) hf (by kernel_rfl)
                  refine st tbOk 1 [2, 43, 45, 46] (L' := [(2, .pointer (some ⟨w.heap.size, 0, none⟩)), (43, .bool false), (45, .int .u64 p_s.2.2.2.2.2.1), (46, .pointer (some ⟨w.heap.size, 3, none⟩))]) hf (by kernel_rfl) ?_
                  clear hf; clear a; intro a hf
                  refine ldC tbOk (T := 23) (hs.cbx 0 rfl) (LeH.refl _) 3 (.int .u64 p_s.2.2.2.1) hf (by kernel_rfl) (by kernel_rfl) (by kernel_rfl) (by kernel_rfl) ?_
                  clear hf; clear a; intro a hf
                  replace hf := Fr.keep (ks := [2, 43, 45, 47]) (L' := [(2, .pointer (some ⟨w.heap.size, 0, none⟩)), (43, .bool false), (45, .int .u64 p_s.2.2.2.2.2.1), (47, .int .u64 p_s.2.2.2.1)]) hf (by kernel_rfl)
                  refine st tbOk 4 [2, 39] (L' := [(2, .pointer (some ⟨w.heap.size, 0, none⟩)), (39, .bool (decide (p_s.2.2.2.2.2.1 > (IntKind.u64.wrap (4294967296 - p_s.2.2.2.1)))))]) hf (by kernel_rfl) ?_
                  clear hf; clear a; intro a hf
                  refine wpList_nil ?_
                  exact hK3 (decide (p_s.2.2.2.2.2.1 > (IntKind.u64.wrap (4294967296 - p_s.2.2.2.1)))) _ _ ⟨_, hs.sel [0] rfl rfl, hf.keep (ks := [2, 39]) (by kernel_rfl)⟩ hS
        · clear hS; intro KK2 k2 hK2 hS
          refine reg ?_
          refine st tbOk 1 [1, 2, 20] (L' := [(1, .int .u64 size), (2, .pointer (some ⟨w.heap.size, 0, none⟩)), (20, .pointer (some ⟨w.heap.size, 2, none⟩))]) hf (by kernel_rfl) ?_
          clear hf; clear a; intro a hf
          refine ldC tbOk (T := 23) (hs.cbx 0 rfl) (LeH.refl _) 2 (.int .u64 p_s.2.2.1) hf (by kernel_rfl) (by kernel_rfl) (by kernel_rfl) (by kernel_rfl) ?_
          clear hf; clear a; intro a hf
          replace hf := Fr.keep (ks := [1, 2, 21]) (L' := [(1, .int .u64 size), (2, .pointer (some ⟨w.heap.size, 0, none⟩)), (21, .int .u64 p_s.2.2.1)]) hf (by kernel_rfl)
          refine st tbOk 3 [1, 2, 24] (L' := [(1, .int .u64 size), (2, .pointer (some ⟨w.heap.size, 0, none⟩)), (24, .bool (decide (p_s.2.2.1 > size)))]) hf (by kernel_rfl) ?_
          clear hf; clear a; intro a hf
          rcases Bool.eq_false_or_eq_true (decide (p_s.2.2.1 > size)) with hb4 | hb4
          · replace hS := of_t hb4 hS
            replace hf := Fr.cast (L' := [(1, .int .u64 size), (2, .pointer (some ⟨w.heap.size, 0, none⟩)), (24, .bool true)]) hf (by rw [hb4])
            refine st tbOk 9 [2, 19] (L' := [(2, .pointer (some ⟨w.heap.size, 0, none⟩)), (19, .bool true)]) hf (by kernel_rfl) ?_
            clear hf; clear a; intro a hf
            refine wpList_nil ?_
            exact hK2 true _ _ ⟨_, hs.sel [0] rfl rfl, hf.keep (ks := [2, 19]) (by kernel_rfl)⟩ hS
          · replace hS := of_f hb4 hS
            replace hf := Fr.cast (L' := [(1, .int .u64 size), (2, .pointer (some ⟨w.heap.size, 0, none⟩)), (24, .bool false)]) hf (by rw [hb4])
            refine st tbOk 1 [1, 2, 24, 25] (L' := [(1, .int .u64 size), (2, .pointer (some ⟨w.heap.size, 0, none⟩)), (24, .bool false), (25, .pointer (some ⟨w.heap.size, 4, none⟩))]) hf (by kernel_rfl) ?_
            clear hf; clear a; intro a hf
            refine ldC tbOk (T := 23) (hs.cbx 0 rfl) (LeH.refl _) 4 (.int .u64 p_s.2.2.2.2.1) hf (by kernel_rfl) (by kernel_rfl) (by kernel_rfl) (by kernel_rfl) ?_
            clear hf; clear a; intro a hf
            replace hf := Fr.keep (ks := [1, 2, 24, 26]) (L' := [(1, .int .u64 size), (2, .pointer (some ⟨w.heap.size, 0, none⟩)), (24, .bool false), (26, .int .u64 p_s.2.2.2.2.1)]) hf (by kernel_rfl)
            refine st tbOk 2 [2, 24, 26, 27, 28] (L' := [(2, .pointer (some ⟨w.heap.size, 0, none⟩)), (24, .bool false), (26, .int .u64 p_s.2.2.2.2.1), (27, .int .u64 size), (28, .pointer (some ⟨w.heap.size, 2, none⟩))]) hf (by kernel_rfl) ?_
            clear hf; clear a; intro a hf
            refine ldC tbOk (T := 23) (hs.cbx 0 rfl) (LeH.refl _) 2 (.int .u64 p_s.2.2.1) hf (by kernel_rfl) (by kernel_rfl) (by kernel_rfl) (by kernel_rfl) ?_
            clear hf; clear a; intro a hf
            replace hf := Fr.keep (ks := [2, 24, 26, 27, 29]) (L' := [(2, .pointer (some ⟨w.heap.size, 0, none⟩)), (24, .bool false), (26, .int .u64 p_s.2.2.2.2.1), (27, .int .u64 size), (29, .int .u64 p_s.2.2.1)]) hf (by kernel_rfl)
            refine st tbOk 4 [2, 19] (L' := [(2, .pointer (some ⟨w.heap.size, 0, none⟩)), (19, .bool (decide (p_s.2.2.2.2.1 > (IntKind.u64.wrap (size - p_s.2.2.1)))))]) hf (by kernel_rfl) ?_
            clear hf; clear a; intro a hf
            refine wpList_nil ?_
            exact hK2 (decide (p_s.2.2.2.2.1 > (IntKind.u64.wrap (size - p_s.2.2.1)))) _ _ ⟨_, hs.sel [0] rfl rfl, hf.keep (ks := [2, 19]) (by kernel_rfl)⟩ hS
  · clear hS; intro KK1 k1 hK1 hS
    refine reg ?_
    refine st tbOk 1 [1, 2, 6] (L' := [(1, .int .u64 size), (2, .pointer (some ⟨w.heap.size, 0, none⟩)), (6, .pointer (some ⟨w.heap.size, 0, none⟩))]) hf (by kernel_rfl) ?_
    clear hf; clear a; intro a hf
    refine ldC tbOk (T := 22) (hs.cbx 0 rfl) (LeH.refl _) 0 (.int .u32 p_s.1) hf (by kernel_rfl) (by kernel_rfl) (by kernel_rfl) (by kernel_rfl) ?_
    clear hf; clear a; intro a hf
    replace hf := Fr.keep (ks := [1, 2, 7]) (L' := [(1, .int .u64 size), (2, .pointer (some ⟨w.heap.size, 0, none⟩)), (7, .int .u32 p_s.1)]) hf (by kernel_rfl)
    have hT := of_bd hS; clear hS; obtain ⟨z1, hz1, hS⟩ := hT
    refine clV ent46 (vs := [.int .u32 p_s.1]) (caps := []) hf (by kernel_rfl) (by kernel_rfl) (by kernel_rfl) (by kernel_rfl) (segs_kind_ok (p_k := p_s.1) (hs.enter [] rfl rfl) hz1) ?_
    clear hf; clear a; intro v w2 a hT hf; obtain ⟨F2, rfl, hr⟩ := hT
    replace hs : Sep w F R w2 F2 [.box w.heap.size 25 [.int .u32 p_s.1, .int .u32 p_s.2.1, .int .u64 p_s.2.2.1, .int .u64 p_s.2.2.2.1, .int .u64 p_s.2.2.2.2.1, .int .u64 p_s.2.2.2.2.2.1, .int .u64 p_s.2.2.2.2.2.2]] := hs.back [] [0] rfl rfl rfl rfl hr
    clear hr
    replace hf := Fr.keep (ks := [1, 2, 8]) (L' := [(1, .int .u64 size), (2, .pointer (some ⟨w.heap.size, 0, none⟩)), (8, .bool z1)]) hf (by kernel_rfl)
    refine st tbOk 2 [1, 2, 10] (L' := [(1, .int .u64 size), (2, .pointer (some ⟨w.heap.size, 0, none⟩)), (10, .bool (!z1))]) hf (by kernel_rfl) ?_
    clear hf; clear a; intro a hf
    rcases Bool.eq_false_or_eq_true (!z1) with hb1 | hb1
    · replace hS := of_t hb1 hS
      replace hf := Fr.cast (L' := [(1, .int .u64 size), (2, .pointer (some ⟨w.heap.size, 0, none⟩)), (10, .bool true)]) hf (by rw [hb1])
      refine st tbOk 5 [1, 2, 5] (L' := [(1, .int .u64 size), (2, .pointer (some ⟨w.heap.size, 0, none⟩)), (5, .bool true)]) hf (by kernel_rfl) ?_
      clear hf; clear a; intro a hf
      refine wpList_nil ?_
      exact hK1 true _ _ ⟨_, hs.sel [0] rfl rfl, hf.keep (ks := [1, 2, 5]) (by kernel_rfl)⟩ hS
    · replace hS := of_f hb1 hS
      replace hf := Fr.cast (L' := [(1, .int .u64 size), (2, .pointer (some ⟨w.heap.size, 0, none⟩)), (10, .bool false)]) hf (by rw [hb1])
      refine st tbOk 1 [1, 2, 10, 11] (L' := [(1, .int .u64 size), (2, .pointer (some ⟨w.heap.size, 0, none⟩)), (10, .bool false), (11, .pointer (some ⟨w.heap.size, 1, none⟩))]) hf (by kernel_rfl) ?_
      clear hf; clear a; intro a hf
      refine ldC tbOk (T := 22) (hs.cbx 0 rfl) (LeH.refl _) 1 (.int .u32 p_s.2.1) hf (by kernel_rfl) (by kernel_rfl) (by kernel_rfl) (by kernel_rfl) ?_
      clear hf; clear a; intro a hf
      replace hf := Fr.keep (ks := [1, 2, 10, 12]) (L' := [(1, .int .u64 size), (2, .pointer (some ⟨w.heap.size, 0, none⟩)), (10, .bool false), (12, .int .u32 p_s.2.1)]) hf (by kernel_rfl)
      refine st tbOk 3 [1, 2, 5] (L' := [(1, .int .u64 size), (2, .pointer (some ⟨w.heap.size, 0, none⟩)), (5, .bool (decide (p_s.2.1 > 7)))]) hf (by kernel_rfl) ?_
      clear hf; clear a; intro a hf
      refine wpList_nil ?_
      exact hK1 (decide (p_s.2.1 > 7)) _ _ ⟨_, hs.sel [0] rfl rfl, hf.keep (ks := [1, 2, 5]) (by kernel_rfl)⟩ hS

set_option maxHeartbeats 4000000 in
theorem segs_single_ok {w : World} {F : SH} {p_s : Int × Int × Int × Int × Int × Int × Int}  (hs : Sep w F (blks []) w F []) {r : Bool} (hS : segs_single p_s = some r) :
    Calls Try.prog 33 [.agg #[.int .u32 p_s.1, .int .u32 p_s.2.1, .int .u64 p_s.2.2.1, .int .u64 p_s.2.2.2.1, .int .u64 p_s.2.2.2.2.1, .int .u64 p_s.2.2.2.2.2.1, .int .u64 p_s.2.2.2.2.2.2]].toArray w (Gives (fun u w' => ∃ (F' : SH), u = .bool r ∧ Sep w F (blks []) w' F' [])) := by
  generalize (blks []) = R at hs ⊢
  unfold segs_single at hS
  refine fn_ok (vs := [.agg #[.int .u32 p_s.1, .int .u32 p_s.2.1, .int .u64 p_s.2.2.1, .int .u64 p_s.2.2.2.1, .int .u64 p_s.2.2.2.2.1, .int .u64 p_s.2.2.2.2.2.1, .int .u64 p_s.2.2.2.2.2.2]]) Try.func33 rfl 11 Try.ntmps33 (Nat.le_of_ble_eq_true rfl) ?_
  intro a hf
  replace hf := Fr.cast (L' := [(0, .agg #[.int .u32 p_s.1, .int .u32 p_s.2.1, .int .u64 p_s.2.2.1, .int .u64 p_s.2.2.2.1, .int .u64 p_s.2.2.2.2.1, .int .u64 p_s.2.2.2.2.2.1, .int .u64 p_s.2.2.2.2.2.2])]) hf (by kernel_rfl)
  refine sq ?_
  refine reg ?_
  refine bx (T := 25) [.int .u32 p_s.1, .int .u32 p_s.2.1, .int .u64 p_s.2.2.1, .int .u64 p_s.2.2.2.1, .int .u64 p_s.2.2.2.2.1, .int .u64 p_s.2.2.2.2.2.1, .int .u64 p_s.2.2.2.2.2.2] (v := .agg #[.int .u32 p_s.1, .int .u32 p_s.2.1, .int .u64 p_s.2.2.1, .int .u64 p_s.2.2.2.1, .int .u64 p_s.2.2.2.2.1, .int .u64 p_s.2.2.2.2.2.1, .int .u64 p_s.2.2.2.2.2.2]) rfl (by kernel_rfl) hf (by kernel_rfl) (by kernel_rfl) (by kernel_rfl) ?_
  clear hf; clear a; intro w1 a hb hx _ hf
  replace hs : Sep w F R w1 F [.box w.heap.size 25 [.int .u32 p_s.1, .int .u32 p_s.2.1, .int .u64 p_s.2.2.1, .int .u64 p_s.2.2.2.1, .int .u64 p_s.2.2.2.2.1, .int .u64 p_s.2.2.2.2.2.1, .int .u64 p_s.2.2.2.2.2.2]] := hs.newBox hb hx
  clear hb hx
  replace hf := Fr.keep (ks := [1]) (L' := [(1, .pointer (some ⟨w.heap.size, 0, none⟩))]) hf (by kernel_rfl)
  refine st tbOk 1 [1] (L' := [(1, .pointer (some ⟨w.heap.size, 0, none⟩))]) hf (by kernel_rfl) ?_
  clear hf; clear a; intro a hf
  refine wpList_nil ?_
  refine sq ?_
  refine ctj (fun (s1 : Bool) (a : Act) (w' : World) => ∃ (F1 : SH), Sep w F R w' F1 [] ∧ Fr 11 [(2, .bool s1)] a) hS ?_ ?_
  · clear hS hf hs; clear a; intro s1 a w2 hM hS
    obtain ⟨F1, hs, hf⟩ := hM
    have hr := Option.some.inj hS; subst hr
    refine wp_ret ?_
    exact ret_ok hf (vs := [.bool s1]) (by kernel_rfl) ⟨_, rfl, hs.sel [] rfl rfl⟩
  · clear hS; intro KK1 k1 hK1 hS
    refine reg ?_
    refine st tbOk 1 [1, 3] (L' := [(1, .pointer (some ⟨w.heap.size, 0, none⟩)), (3, .pointer (some ⟨w.heap.size, 0, none⟩))]) hf (by kernel_rfl) ?_
    clear hf; clear a; intro a hf
    refine ldC tbOk (T := 22) (hs.cbx 0 rfl) (LeH.refl _) 0 (.int .u32 p_s.1) hf (by kernel_rfl) (by kernel_rfl) (by kernel_rfl) (by kernel_rfl) ?_
    clear hf; clear a; intro a hf
    replace hf := Fr.keep (ks := [1, 4]) (L' := [(1, .pointer (some ⟨w.heap.size, 0, none⟩)), (4, .int .u32 p_s.1)]) hf (by kernel_rfl)
    refine st tbOk 2 [1, 6] (L' := [(1, .pointer (some ⟨w.heap.size, 0, none⟩)), (6, .bool (p_s.1 == 2))]) hf (by kernel_rfl) ?_
    clear hf; clear a; intro a hf
    rcases Bool.eq_false_or_eq_true (p_s.1 == 2) with hb1 | hb1
    · replace hS := of_t hb1 hS
      replace hf := Fr.cast (L' := [(1, .pointer (some ⟨w.heap.size, 0, none⟩)), (6, .bool true)]) hf (by rw [hb1])
      refine st tbOk 5 [2] (L' := [(2, .bool true)]) hf (by kernel_rfl) ?_
      clear hf; clear a; intro a hf
      refine wpList_nil ?_
      exact hK1 true _ _ ⟨_, hs.sel [] rfl rfl, hf.keep (ks := [2]) (by kernel_rfl)⟩ hS
    · replace hS := of_f hb1 hS
      replace hf := Fr.cast (L' := [(1, .pointer (some ⟨w.heap.size, 0, none⟩)), (6, .bool false)]) hf (by rw [hb1])
      refine st tbOk 1 [6, 7] (L' := [(6, .bool false), (7, .pointer (some ⟨w.heap.size, 0, none⟩))]) hf (by kernel_rfl) ?_
      clear hf; clear a; intro a hf
      refine ldC tbOk (T := 22) (hs.cbx 0 rfl) (LeH.refl _) 0 (.int .u32 p_s.1) hf (by kernel_rfl) (by kernel_rfl) (by kernel_rfl) (by kernel_rfl) ?_
      clear hf; clear a; intro a hf
      replace hs : Sep w F R w1 F [] := hs.sel [] rfl rfl
      replace hf := Fr.keep (ks := [6, 8]) (L' := [(6, .bool false), (8, .int .u32 p_s.1)]) hf (by kernel_rfl)
      refine st tbOk 3 [2] (L' := [(2, .bool (p_s.1 == 7))]) hf (by kernel_rfl) ?_
      clear hf; clear a; intro a hf
      refine wpList_nil ?_
      exact hK1 (p_s.1 == 7) _ _ ⟨_, hs.sel [] rfl rfl, hf.keep (ks := [2]) (by kernel_rfl)⟩ hS

set_option maxHeartbeats 4000000 in
theorem segs_within_1_ok {w : World} {F : SH} {p_x : Int × Int × Int × Int × Int × Int × Int} {q_1 : Int × Int × Int × Int × Int × Int × Int} {b1 : Nat} (hs : Sep w F (blks [.cel b1 0 [.int .u32 q_1.1, .int .u32 q_1.2.1, .int .u64 q_1.2.2.1, .int .u64 q_1.2.2.2.1, .int .u64 q_1.2.2.2.2.1, .int .u64 q_1.2.2.2.2.2.1, .int .u64 q_1.2.2.2.2.2.2]]) w F [.cel b1 0 [.int .u32 q_1.1, .int .u32 q_1.2.1, .int .u64 q_1.2.2.1, .int .u64 q_1.2.2.2.1, .int .u64 q_1.2.2.2.2.1, .int .u64 q_1.2.2.2.2.2.1, .int .u64 q_1.2.2.2.2.2.2]]) {r : Bool} (hS : segs_within_1 p_x q_1 = some r) :
    Calls Try.prog 50 [.agg #[.int .u32 p_x.1, .int .u32 p_x.2.1, .int .u64 p_x.2.2.1, .int .u64 p_x.2.2.2.1, .int .u64 p_x.2.2.2.2.1, .int .u64 p_x.2.2.2.2.2.1, .int .u64 p_x.2.2.2.2.2.2], .pointer (some ⟨b1, 0, none⟩)].toArray w (Gives (fun u w' => ∃ (F' : SH), u = .bool r ∧ Sep w F (blks [.cel b1 0 [.int .u32 q_1.1, .int .u32 q_1.2.1, .int .u64 q_1.2.2.1, .int .u64 q_1.2.2.2.1, .int .u64 q_1.2.2.2.2.1, .int .u64 q_1.2.2.2.2.2.1, .int .u64 q_1.2.2.2.2.2.2]]) w' F' [])) := by
  generalize (blks [.cel b1 0 [.int .u32 q_1.1, .int .u32 q_1.2.1, .int .u64 q_1.2.2.1, .int .u64 q_1.2.2.2.1, .int .u64 q_1.2.2.2.2.1, .int .u64 q_1.2.2.2.2.2.1, .int .u64 q_1.2.2.2.2.2.2]]) = R at hs ⊢
  unfold segs_within_1 at hS
  refine fn_ok (vs := [.agg #[.int .u32 p_x.1, .int .u32 p_x.2.1, .int .u64 p_x.2.2.1, .int .u64 p_x.2.2.2.1, .int .u64 p_x.2.2.2.2.1, .int .u64 p_x.2.2.2.2.2.1, .int .u64 p_x.2.2.2.2.2.2], .pointer (some ⟨b1, 0, none⟩)]) Try.func50 rfl 50 Try.ntmps50 (Nat.le_of_ble_eq_true rfl) ?_
  intro a hf
  replace hf := Fr.cast (L' := [(0, .agg #[.int .u32 p_x.1, .int .u32 p_x.2.1, .int .u64 p_x.2.2.1, .int .u64 p_x.2.2.2.1, .int .u64 p_x.2.2.2.2.1, .int .u64 p_x.2.2.2.2.2.1, .int .u64 p_x.2.2.2.2.2.2]), (1, .pointer (some ⟨b1, 0, none⟩))]) hf (by kernel_rfl)
  refine sq ?_
  refine reg ?_
  refine bx (T := 25) [.int .u32 p_x.1, .int .u32 p_x.2.1, .int .u64 p_x.2.2.1, .int .u64 p_x.2.2.2.1, .int .u64 p_x.2.2.2.2.1, .int .u64 p_x.2.2.2.2.2.1, .int .u64 p_x.2.2.2.2.2.2] (v := .agg #[.int .u32 p_x.1, .int .u32 p_x.2.1, .int .u64 p_x.2.2.1, .int .u64 p_x.2.2.2.1, .int .u64 p_x.2.2.2.2.1, .int .u64 p_x.2.2.2.2.2.1, .int .u64 p_x.2.2.2.2.2.2]) rfl (by kernel_rfl) hf (by kernel_rfl) (by kernel_rfl) (by kernel_rfl) ?_
  clear hf; clear a; intro w1 a hb hx _ hf
  replace hs : Sep w F R w1 F [.box w.heap.size 25 [.int .u32 p_x.1, .int .u32 p_x.2.1, .int .u64 p_x.2.2.1, .int .u64 p_x.2.2.2.1, .int .u64 p_x.2.2.2.2.1, .int .u64 p_x.2.2.2.2.2.1, .int .u64 p_x.2.2.2.2.2.2], .cel b1 0 [.int .u32 q_1.1, .int .u32 q_1.2.1, .int .u64 q_1.2.2.1, .int .u64 q_1.2.2.2.1, .int .u64 q_1.2.2.2.2.1, .int .u64 q_1.2.2.2.2.2.1, .int .u64 q_1.2.2.2.2.2.2]] := hs.newBox hb hx
  clear hb hx
  replace hf := Fr.keep (ks := [1, 2]) (L' := [(1, .pointer (some ⟨b1, 0, none⟩)), (2, .pointer (some ⟨w.heap.size, 0, none⟩))]) hf (by kernel_rfl)
  refine st tbOk 1 [1, 2] (L' := [(1, .pointer (some ⟨b1, 0, none⟩)), (2, .pointer (some ⟨w.heap.size, 0, none⟩))]) hf (by kernel_rfl) ?_
  clear hf; clear a; intro a hf
  refine wpList_nil ?_
  refine sq ?_
  refine ctj (fun (s1 : Bool) (a : Act) (w' : World) => ∃ (F1 : SH), Sep w F R w' F1 [] ∧ Fr 50 [(3, .bool s1)] a) hS ?_ ?_
  · clear hS hf hs; clear a; intro s1 a w2 hM hS
    obtain ⟨F1, hs, hf⟩ := hM
    have hr := Option.some.inj hS; subst hr
    refine wp_ret ?_
    exact ret_ok hf (vs := [.bool s1]) (by kernel_rfl) ⟨_, rfl, hs.sel [] rfl rfl⟩
  · clear hS; intro KK1 k1 hK1 hS
    refine reg ?_
    refine st tbOk 1 [1, 2, 4] (L' := [(1, .pointer (some ⟨b1, 0, none⟩)), (2, .pointer (some ⟨w.heap.size, 0, none⟩)), (4, .pointer (some ⟨w.heap.size, 0, none⟩))]) hf (by kernel_rfl) ?_
    clear hf; clear a; intro a hf
    refine ldC tbOk (T := 22) (hs.cbx 0 rfl) (LeH.refl _) 0 (.int .u32 p_x.1) hf (by kernel_rfl) (by kernel_rfl) (by kernel_rfl) (by kernel_rfl) ?_
    clear hf; clear a; intro a hf
    replace hf := Fr.keep (ks := [1, 2, 5]) (L' := [(1, .pointer (some ⟨b1, 0, none⟩)), (2, .pointer (some ⟨w.heap.size, 0, none⟩)), (5, .int .u32 p_x.1)]) hf (by kernel_rfl)
    refine st tbOk 2 [1, 2, 7] (L' := [(1, .pointer (some ⟨b1, 0, none⟩)), (2, .pointer (some ⟨w.heap.size, 0, none⟩)), (7, .bool (p_x.1 == 1))]) hf (by kernel_rfl) ?_
    clear hf; clear a; intro a hf
    rcases Bool.eq_false_or_eq_true (p_x.1 == 1) with hb1 | hb1
    · replace hS := of_t hb1 hS
      replace hf := Fr.cast (L' := [(1, .pointer (some ⟨b1, 0, none⟩)), (2, .pointer (some ⟨w.heap.size, 0, none⟩)), (7, .bool true)]) hf (by rw [hb1])
      refine st tbOk 1 [1, 2, 7, 8] (L' := [(1, .pointer (some ⟨b1, 0, none⟩)), (2, .pointer (some ⟨w.heap.size, 0, none⟩)), (7, .bool true), (8, .pointer (some ⟨b1, 2, none⟩))]) hf (by kernel_rfl) ?_
      clear hf; clear a; intro a hf
      refine ldC tbOk (T := 23) (hs.ccel 1 rfl) (LeH.refl _) 2 (.int .u64 q_1.2.2.1) hf (by kernel_rfl) (by kernel_rfl) (by kernel_rfl) (by kernel_rfl) ?_
      clear hf; clear a; intro a hf
      replace hf := Fr.keep (ks := [1, 2, 7, 9]) (L' := [(1, .pointer (some ⟨b1, 0, none⟩)), (2, .pointer (some ⟨w.heap.size, 0, none⟩)), (7, .bool true), (9, .int .u64 q_1.2.2.1)]) hf (by kernel_rfl)
      refine st tbOk 1 [1, 2, 7, 9, 10] (L' := [(1, .pointer (some ⟨b1, 0, none⟩)), (2, .pointer (some ⟨w.heap.size, 0, none⟩)), (7, .bool true), (9, .int .u64 q_1.2.2.1), (10, .pointer (some ⟨w.heap.size, 2, none⟩))]) hf (by kernel_rfl) ?_
      clear hf; clear a; intro a hf
      refine ldC tbOk (T := 23) (hs.cbx 0 rfl) (LeH.refl _) 2 (.int .u64 p_x.2.2.1) hf (by kernel_rfl) (by kernel_rfl) (by kernel_rfl) (by kernel_rfl) ?_
      clear hf; clear a; intro a hf
      replace hf := Fr.keep (ks := [1, 2, 7, 9, 11]) (L' := [(1, .pointer (some ⟨b1, 0, none⟩)), (2, .pointer (some ⟨w.heap.size, 0, none⟩)), (7, .bool true), (9, .int .u64 q_1.2.2.1), (11, .int .u64 p_x.2.2.1)]) hf (by kernel_rfl)
      refine st tbOk 3 [1, 2, 14] (L' := [(1, .pointer (some ⟨b1, 0, none⟩)), (2, .pointer (some ⟨w.heap.size, 0, none⟩)), (14, .bool (decide (q_1.2.2.1 ≥ p_x.2.2.1)))]) hf (by kernel_rfl) ?_
      clear hf; clear a; intro a hf
      rcases Bool.eq_false_or_eq_true (decide (q_1.2.2.1 ≥ p_x.2.2.1)) with hb2 | hb2
      · replace hS := of_t hb2 hS
        replace hf := Fr.cast (L' := [(1, .pointer (some ⟨b1, 0, none⟩)), (2, .pointer (some ⟨w.heap.size, 0, none⟩)), (14, .bool true)]) hf (by rw [hb2])
        refine st tbOk 1 [1, 2, 14, 15] (L' := [(1, .pointer (some ⟨b1, 0, none⟩)), (2, .pointer (some ⟨w.heap.size, 0, none⟩)), (14, .bool true), (15, .pointer (some ⟨b1, 2, none⟩))]) hf (by kernel_rfl) ?_
        clear hf; clear a; intro a hf
        refine ldC tbOk (T := 23) (hs.ccel 1 rfl) (LeH.refl _) 2 (.int .u64 q_1.2.2.1) hf (by kernel_rfl) (by kernel_rfl) (by kernel_rfl) (by kernel_rfl) ?_
        clear hf; clear a; intro a hf
        replace hf := Fr.keep (ks := [1, 2, 14, 16]) (L' := [(1, .pointer (some ⟨b1, 0, none⟩)), (2, .pointer (some ⟨w.heap.size, 0, none⟩)), (14, .bool true), (16, .int .u64 q_1.2.2.1)]) hf (by kernel_rfl)
        refine st tbOk 1 [1, 2, 14, 16, 17] (L' := [(1, .pointer (some ⟨b1, 0, none⟩)), (2, .pointer (some ⟨w.heap.size, 0, none⟩)), (14, .bool true), (16, .int .u64 q_1.2.2.1), (17, .pointer (some ⟨w.heap.size, 2, none⟩))]) hf (by kernel_rfl) ?_
        clear hf; clear a; intro a hf
        refine ldC tbOk (T := 23) (hs.cbx 0 rfl) (LeH.refl _) 2 (.int .u64 p_x.2.2.1) hf (by kernel_rfl) (by kernel_rfl) (by kernel_rfl) (by kernel_rfl) ?_
        clear hf; clear a; intro a hf
        replace hf := Fr.keep (ks := [1, 2, 14, 16, 18]) (L' := [(1, .pointer (some ⟨b1, 0, none⟩)), (2, .pointer (some ⟨w.heap.size, 0, none⟩)), (14, .bool true), (16, .int .u64 q_1.2.2.1), (18, .int .u64 p_x.2.2.1)]) hf (by kernel_rfl)
        refine st tbOk 2 [1, 2, 14, 19, 20] (L' := [(1, .pointer (some ⟨b1, 0, none⟩)), (2, .pointer (some ⟨w.heap.size, 0, none⟩)), (14, .bool true), (19, .int .u64 (IntKind.u64.wrap (q_1.2.2.1 - p_x.2.2.1))), (20, .pointer (some ⟨w.heap.size, 4, none⟩))]) hf (by kernel_rfl) ?_
        clear hf; clear a; intro a hf
        refine ldC tbOk (T := 23) (hs.cbx 0 rfl) (LeH.refl _) 4 (.int .u64 p_x.2.2.2.2.1) hf (by kernel_rfl) (by kernel_rfl) (by kernel_rfl) (by kernel_rfl) ?_
        clear hf; clear a; intro a hf
        replace hf := Fr.keep (ks := [1, 2, 14, 19, 21]) (L' := [(1, .pointer (some ⟨b1, 0, none⟩)), (2, .pointer (some ⟨w.heap.size, 0, none⟩)), (14, .bool true), (19, .int .u64 (IntKind.u64.wrap (q_1.2.2.1 - p_x.2.2.1))), (21, .int .u64 p_x.2.2.2.2.1)]) hf (by kernel_rfl)
        refine st tbOk 3 [1, 2, 24] (L' := [(1, .pointer (some ⟨b1, 0, none⟩)), (2, .pointer (some ⟨w.heap.size, 0, none⟩)), (24, .bool (decide ((IntKind.u64.wrap (q_1.2.2.1 - p_x.2.2.1)) ≤ p_x.2.2.2.2.1)))]) hf (by kernel_rfl) ?_
        clear hf; clear a; intro a hf
        rcases Bool.eq_false_or_eq_true (decide ((IntKind.u64.wrap (q_1.2.2.1 - p_x.2.2.1)) ≤ p_x.2.2.2.2.1)) with hb3 | hb3
        · replace hS := of_t hb3 hS
          replace hf := Fr.cast (L' := [(1, .pointer (some ⟨b1, 0, none⟩)), (2, .pointer (some ⟨w.heap.size, 0, none⟩)), (24, .bool true)]) hf (by rw [hb3])
          refine st tbOk 1 [1, 2, 24, 25] (L' := [(1, .pointer (some ⟨b1, 0, none⟩)), (2, .pointer (some ⟨w.heap.size, 0, none⟩)), (24, .bool true), (25, .pointer (some ⟨b1, 4, none⟩))]) hf (by kernel_rfl) ?_
          clear hf; clear a; intro a hf
          refine ldC tbOk (T := 23) (hs.ccel 1 rfl) (LeH.refl _) 4 (.int .u64 q_1.2.2.2.2.1) hf (by kernel_rfl) (by kernel_rfl) (by kernel_rfl) (by kernel_rfl) ?_
          clear hf; clear a; intro a hf
          replace hf := Fr.keep (ks := [1, 2, 24, 26]) (L' := [(1, .pointer (some ⟨b1, 0, none⟩)), (2, .pointer (some ⟨w.heap.size, 0, none⟩)), (24, .bool true), (26, .int .u64 q_1.2.2.2.2.1)]) hf (by kernel_rfl)
          refine st tbOk 1 [1, 2, 24, 26, 27] (L' := [(1, .pointer (some ⟨b1, 0, none⟩)), (2, .pointer (some ⟨w.heap.size, 0, none⟩)), (24, .bool true), (26, .int .u64 q_1.2.2.2.2.1), (27, .pointer (some ⟨w.heap.size, 4, none⟩))]) hf (by kernel_rfl) ?_
          clear hf; clear a; intro a hf
          refine ldC tbOk (T := 23) (hs.cbx 0 rfl) (LeH.refl _) 4 (.int .u64 p_x.2.2.2.2.1) hf (by kernel_rfl) (by kernel_rfl) (by kernel_rfl) (by kernel_rfl) ?_
          clear hf; clear a; intro a hf
          replace hf := Fr.keep (ks := [1, 2, 24, 26, 28]) (L' := [(1, .pointer (some ⟨b1, 0, none⟩)), (2, .pointer (some ⟨w.heap.size, 0, none⟩)), (24, .bool true), (26, .int .u64 q_1.2.2.2.2.1), (28, .int .u64 p_x.2.2.2.2.1)]) hf (by kernel_rfl)
          refine st tbOk 1 [1, 2, 24, 26, 28, 29] (L' := [(1, .pointer (some ⟨b1, 0, none⟩)), (2, .pointer (some ⟨w.heap.size, 0, none⟩)), (24, .bool true), (26, .int .u64 q_1.2.2.2.2.1), (28, .int .u64 p_x.2.2.2.2.1), (29, .pointer (some ⟨b1, 2, none⟩))]) hf (by kernel_rfl) ?_
          clear hf; clear a; intro a hf
          refine ldC tbOk (T := 23) (hs.ccel 1 rfl) (LeH.refl _) 2 (.int .u64 q_1.2.2.1) hf (by kernel_rfl) (by kernel_rfl) (by kernel_rfl) (by kernel_rfl) ?_
          clear hf; clear a; intro a hf
          replace hf := Fr.keep (ks := [1, 2, 24, 26, 28, 30]) (L' := [(1, .pointer (some ⟨b1, 0, none⟩)), (2, .pointer (some ⟨w.heap.size, 0, none⟩)), (24, .bool true), (26, .int .u64 q_1.2.2.2.2.1), (28, .int .u64 p_x.2.2.2.2.1), (30, .int .u64 q_1.2.2.1)]) hf (by kernel_rfl)
          refine st tbOk 1 [1, 2, 24, 26, 28, 30, 31] (L' := [(1, .pointer (some ⟨b1, 0, none⟩)), (2, .pointer (some ⟨w.heap.size, 0, none⟩)), (24, .bool true), (26, .int .u64 q_1.2.2.2.2.1), (28, .int .u64 p_x.2.2.2.2.1), (30, .int .u64 q_1.2.2.1), (31, .pointer (some ⟨w.heap.size, 2, none⟩))]) hf (by kernel_rfl) ?_
          clear hf; clear a; intro a hf
          refine ldC tbOk (T := 23) (hs.cbx 0 rfl) (LeH.refl _) 2 (.int .u64 p_x.2.2.1) hf (by kernel_rfl) (by kernel_rfl) (by kernel_rfl) (by kernel_rfl) ?_
          clear hf; clear a; intro a hf
          replace hf := Fr.keep (ks := [1, 2, 24, 26, 28, 30, 32]) (L' := [(1, .pointer (some ⟨b1, 0, none⟩)), (2, .pointer (some ⟨w.heap.size, 0, none⟩)), (24, .bool true), (26, .int .u64 q_1.2.2.2.2.1), (28, .int .u64 p_x.2.2.2.2.1), (30, .int .u64 q_1.2.2.1), (32, .int .u64 p_x.2.2.1)]) hf (by kernel_rfl)
          refine st tbOk 5 [1, 2, 37] (L' := [(1, .pointer (some ⟨b1, 0, none⟩)), (2, .pointer (some ⟨w.heap.size, 0, none⟩)), (37, .bool (decide (q_1.2.2.2.2.1 ≤ (IntKind.u64.wrap (p_x.2.2.2.2.1 - (IntKind.u64.wrap (q_1.2.2.1 - p_x.2.2.1)))))))]) hf (by kernel_rfl) ?_
          clear hf; clear a; intro a hf
          rcases Bool.eq_false_or_eq_true (decide (q_1.2.2.2.2.1 ≤ (IntKind.u64.wrap (p_x.2.2.2.2.1 - (IntKind.u64.wrap (q_1.2.2.1 - p_x.2.2.1)))))) with hb4 | hb4
          · replace hS := of_t hb4 hS
            replace hf := Fr.cast (L' := [(1, .pointer (some ⟨b1, 0, none⟩)), (2, .pointer (some ⟨w.heap.size, 0, none⟩)), (37, .bool true)]) hf (by rw [hb4])
            refine st tbOk 1 [1, 2, 37, 38] (L' := [(1, .pointer (some ⟨b1, 0, none⟩)), (2, .pointer (some ⟨w.heap.size, 0, none⟩)), (37, .bool true), (38, .pointer (some ⟨w.heap.size, 3, none⟩))]) hf (by kernel_rfl) ?_
            clear hf; clear a; intro a hf
            refine ldC tbOk (T := 23) (hs.cbx 0 rfl) (LeH.refl _) 3 (.int .u64 p_x.2.2.2.1) hf (by kernel_rfl) (by kernel_rfl) (by kernel_rfl) (by kernel_rfl) ?_
            clear hf; clear a; intro a hf
            replace hf := Fr.keep (ks := [1, 2, 37, 39]) (L' := [(1, .pointer (some ⟨b1, 0, none⟩)), (2, .pointer (some ⟨w.heap.size, 0, none⟩)), (37, .bool true), (39, .int .u64 p_x.2.2.2.1)]) hf (by kernel_rfl)
            refine st tbOk 1 [1, 37, 39, 40] (L' := [(1, .pointer (some ⟨b1, 0, none⟩)), (37, .bool true), (39, .int .u64 p_x.2.2.2.1), (40, .pointer (some ⟨w.heap.size, 2, none⟩))]) hf (by kernel_rfl) ?_
            clear hf; clear a; intro a hf
            refine ldC tbOk (T := 23) (hs.cbx 0 rfl) (LeH.refl _) 2 (.int .u64 p_x.2.2.1) hf (by kernel_rfl) (by kernel_rfl) (by kernel_rfl) (by kernel_rfl) ?_
            clear hf; clear a; intro a hf
            replace hs : Sep w F R w1 F [.cel b1 0 [.int .u32 q_1.1, .int .u32 q_1.2.1, .int .u64 q_1.2.2.1, .int .u64 q_1.2.2.2.1, .int .u64 q_1.2.2.2.2.1, .int .u64 q_1.2.2.2.2.2.1, .int .u64 q_1.2.2.2.2.2.2]] := hs.sel [1] rfl rfl
            replace hf := Fr.keep (ks := [1, 37, 39, 41]) (L' := [(1, .pointer (some ⟨b1, 0, none⟩)), (37, .bool true), (39, .int .u64 p_x.2.2.2.1), (41, .int .u64 p_x.2.2.1)]) hf (by kernel_rfl)
            refine st tbOk 2 [1, 37, 42, 43] (L' := [(1, .pointer (some ⟨b1, 0, none⟩)), (37, .bool true), (42, .int .u64 (IntKind.u64.wrap (p_x.2.2.2.1 - p_x.2.2.1))), (43, .pointer (some ⟨b1, 3, none⟩))]) hf (by kernel_rfl) ?_
            clear hf; clear a; intro a hf
            refine ldC tbOk (T := 23) (hs.ccel 0 rfl) (LeH.refl _) 3 (.int .u64 q_1.2.2.2.1) hf (by kernel_rfl) (by kernel_rfl) (by kernel_rfl) (by kernel_rfl) ?_
            clear hf; clear a; intro a hf
            replace hf := Fr.keep (ks := [1, 37, 42, 44]) (L' := [(1, .pointer (some ⟨b1, 0, none⟩)), (37, .bool true), (42, .int .u64 (IntKind.u64.wrap (p_x.2.2.2.1 - p_x.2.2.1))), (44, .int .u64 q_1.2.2.2.1)]) hf (by kernel_rfl)
            refine st tbOk 1 [37, 42, 44, 45] (L' := [(37, .bool true), (42, .int .u64 (IntKind.u64.wrap (p_x.2.2.2.1 - p_x.2.2.1))), (44, .int .u64 q_1.2.2.2.1), (45, .pointer (some ⟨b1, 2, none⟩))]) hf (by kernel_rfl) ?_
            clear hf; clear a; intro a hf
            refine ldC tbOk (T := 23) (hs.ccel 0 rfl) (LeH.refl _) 2 (.int .u64 q_1.2.2.1) hf (by kernel_rfl) (by kernel_rfl) (by kernel_rfl) (by kernel_rfl) ?_
            clear hf; clear a; intro a hf
            replace hs : Sep w F R w1 F [] := hs.sel [] rfl rfl
            replace hf := Fr.keep (ks := [37, 42, 44, 46]) (L' := [(37, .bool true), (42, .int .u64 (IntKind.u64.wrap (p_x.2.2.2.1 - p_x.2.2.1))), (44, .int .u64 q_1.2.2.2.1), (46, .int .u64 q_1.2.2.1)]) hf (by kernel_rfl)
            refine st tbOk 4 [3] (L' := [(3, .bool ((IntKind.u64.wrap (p_x.2.2.2.1 - p_x.2.2.1)) == (IntKind.u64.wrap (q_1.2.2.2.1 - q_1.2.2.1))))]) hf (by kernel_rfl) ?_
            clear hf; clear a; intro a hf
            refine wpList_nil ?_
            exact hK1 ((IntKind.u64.wrap (p_x.2.2.2.1 - p_x.2.2.1)) == (IntKind.u64.wrap (q_1.2.2.2.1 - q_1.2.2.1))) _ _ ⟨_, hs.sel [] rfl rfl, hf.keep (ks := [3]) (by kernel_rfl)⟩ hS
          · replace hS := of_f hb4 hS
            replace hf := Fr.cast (L' := [(1, .pointer (some ⟨b1, 0, none⟩)), (2, .pointer (some ⟨w.heap.size, 0, none⟩)), (37, .bool false)]) hf (by rw [hb4])
            refine st tbOk 13 [3] (L' := [(3, .bool false)]) hf (by kernel_rfl) ?_
            clear hf; clear a; intro a hf
            refine wpList_nil ?_
            exact hK1 false _ _ ⟨_, hs.sel [] rfl rfl, hf.keep (ks := [3]) (by kernel_rfl)⟩ hS
        · replace hS := of_f hb3 hS
          replace hf := Fr.cast (L' := [(1, .pointer (some ⟨b1, 0, none⟩)), (2, .pointer (some ⟨w.heap.size, 0, none⟩)), (24, .bool false)]) hf (by rw [hb3])
          refine st tbOk 26 [3] (L' := [(3, .bool false)]) hf (by kernel_rfl) ?_
          clear hf; clear a; intro a hf
          refine wpList_nil ?_
          exact hK1 false _ _ ⟨_, hs.sel [] rfl rfl, hf.keep (ks := [3]) (by kernel_rfl)⟩ hS
      · replace hS := of_f hb2 hS
        replace hf := Fr.cast (L' := [(1, .pointer (some ⟨b1, 0, none⟩)), (2, .pointer (some ⟨w.heap.size, 0, none⟩)), (14, .bool false)]) hf (by rw [hb2])
        refine st tbOk 36 [3] (L' := [(3, .bool false)]) hf (by kernel_rfl) ?_
        clear hf; clear a; intro a hf
        refine wpList_nil ?_
        exact hK1 false _ _ ⟨_, hs.sel [] rfl rfl, hf.keep (ks := [3]) (by kernel_rfl)⟩ hS
    · replace hS := of_f hb1 hS
      replace hf := Fr.cast (L' := [(1, .pointer (some ⟨b1, 0, none⟩)), (2, .pointer (some ⟨w.heap.size, 0, none⟩)), (7, .bool false)]) hf (by rw [hb1])
      refine st tbOk 43 [3] (L' := [(3, .bool false)]) hf (by kernel_rfl) ?_
      clear hf; clear a; intro a hf
      refine wpList_nil ?_
      exact hK1 false _ _ ⟨_, hs.sel [] rfl rfl, hf.keep (ks := [3]) (by kernel_rfl)⟩ hS

set_option maxHeartbeats 4000000 in
theorem slices_IndexFunc_api_Seg_api_Seg_within_1_ok {w : World} {F : SH} {p_s : List (Int × Int × Int × Int × Int × Int × Int)} {q_c0 : Int × Int × Int × Int × Int × Int × Int} {ao1 : Option Addr} {cp1 : Nat} {b1 : Nat} (hs : Sep w F (blks [.ro ty24 (.slice ao1 p_s.length cp1) p_s, .cel b1 0 [.int .u32 q_c0.1, .int .u32 q_c0.2.1, .int .u64 q_c0.2.2.1, .int .u64 q_c0.2.2.2.1, .int .u64 q_c0.2.2.2.2.1, .int .u64 q_c0.2.2.2.2.2.1, .int .u64 q_c0.2.2.2.2.2.2]]) w F [.ro ty24 (.slice ao1 p_s.length cp1) p_s, .cel b1 0 [.int .u32 q_c0.1, .int .u32 q_c0.2.1, .int .u64 q_c0.2.2.1, .int .u64 q_c0.2.2.2.1, .int .u64 q_c0.2.2.2.2.1, .int .u64 q_c0.2.2.2.2.2.1, .int .u64 q_c0.2.2.2.2.2.2]]) {r : Int} (hS : slices_IndexFunc_api_Seg_api_Seg_within_1 p_s q_c0 = some r) :
    Calls Try.prog 39 [.slice ao1 p_s.length cp1, .func (.func 50) #[] #[.pointer (some ⟨b1, 0, none⟩)]].toArray w (Gives (fun u w' => ∃ (F' : SH), u = .int .i64 r ∧ Sep w F (blks [.ro ty24 (.slice ao1 p_s.length cp1) p_s, .cel b1 0 [.int .u32 q_c0.1, .int .u32 q_c0.2.1, .int .u64 q_c0.2.2.1, .int .u64 q_c0.2.2.2.1, .int .u64 q_c0.2.2.2.2.1, .int .u64 q_c0.2.2.2.2.2.1, .int .u64 q_c0.2.2.2.2.2.2]]) w' F' [])) := by
  generalize (blks [.ro ty24 (.slice ao1 p_s.length cp1) p_s, .cel b1 0 [.int .u32 q_c0.1, .int .u32 q_c0.2.1, .int .u64 q_c0.2.2.1, .int .u64 q_c0.2.2.2.1, .int .u64 q_c0.2.2.2.2.1, .int .u64 q_c0.2.2.2.2.2.1, .int .u64 q_c0.2.2.2.2.2.2]]) = R at hs ⊢
  unfold slices_IndexFunc_api_Seg_api_Seg_within_1 at hS
  refine fn_ok (vs := [.slice ao1 p_s.length cp1, .func (.func 50) #[] #[.pointer (some ⟨b1, 0, none⟩)]]) Try.func39 rfl 19 Try.ntmps39 (Nat.le_of_ble_eq_true rfl) ?_
  intro a hf
  replace hf := Fr.cast (L' := [(0, .slice ao1 p_s.length cp1), (1, .func (.func 50) #[] #[.pointer (some ⟨b1, 0, none⟩)])]) hf (by kernel_rfl)
  refine sq ?_
  refine reg ?_
  refine st tbOk 1 [0, 1] (L' := [(0, .slice ao1 p_s.length cp1), (1, .func (.func 50) #[] #[.pointer (some ⟨b1, 0, none⟩)])]) hf (by kernel_rfl) ?_
  clear hf; clear a; intro a hf
  refine wpList_nil ?_
  refine sq ?_
  refine sq ?_
  refine reg ?_
  refine st tbOk 3 [0, 1, 7, 8] (L' := [(0, .slice ao1 p_s.length cp1), (1, .func (.func 50) #[] #[.pointer (some ⟨b1, 0, none⟩)]), (7, .int .i64 ((p_s.length : Nat) : Int)), (8, .int .i64 0)]) hf (by kernel_rfl) ?_
  clear hf; clear a; intro a hf
  refine wpList_nil ?_
  refine ctj (fun (s1 : Unit) (a : Act) (w' : World) => ∃ (F1 : SH), Sep w F R w' F1 [] ∧ Fr 19 [] a) hS ?_ ?_
  · clear hS hf hs; clear a; intro s1 a w3 hM hS
    obtain ⟨F1, hs, hf⟩ := hM
    refine sq ?_
    refine reg ?_
    refine st tbOk 1 [4] (L' := [(4, .int .i64 (-1))]) hf (by kernel_rfl) ?_
    clear hf; clear a; intro a hf
    refine wpList_nil ?_
    have hr := Option.some.inj hS; subst hr
    refine wp_ret ?_
    exact ret_ok hf (vs := [.int .i64 (-1)]) (by kernel_rfl) ⟨_, rfl, hs.sel [] rfl rfl⟩
  · clear hS; intro KK1 k1 hK1 hS
    refine blk ?_
    refine lp (st := 0) (fun (s2 : Int) (a : Act) (w' : World) => ∃ (F2 : SH), Sep w F R w' F2 [.ro ty24 (.slice ao1 p_s.length cp1) p_s, .cel b1 0 [.int .u32 q_c0.1, .int .u32 q_c0.2.1, .int .u64 q_c0.2.2.1, .int .u64 q_c0.2.2.2.1, .int .u64 q_c0.2.2.2.2.1, .int .u64 q_c0.2.2.2.2.2.1, .int .u64 q_c0.2.2.2.2.2.2]] ∧ Fr 19 [(0, .slice ao1 p_s.length cp1), (1, .func (.func 50) #[] #[.pointer (some ⟨b1, 0, none⟩)]), (7, .int .i64 ((p_s.length : Nat) : Int)), (8, .int .i64 s2)] a) ?_ ⟨_, hs.sel [0, 1] rfl rfl, hf.keep (ks := [0, 1, 7, 8]) (by kernel_rfl)⟩ hS
    clear hS hf hs; clear a
    intro rec1 KK2 hK2 s2 a w1 hM hS
    obtain ⟨F2, hs, hf⟩ := hM
    refine sq ?_
    refine reg ?_
    refine st tbOk 1 [0, 1, 7, 8, 9] (L' := [(0, .slice ao1 p_s.length cp1), (1, .func (.func 50) #[] #[.pointer (some ⟨b1, 0, none⟩)]), (7, .int .i64 ((p_s.length : Nat) : Int)), (8, .int .i64 s2), (9, .bool (decide (s2 < ((p_s.length : Nat) : Int))))]) hf (by kernel_rfl) ?_
    clear hf; clear a; intro a hf
    refine wpList_nil ?_
    refine sq ?_
    refine cnd (b := decide (s2 < ((p_s.length : Nat) : Int))) hf (by kernel_rfl) (fun hb1 => ?_) (fun hb1 => ?_)
    · replace hS := of_t hb1 hS
      refine wp_skip ?_
      refine sq ?_
      refine blk ?_
      refine sq ?_
      refine reg ?_
      refine st tbOk 2 [0, 1, 5, 7, 8] (L' := [(0, .slice ao1 p_s.length cp1), (1, .func (.func 50) #[] #[.pointer (some ⟨b1, 0, none⟩)]), (5, .int .i64 s2), (7, .int .i64 ((p_s.length : Nat) : Int)), (8, .int .i64 s2)]) hf (by kernel_rfl) ?_
      clear hf; clear a; intro a hf
      refine wpList_nil ?_
      refine sq ?_
      refine reg ?_
      refine st tbOk 3 [0, 1, 5, 7, 8, 11, 12, 13] (L' := [(0, .slice ao1 p_s.length cp1), (1, .func (.func 50) #[] #[.pointer (some ⟨b1, 0, none⟩)]), (5, .int .i64 s2), (7, .int .i64 ((p_s.length : Nat) : Int)), (8, .int .i64 s2), (11, .func (.func 50) #[] #[.pointer (some ⟨b1, 0, none⟩)]), (12, .slice ao1 p_s.length cp1), (13, .int .i64 s2)]) hf (by kernel_rfl) ?_
      clear hf; clear a; intro a hf
      have hT := of_gd hS; clear hS; obtain ⟨hc1, hS⟩ := hT
      refine ixR tbOk u33 i25 rfl rfl ((hs.ro 0 rfl).ra (LeH.refl _)) (k := .i64) (n := s2) hc1 hf (by kernel_rfl) (by kernel_rfl) (by kernel_rfl) (by kernel_rfl) ?_
      clear hf; clear a; intro pb1 po1 c1 a hp1 hr1 hf
      obtain rfl : c1 = [.int .u32 ((gt p_s s2).1), .int .u32 ((gt p_s s2).2.1), .int .u64 ((gt p_s s2).2.2.1), .int .u64 ((gt p_s s2).2.2.2.1), .int .u64 ((gt p_s s2).2.2.2.2.1), .int .u64 ((gt p_s s2).2.2.2.2.2.1), .int .u64 ((gt p_s s2).2.2.2.2.2.2)] := hr1
      replace hs : Sep w F R w1 F2 [.cel pb1 po1 [.int .u32 ((gt p_s s2).1), .int .u32 ((gt p_s s2).2.1), .int .u64 ((gt p_s s2).2.2.1), .int .u64 ((gt p_s s2).2.2.2.1), .int .u64 ((gt p_s s2).2.2.2.2.1), .int .u64 ((gt p_s s2).2.2.2.2.2.1), .int .u64 ((gt p_s s2).2.2.2.2.2.2)], .ro ty24 (.slice ao1 p_s.length cp1) p_s, .cel b1 0 [.int .u32 q_c0.1, .int .u32 q_c0.2.1, .int .u64 q_c0.2.2.1, .int .u64 q_c0.2.2.2.1, .int .u64 q_c0.2.2.2.2.1, .int .u64 q_c0.2.2.2.2.2.1, .int .u64 q_c0.2.2.2.2.2.2]] := hs.addCel hp1
      replace hf := Fr.keep (ks := [0, 1, 5, 7, 8, 11, 14]) (L' := [(0, .slice ao1 p_s.length cp1), (1, .func (.func 50) #[] #[.pointer (some ⟨b1, 0, none⟩)]), (5, .int .i64 s2), (7, .int .i64 ((p_s.length : Nat) : Int)), (8, .int .i64 s2), (11, .func (.func 50) #[] #[.pointer (some ⟨b1, 0, none⟩)]), (14, .pointer (some ⟨pb1, po1, none⟩))]) hf (by kernel_rfl)
      refine ldC tbOk (T := 25) (hs.ccel 0 rfl) (LeH.refl _) 0 (.agg #[.int .u32 ((gt p_s s2).1), .int .u32 ((gt p_s s2).2.1), .int .u64 ((gt p_s s2).2.2.1), .int .u64 ((gt p_s s2).2.2.2.1), .int .u64 ((gt p_s s2).2.2.2.2.1), .int .u64 ((gt p_s s2).2.2.2.2.2.1), .int .u64 ((gt p_s s2).2.2.2.2.2.2)]) hf (by kernel_rfl) (by kernel_rfl) (by kernel_rfl) (by kernel_rfl) ?_
      clear hf; clear a; intro a hf
      replace hs : Sep w F R w1 F2 [.ro ty24 (.slice ao1 p_s.length cp1) p_s, .cel b1 0 [.int .u32 q_c0.1, .int .u32 q_c0.2.1, .int .u64 q_c0.2.2.1, .int .u64 q_c0.2.2.2.1, .int .u64 q_c0.2.2.2.2.1, .int .u64 q_c0.2.2.2.2.2.1, .int .u64 q_c0.2.2.2.2.2.2]] := hs.sel [1, 2] rfl rfl
      replace hf := Fr.keep (ks := [0, 1, 5, 7, 8, 11, 15]) (L' := [(0, .slice ao1 p_s.length cp1), (1, .func (.func 50) #[] #[.pointer (some ⟨b1, 0, none⟩)]), (5, .int .i64 s2), (7, .int .i64 ((p_s.length : Nat) : Int)), (8, .int .i64 s2), (11, .func (.func 50) #[] #[.pointer (some ⟨b1, 0, none⟩)]), (15, .agg #[.int .u32 ((gt p_s s2).1), .int .u32 ((gt p_s s2).2.1), .int .u64 ((gt p_s s2).2.2.1), .int .u64 ((gt p_s s2).2.2.2.1), .int .u64 ((gt p_s s2).2.2.2.2.1), .int .u64 ((gt p_s s2).2.2.2.2.2.1), .int .u64 ((gt p_s s2).2.2.2.2.2.2)])]) hf (by kernel_rfl)
      have hT := of_bd hS; clear hS; obtain ⟨z1, hz1, hS⟩ := hT
      refine clV ent50 (vs := [.agg #[.int .u32 ((gt p_s s2).1), .int .u32 ((gt p_s s2).2.1), .int .u64 ((gt p_s s2).2.2.1), .int .u64 ((gt p_s s2).2.2.2.1), .int .u64 ((gt p_s s2).2.2.2.2.1), .int .u64 ((gt p_s s2).2.2.2.2.2.1), .int .u64 ((gt p_s s2).2.2.2.2.2.2)]]) (caps := [.pointer (some ⟨b1, 0, none⟩)]) hf (by kernel_rfl) (by kernel_rfl) (by kernel_rfl) (by kernel_rfl) (segs_within_1_ok (p_x := gt p_s s2) (q_1 := (q_c0.1, q_c0.2.1, q_c0.2.2.1, q_c0.2.2.2.1, q_c0.2.2.2.2.1, q_c0.2.2.2.2.2.1, q_c0.2.2.2.2.2.2)) (hs.enter [1] rfl rfl) hz1) ?_
      clear hf; clear a; intro v w2 a hT hf; obtain ⟨F3, rfl, hr⟩ := hT
      replace hs : Sep w F R w2 F3 [.ro ty24 (.slice ao1 p_s.length cp1) p_s, .cel b1 0 [.int .u32 q_c0.1, .int .u32 q_c0.2.1, .int .u64 q_c0.2.2.1, .int .u64 q_c0.2.2.2.1, .int .u64 q_c0.2.2.2.2.1, .int .u64 q_c0.2.2.2.2.2.1, .int .u64 q_c0.2.2.2.2.2.2]] := hs.back [1] [0, 1] rfl rfl rfl rfl hr
      clear hr
      replace hf := Fr.keep (ks := [0, 1, 5, 7, 8, 16]) (L' := [(0, .slice ao1 p_s.length cp1), (1, .func (.func 50) #[] #[.pointer (some ⟨b1, 0, none⟩)]), (5, .int .i64 s2), (7, .int .i64 ((p_s.length : Nat) : Int)), (8, .int .i64 s2), (16, .bool z1)]) hf (by kernel_rfl)
      refine wpList_nil ?_
      refine cnd (b := z1) hf (by kernel_rfl) (fun hb2 => ?_) (fun hb2 => ?_)
      · replace hS := of_t hb2 hS
        refine sq ?_
        refine reg ?_
        refine st tbOk 2 [4] (L' := [(4, .int .i64 s2)]) hf (by kernel_rfl) ?_
        clear hf; clear a; intro a hf
        refine wpList_nil ?_
        have hr := Option.some.inj hS; subst hr
        refine wp_ret ?_
        exact ret_ok hf (vs := [.int .i64 s2]) (by kernel_rfl) ⟨_, rfl, hs.sel [] rfl rfl⟩
      · replace hS := of_f hb2 hS
        refine wp_skip ?_
        refine reg ?_
        refine st tbOk 2 [0, 1, 7, 8] (L' := [(0, .slice ao1 p_s.length cp1), (1, .func (.func 50) #[] #[.pointer (some ⟨b1, 0, none⟩)]), (7, .int .i64 ((p_s.length : Nat) : Int)), (8, .int .i64 (IntKind.i64.wrap (s2 + 1)))]) hf (by kernel_rfl) ?_
        clear hf; clear a; intro a hf
        refine wpList_nil ?_
        exact hK2 (IntKind.i64.wrap (s2 + 1)) _ _ ⟨_, hs.sel [0, 1] rfl rfl, hf.keep (ks := [0, 1, 7, 8]) (by kernel_rfl)⟩ hS
    · replace hS := of_f hb1 hS
      refine wp_exit ?_
      exact hK1 () _ _ ⟨_, hs.sel [] rfl rfl, hf.keep (ks := []) (by kernel_rfl)⟩ hS

end Dm
