/-
  The walks: a call of each Go function gives what its shallow form gives, where that form gives something; printed by a program of this repo. No condition.
-/
import Derived.Test.YtmlghbdlhjinaaaWT
namespace Dm
open Go Go.RowKit Go.Proofs

set_option maxHeartbeats 4000000 in
theorem ref02_Build_ok {w : World} {F : SH} {p_l : List (List UInt8)} {ao1 : Option Addr} {cp1 : Nat} (hs : Sep w F (blks [.ro tS (.slice ao1 p_l.length cp1) p_l]) w F [.ro tS (.slice ao1 p_l.length cp1) p_l]) {r : (List Int) × (List Int) × Int} (hS : ref02_Build p_l = some r) :
    Calls Try.prog 22 [.slice ao1 p_l.length cp1].toArray w (Gives (fun u w' => ∃ (ao13 : Option Addr) (cp13 : Nat) (ao14 : Option Addr) (cp14 : Nat) (F' : SH), u = .tuple #[.slice ao13 r.1.length cp13, .slice ao14 r.2.1.length cp14, .int .i64 r.2.2] ∧ Sep w F (blks [.ro tS (.slice ao1 p_l.length cp1) p_l]) w' F' [.row 5 (tI .u8) (.slice ao13 r.1.length cp13) r.1, .row 23 (tI .u64) (.slice ao14 r.2.1.length cp14) r.2.1])) := by
  generalize (blks [.ro tS (.slice ao1 p_l.length cp1) p_l]) = R at hs ⊢
  unfold ref02_Build at hS
  refine fn_ok (vs := [.slice ao1 p_l.length cp1]) Try.func22 rfl 90 Try.ntmps22 (Nat.le_of_ble_eq_true rfl) ?_
  intro a hf
  replace hf := Fr.cast (L' := [(0, .slice ao1 p_l.length cp1)]) hf (by kernel_rfl)
  refine sq ?_
  refine reg ?_
  refine st tbOk 3 [0] (L' := [(0, .slice ao1 p_l.length cp1)]) hf (by kernel_rfl) ?_
  clear hf; clear a; intro a hf
  refine wpList_nil ?_
  refine sq ?_
  refine reg ?_
  refine st tbOk 1 [0, 5] (L' := [(0, .slice ao1 p_l.length cp1), (5, .int .i64 1)]) hf (by kernel_rfl) ?_
  clear hf; clear a; intro a hf
  refine wpList_nil ?_
  refine sq ?_
  refine sq ?_
  refine reg ?_
  refine st tbOk 1 [0, 5, 6] (L' := [(0, .slice ao1 p_l.length cp1), (5, .int .i64 1), (6, .int .i64 0)]) hf (by kernel_rfl) ?_
  clear hf; clear a; intro a hf
  refine wpList_nil ?_
  refine ctj (fun (s1 : Unit) (a : Act) (w' : World) => ∃ (F1 : SH), Sep w F R w' F1 [.ro tS (.slice ao1 p_l.length cp1) p_l] ∧ Fr 90 [(0, .slice ao1 p_l.length cp1), (5, .int .i64 1)] a) hS ?_ ?_
  · clear hS hf hs; clear a; intro s1 a w5 hM hS
    obtain ⟨F1, hs, hf⟩ := hM
    refine sq ?_
    refine reg ?_
    refine bsR tbOk u22 i5 rfl (t := (tI .u8)) (vs := [(0, .int .u8 0)]) (cells := #[.int .u8 0]) ([0] : List Int) hs.le hf (by kernel_rfl) (by kernel_rfl) (by kernel_rfl) rfl (by kernel_rfl) (reps_flat _) rfl ?_
    clear hf; clear a; intro w6 a ho hx hf
    replace hs : Sep w F R w6 F1 [.row 5 (tI .u8) (.slice (some ⟨w5.heap.size, 0, none⟩) ([0] : List Int).length ([0] : List Int).length) ([0] : List Int), .ro tS (.slice ao1 p_l.length cp1) p_l] := hs.newRow ho hx
    clear ho hx
    replace hf := Fr.keep (ks := [0, 5, 35]) (L' := [(0, .slice ao1 p_l.length cp1), (5, .int .i64 1), (35, .slice (some ⟨w5.heap.size, 0, none⟩) ([0] : List Int).length ([0] : List Int).length)]) hf (by kernel_rfl)
    refine st tbOk 1 [0, 5, 8] (L' := [(0, .slice ao1 p_l.length cp1), (5, .int .i64 1), (8, .slice (some ⟨w5.heap.size, 0, none⟩) ([0] : List Int).length ([0] : List Int).length)]) hf (by kernel_rfl) ?_
    clear hf; clear a; intro a hf
    refine wpList_nil ?_
    refine sq ?_
    refine reg ?_
    refine st tbOk 1 [0, 5, 8, 9] (L' := [(0, .slice ao1 p_l.length cp1), (5, .int .i64 1), (8, .slice (some ⟨w5.heap.size, 0, none⟩) ([0] : List Int).length ([0] : List Int).length), (9, .slice none 0 0)]) hf (by kernel_rfl) ?_
    clear hf; clear a; intro a hf
    refine wpList_nil ?_
    refine sq ?_
    refine sq ?_
    refine reg ?_
    refine st tbOk 1 [0, 5, 8, 9, 10] (L' := [(0, .slice ao1 p_l.length cp1), (5, .int .i64 1), (8, .slice (some ⟨w5.heap.size, 0, none⟩) ([0] : List Int).length ([0] : List Int).length), (9, .slice none 0 0), (10, .int .i64 0)]) hf (by kernel_rfl) ?_
    clear hf; clear a; intro a hf
    refine wpList_nil ?_
    refine ctj (fun (s6 : Int × (List Int) × (List Int)) (a : Act) (w' : World) => ∃ (ao2 : Option Addr) (cp2 : Nat) (ao3 : Option Addr) (cp3 : Nat) (F6 : SH), Sep w F R w' F6 [.row 5 (tI .u8) (.slice ao2 s6.2.1.length cp2) s6.2.1, .row 23 (tI .u64) (.slice ao3 s6.2.2.length cp3) s6.2.2] ∧ Fr 90 [(5, .int .i64 s6.1), (8, .slice ao2 s6.2.1.length cp2), (9, .slice ao3 s6.2.2.length cp3)] a) hS ?_ ?_
    · clear hS hf hs; clear a; intro s6 a w19 hM hS
      obtain ⟨ao2, cp2, ao3, cp3, F6, hs, hf⟩ := hM
      refine sq ?_
      refine sq ?_
      refine reg ?_
      refine st tbOk 2 [8, 9, 87] (L' := [(8, .slice ao2 s6.2.1.length cp2), (9, .slice ao3 s6.2.2.length cp3), (87, .bool (decide (s6.1 > 65536)))]) hf (by kernel_rfl) ?_
      clear hf; clear a; intro a hf
      refine wpList_nil ?_
      refine cnd (b := decide (s6.1 > 65536)) hf (by kernel_rfl) (fun hb9 => ?_) (fun hb9 => ?_)
      · replace hS := of_t hb9 hS
        refine sq ?_
        refine reg ?_
        refine st tbOk 3 [2, 3, 4] (L' := [(2, .slice none 0 0), (3, .slice none 0 0), (4, .int .i64 13)]) hf (by kernel_rfl) ?_
        clear hf; clear a; intro a hf
        refine wpList_nil ?_
        have hr := Option.some.inj hS; subst hr
        refine wp_ret ?_
        replace hs : Sep w F R w19 F6 [.row 5 (tI .u8) (.slice none 0 0) ([] : List Int), .row 5 (tI .u8) (.slice ao2 s6.2.1.length cp2) s6.2.1, .row 23 (tI .u64) (.slice ao3 s6.2.2.length cp3) s6.2.2] := hs.addNil 5 (tI .u8)
        replace hs : Sep w F R w19 F6 [.row 23 (tI .u64) (.slice none 0 0) ([] : List Int), .row 5 (tI .u8) (.slice none 0 0) ([] : List Int), .row 5 (tI .u8) (.slice ao2 s6.2.1.length cp2) s6.2.1, .row 23 (tI .u64) (.slice ao3 s6.2.2.length cp3) s6.2.2] := hs.addNil 23 (tI .u64)
        exact ret_ok hf (vs := [.slice none 0 0, .slice none 0 0, .int .i64 13]) (by kernel_rfl) ⟨none, 0, none, 0, _, rfl, hs.sel [1, 0] rfl rfl⟩
      · replace hS := of_f hb9 hS
        refine wp_skip ?_
        refine sq ?_
        refine reg ?_
        refine st tbOk 5 [2, 3, 4] (L' := [(2, .slice ao2 s6.2.1.length cp2), (3, .slice ao3 s6.2.2.length cp3), (4, .int .i64 0)]) hf (by kernel_rfl) ?_
        clear hf; clear a; intro a hf
        refine wpList_nil ?_
        have hr := Option.some.inj hS; subst hr
        refine wp_ret ?_
        exact ret_ok hf (vs := [.slice ao2 s6.2.1.length cp2, .slice ao3 s6.2.2.length cp3, .int .i64 0]) (by kernel_rfl) ⟨ao2, cp2, ao3, cp3, _, rfl, hs.sel [0, 1] rfl rfl⟩
    · clear hS; intro KK6 k4 hK6 hS
      refine blk ?_
      replace hs : Sep w F R w6 F1 [.row 23 (tI .u64) (.slice none 0 0) ([] : List Int), .row 5 (tI .u8) (.slice (some ⟨w5.heap.size, 0, none⟩) ([0] : List Int).length ([0] : List Int).length) ([0] : List Int), .ro tS (.slice ao1 p_l.length cp1) p_l] := hs.addNil 23 (tI .u64)
      refine lp (st := (1, ([0] : List Int), [], 0)) (fun (s7 : Int × (List Int) × (List Int) × Int) (a : Act) (w' : World) => ∃ (ao4 : Option Addr) (cp4 : Nat) (ao5 : Option Addr) (cp5 : Nat) (F7 : SH), Sep w F R w' F7 [.row 5 (tI .u8) (.slice ao4 s7.2.1.length cp4) s7.2.1, .row 23 (tI .u64) (.slice ao5 s7.2.2.1.length cp5) s7.2.2.1, .ro tS (.slice ao1 p_l.length cp1) p_l] ∧ Fr 90 [(0, .slice ao1 p_l.length cp1), (5, .int .i64 s7.1), (8, .slice ao4 s7.2.1.length cp4), (9, .slice ao5 s7.2.2.1.length cp5), (10, .int .i64 s7.2.2.2)] a) ?_ ⟨(some ⟨w5.heap.size, 0, none⟩), ([0] : List Int).length, none, 0, _, hs.sel [1, 0, 2] rfl rfl, hf.keep (ks := [0, 5, 8, 9, 10]) (by kernel_rfl)⟩ hS
      clear hS hf hs; clear a
      intro rec3 KK7 hK7 s7 a w7 hM hS
      obtain ⟨ao4, cp4, ao5, cp5, F7, hs, hf⟩ := hM
      refine sq ?_
      refine sq ?_
      refine reg ?_
      refine st tbOk 4 [0, 5, 8, 9, 10, 39] (L' := [(0, .slice ao1 p_l.length cp1), (5, .int .i64 s7.1), (8, .slice ao4 s7.2.1.length cp4), (9, .slice ao5 s7.2.2.1.length cp5), (10, .int .i64 s7.2.2.2), (39, .bool (decide (s7.2.2.2 < ((p_l.length : Nat) : Int))))]) hf (by kernel_rfl) ?_
      clear hf; clear a; intro a hf
      refine wpList_nil ?_
      refine cnd (b := decide (s7.2.2.2 < ((p_l.length : Nat) : Int))) hf (by kernel_rfl) (fun hb4 => ?_) (fun hb4 => ?_)
      · replace hS := of_t hb4 hS
        refine wp_skip ?_
        refine sq ?_
        refine ctj (fun (s8 : Int × (List Int) × (List Int)) (a : Act) (w' : World) => ∃ (ao6 : Option Addr) (cp6 : Nat) (ao7 : Option Addr) (cp7 : Nat) (F8 : SH), Sep w F R w' F8 [.row 5 (tI .u8) (.slice ao6 s8.2.1.length cp6) s8.2.1, .row 23 (tI .u64) (.slice ao7 s8.2.2.length cp7) s8.2.2, .ro tS (.slice ao1 p_l.length cp1) p_l] ∧ Fr 90 [(0, .slice ao1 p_l.length cp1), (5, .int .i64 s8.1), (8, .slice ao6 s8.2.1.length cp6), (9, .slice ao7 s8.2.2.length cp7), (10, .int .i64 s7.2.2.2)] a) hS ?_ ?_
        · clear hS hf hs; clear a; intro s8 a w18 hM hS
          obtain ⟨ao6, cp6, ao7, cp7, F8, hs, hf⟩ := hM
          refine reg ?_
          have hT := of_let hS; clear hS; obtain ⟨i_2, hl7, hS⟩ := hT
          refine st tbOk 3 [0, 5, 8, 9, 10] (L' := [(0, .slice ao1 p_l.length cp1), (5, .int .i64 s8.1), (8, .slice ao6 s8.2.1.length cp6), (9, .slice ao7 s8.2.2.length cp7), (10, .int .i64 i_2)]) hf (by subst hl7; kernel_rfl) ?_
          clear hf; clear a; intro a hf
          refine wpList_nil ?_
          exact hK7 (s8.1, s8.2.1, s8.2.2, i_2) _ _ ⟨ao6, cp6, ao7, cp7, _, hs.sel [0, 1, 2] rfl rfl, hf.keep (ks := [0, 5, 8, 9, 10]) (by kernel_rfl)⟩ hS
        · clear hS; intro KK8 k5 hK8 hS
          refine blk ?_
          refine sq ?_
          refine reg ?_
          refine st tbOk 1 [0, 5, 8, 9, 10, 11] (L' := [(0, .slice ao1 p_l.length cp1), (5, .int .i64 s7.1), (8, .slice ao4 s7.2.1.length cp4), (9, .slice ao5 s7.2.2.1.length cp5), (10, .int .i64 s7.2.2.2), (11, .int .u64 0)]) hf (by kernel_rfl) ?_
          clear hf; clear a; intro a hf
          refine wpList_nil ?_
          refine sq ?_
          refine sq ?_
          refine reg ?_
          refine st tbOk 2 [0, 5, 8, 9, 10, 11, 42, 43] (L' := [(0, .slice ao1 p_l.length cp1), (5, .int .i64 s7.1), (8, .slice ao4 s7.2.1.length cp4), (9, .slice ao5 s7.2.2.1.length cp5), (10, .int .i64 s7.2.2.2), (11, .int .u64 0), (42, .slice ao1 p_l.length cp1), (43, .int .i64 s7.2.2.2)]) hf (by kernel_rfl) ?_
          clear hf; clear a; intro a hf
          have hT := of_gd hS; clear hS; obtain ⟨hc4, hS⟩ := hT
          refine ixR tbOk u30 i9 rfl rfl ((hs.ro 2 rfl).ra (LeH.refl _)) (k := .i64) (n := s7.2.2.2) hc4 hf (by kernel_rfl) (by kernel_rfl) (by kernel_rfl) (by kernel_rfl) ?_
          clear hf; clear a; intro pb3 po3 c3 a hp3 hr3 hf
          obtain rfl : c3 = [strV (gt p_l s7.2.2.2)] := hr3
          replace hs : Sep w F R w7 F7 [.cel pb3 po3 [strV (gt p_l s7.2.2.2)], .row 5 (tI .u8) (.slice ao4 s7.2.1.length cp4) s7.2.1, .row 23 (tI .u64) (.slice ao5 s7.2.2.1.length cp5) s7.2.2.1, .ro tS (.slice ao1 p_l.length cp1) p_l] := hs.addCel hp3
          replace hf := Fr.keep (ks := [0, 5, 8, 9, 10, 11, 44]) (L' := [(0, .slice ao1 p_l.length cp1), (5, .int .i64 s7.1), (8, .slice ao4 s7.2.1.length cp4), (9, .slice ao5 s7.2.2.1.length cp5), (10, .int .i64 s7.2.2.2), (11, .int .u64 0), (44, .pointer (some ⟨pb3, po3, none⟩))]) hf (by kernel_rfl)
          refine ldC tbOk (T := 9) (hs.ccel 0 rfl) (LeH.refl _) 0 (strV (gt p_l s7.2.2.2)) hf (by kernel_rfl) (by kernel_rfl) (by kernel_rfl) (by kernel_rfl) ?_
          clear hf; clear a; intro a hf
          replace hs : Sep w F R w7 F7 [.row 5 (tI .u8) (.slice ao4 s7.2.1.length cp4) s7.2.1, .row 23 (tI .u64) (.slice ao5 s7.2.2.1.length cp5) s7.2.2.1, .ro tS (.slice ao1 p_l.length cp1) p_l] := hs.sel [1, 2, 3] rfl rfl
          replace hf := Fr.keep (ks := [0, 5, 8, 9, 10, 11, 45]) (L' := [(0, .slice ao1 p_l.length cp1), (5, .int .i64 s7.1), (8, .slice ao4 s7.2.1.length cp4), (9, .slice ao5 s7.2.2.1.length cp5), (10, .int .i64 s7.2.2.2), (11, .int .u64 0), (45, strV (gt p_l s7.2.2.2))]) hf (by kernel_rfl)
          refine st tbOk 1 [0, 5, 8, 9, 10, 11, 46] (L' := [(0, .slice ao1 p_l.length cp1), (5, .int .i64 s7.1), (8, .slice ao4 s7.2.1.length cp4), (9, .slice ao5 s7.2.2.1.length cp5), (10, .int .i64 s7.2.2.2), (11, .int .u64 0), (46, .bool (!((gt p_l s7.2.2.2) == [])))]) hf (by kernel_rfl) ?_
          clear hf; clear a; intro a hf
          refine wpList_nil ?_
          refine ctj (fun (s9 : Int × (List Int) × Int) (a : Act) (w' : World) => ∃ (ao8 : Option Addr) (cp8 : Nat) (F9 : SH), Sep w F R w' F9 [.row 5 (tI .u8) (.slice ao8 s9.2.1.length cp8) s9.2.1, .row 23 (tI .u64) (.slice ao5 s7.2.2.1.length cp5) s7.2.2.1, .ro tS (.slice ao1 p_l.length cp1) p_l] ∧ Fr 90 [(0, .slice ao1 p_l.length cp1), (5, .int .i64 s9.1), (8, .slice ao8 s9.2.1.length cp8), (9, .slice ao5 s7.2.2.1.length cp5), (10, .int .i64 s7.2.2.2), (11, .int .u64 s9.2.2)] a) hS ?_ ?_
          · clear hS hf hs; clear a; intro s9 a w15 hM hS
            obtain ⟨ao8, cp8, F9, hs, hf⟩ := hM
            refine reg ?_
            refine st tbOk 2 [0, 5, 8, 10, 82, 83] (L' := [(0, .slice ao1 p_l.length cp1), (5, .int .i64 s9.1), (8, .slice ao8 s9.2.1.length cp8), (10, .int .i64 s7.2.2.2), (82, .slice ao5 s7.2.2.1.length cp5), (83, .int .u64 s9.2.2)]) hf (by kernel_rfl) ?_
            clear hf; clear a; intro a hf
            refine bsR tbOk u32 i23 rfl (t := (tI .u64)) (vs := [(0, .int .u64 s9.2.2)]) (cells := #[.int .u64 s9.2.2]) ([s9.2.2] : List Int) hs.le hf (by kernel_rfl) (by kernel_rfl) (by kernel_rfl) rfl (by kernel_rfl) (reps_flat _) rfl ?_
            clear hf; clear a; intro w16 a ho hx hf
            replace hs : Sep w F R w16 F9 [.row 23 (tI .u64) (.slice (some ⟨w15.heap.size, 0, none⟩) ([s9.2.2] : List Int).length ([s9.2.2] : List Int).length) ([s9.2.2] : List Int), .row 5 (tI .u8) (.slice ao8 s9.2.1.length cp8) s9.2.1, .row 23 (tI .u64) (.slice ao5 s7.2.2.1.length cp5) s7.2.2.1, .ro tS (.slice ao1 p_l.length cp1) p_l] := hs.newRow ho hx
            clear ho hx
            replace hf := Fr.keep (ks := [0, 5, 8, 10, 82, 84]) (L' := [(0, .slice ao1 p_l.length cp1), (5, .int .i64 s9.1), (8, .slice ao8 s9.2.1.length cp8), (10, .int .i64 s7.2.2.2), (82, .slice ao5 s7.2.2.1.length cp5), (84, .slice (some ⟨w15.heap.size, 0, none⟩) ([s9.2.2] : List Int).length ([s9.2.2] : List Int).length)]) hf (by kernel_rfl)
            have hT := of_gd hS; clear hS; obtain ⟨hc11, hS⟩ := hT
            refine apR tbOk u32 i23 rfl rfl rfl rfl hs.le (hs.own 2 rfl) (hs.raW 0 rfl) hc11 hf (by kernel_rfl) (by kernel_rfl) (by kernel_rfl) (by kernel_rfl) ?_
            clear hf; clear a; intro ao12 cp12 w17 a ho hg hl hf
            replace hs : Sep w F R w17 F9 [.row 23 (tI .u64) (.slice (some ⟨w15.heap.size, 0, none⟩) ([s9.2.2] : List Int).length ([s9.2.2] : List Int).length) ([s9.2.2] : List Int), .row 5 (tI .u8) (.slice ao8 s9.2.1.length cp8) s9.2.1, .row 23 (tI .u64) (.slice ao12 (s7.2.2.1 ++ ([s9.2.2] : List Int)).length cp12) (s7.2.2.1 ++ ([s9.2.2] : List Int)), .ro tS (.slice ao1 p_l.length cp1) p_l] := hs.updRow 2 rfl ho hg hl
            clear ho hg hl
            replace hs : Sep w F R w17 F9 [.row 5 (tI .u8) (.slice ao8 s9.2.1.length cp8) s9.2.1, .row 23 (tI .u64) (.slice ao12 (s7.2.2.1 ++ ([s9.2.2] : List Int)).length cp12) (s7.2.2.1 ++ ([s9.2.2] : List Int)), .ro tS (.slice ao1 p_l.length cp1) p_l] := hs.sel [1, 2, 3] rfl rfl
            replace hf := Fr.keep (ks := [0, 5, 8, 10, 85]) (L' := [(0, .slice ao1 p_l.length cp1), (5, .int .i64 s9.1), (8, .slice ao8 s9.2.1.length cp8), (10, .int .i64 s7.2.2.2), (85, .slice ao12 (s7.2.2.1 ++ ([s9.2.2] : List Int)).length cp12)]) hf (by kernel_rfl)
            refine st tbOk 1 [0, 5, 8, 9, 10] (L' := [(0, .slice ao1 p_l.length cp1), (5, .int .i64 s9.1), (8, .slice ao8 s9.2.1.length cp8), (9, .slice ao12 (s7.2.2.1 ++ ([s9.2.2] : List Int)).length cp12), (10, .int .i64 s7.2.2.2)]) hf (by kernel_rfl) ?_
            clear hf; clear a; intro a hf
            refine wpList_nil ?_
            exact hK8 (s9.1, s9.2.1, (s7.2.2.1 ++ ([s9.2.2] : List Int))) _ _ ⟨ao8, cp8, ao12, cp12, _, hs.sel [0, 1, 2] rfl rfl, hf.keep (ks := [0, 5, 8, 9, 10]) (by kernel_rfl)⟩ hS
          · clear hS; intro KK9 k6 hK9 hS
            refine cnd (b := !((gt p_l s7.2.2.2) == [])) hf (by kernel_rfl) (fun hb5 => ?_) (fun hb5 => ?_)
            · replace hS := of_t hb5 hS
              refine sq ?_
              refine reg ?_
              have hT := of_let hS; clear hS; obtain ⟨at_1, hl3, hS⟩ := hT
              refine st tbOk 3 [0, 5, 8, 9, 10, 11] (L' := [(0, .slice ao1 p_l.length cp1), (5, .int .i64 s7.1), (8, .slice ao4 s7.2.1.length cp4), (9, .slice ao5 s7.2.2.1.length cp5), (10, .int .i64 s7.2.2.2), (11, .int .u64 at_1)]) hf (by subst hl3; kernel_rfl) ?_
              clear hf; clear a; intro a hf
              refine wpList_nil ?_
              refine sq ?_
              refine sq ?_
              refine reg ?_
              refine st tbOk 1 [0, 5, 8, 9, 10, 11, 12] (L' := [(0, .slice ao1 p_l.length cp1), (5, .int .i64 s7.1), (8, .slice ao4 s7.2.1.length cp4), (9, .slice ao5 s7.2.2.1.length cp5), (10, .int .i64 s7.2.2.2), (11, .int .u64 at_1), (12, .int .i64 0)]) hf (by kernel_rfl) ?_
              clear hf; clear a; intro a hf
              refine wpList_nil ?_
              refine ctj (fun (s10 : Int) (a : Act) (w' : World) => ∃ (F10 : SH), Sep w F R w' F10 [.row 5 (tI .u8) (.slice ao4 s7.2.1.length cp4) s7.2.1, .row 23 (tI .u64) (.slice ao5 s7.2.2.1.length cp5) s7.2.2.1, .ro tS (.slice ao1 p_l.length cp1) p_l] ∧ Fr 90 [(0, .slice ao1 p_l.length cp1), (5, .int .i64 s7.1), (8, .slice ao4 s7.2.1.length cp4), (9, .slice ao5 s7.2.2.1.length cp5), (10, .int .i64 s7.2.2.2), (11, .int .u64 s10)] a) hS ?_ ?_
              · clear hS hf hs; clear a; intro s10 a w10 hM hS
                obtain ⟨F10, hs, hf⟩ := hM
                refine sq ?_
                refine reg ?_
                refine st tbOk 4 [0, 5, 8, 9, 10, 11, 70] (L' := [(0, .slice ao1 p_l.length cp1), (5, .int .i64 s7.1), (8, .slice ao4 s7.2.1.length cp4), (9, .slice ao5 s7.2.2.1.length cp5), (10, .int .i64 s7.2.2.2), (11, .int .u64 s10), (70, .bool (s10 == (IntKind.u64.wrap s7.1)))]) hf (by kernel_rfl) ?_
                clear hf; clear a; intro a hf
                refine wpList_nil ?_
                refine ctj (fun (s12 : Int × (List Int)) (a : Act) (w' : World) => ∃ (ao9 : Option Addr) (cp9 : Nat) (F12 : SH), Sep w F R w' F12 [.row 5 (tI .u8) (.slice ao9 s12.2.length cp9) s12.2, .row 23 (tI .u64) (.slice ao5 s7.2.2.1.length cp5) s7.2.2.1, .ro tS (.slice ao1 p_l.length cp1) p_l] ∧ Fr 90 [(0, .slice ao1 p_l.length cp1), (5, .int .i64 s12.1), (8, .slice ao9 s12.2.length cp9), (9, .slice ao5 s7.2.2.1.length cp5), (10, .int .i64 s7.2.2.2), (11, .int .u64 s10)] a) hS ?_ ?_
                · clear hS hf hs; clear a; intro s12 a w14 hM hS
                  obtain ⟨ao9, cp9, F12, hs, hf⟩ := hM
                  exact hK9 (s12.1, s12.2, s10) _ _ ⟨ao9, cp9, _, hs.sel [0, 1, 2] rfl rfl, hf.keep (ks := [0, 5, 8, 9, 10, 11]) (by kernel_rfl)⟩ hS
                · clear hS; intro KK12 k8 hK12 hS
                  refine cnd (b := s10 == (IntKind.u64.wrap s7.1)) hf (by kernel_rfl) (fun hb8 => ?_) (fun hb8 => ?_)
                  · replace hS := of_t hb8 hS
                    refine sq ?_
                    refine reg ?_
                    refine st tbOk 3 [0, 9, 10, 11, 71, 72, 73] (L' := [(0, .slice ao1 p_l.length cp1), (9, .slice ao5 s7.2.2.1.length cp5), (10, .int .i64 s7.2.2.2), (11, .int .u64 s10), (71, .slice ao4 s7.2.1.length cp4), (72, .slice ao1 p_l.length cp1), (73, .int .i64 s7.2.2.2)]) hf (by kernel_rfl) ?_
                    clear hf; clear a; intro a hf
                    have hT := of_gd hS; clear hS; obtain ⟨hc8, hS⟩ := hT
                    refine ixR tbOk u30 i9 rfl rfl ((hs.ro 2 rfl).ra (LeH.refl _)) (k := .i64) (n := s7.2.2.2) hc8 hf (by kernel_rfl) (by kernel_rfl) (by kernel_rfl) (by kernel_rfl) ?_
                    clear hf; clear a; intro pb7 po7 c7 a hp7 hr7 hf
                    obtain rfl : c7 = [strV (gt p_l s7.2.2.2)] := hr7
                    replace hs : Sep w F R w10 F10 [.cel pb7 po7 [strV (gt p_l s7.2.2.2)], .row 5 (tI .u8) (.slice ao4 s7.2.1.length cp4) s7.2.1, .row 23 (tI .u64) (.slice ao5 s7.2.2.1.length cp5) s7.2.2.1, .ro tS (.slice ao1 p_l.length cp1) p_l] := hs.addCel hp7
                    replace hf := Fr.keep (ks := [0, 9, 10, 11, 71, 74]) (L' := [(0, .slice ao1 p_l.length cp1), (9, .slice ao5 s7.2.2.1.length cp5), (10, .int .i64 s7.2.2.2), (11, .int .u64 s10), (71, .slice ao4 s7.2.1.length cp4), (74, .pointer (some ⟨pb7, po7, none⟩))]) hf (by kernel_rfl)
                    refine ldC tbOk (T := 9) (hs.ccel 0 rfl) (LeH.refl _) 0 (strV (gt p_l s7.2.2.2)) hf (by kernel_rfl) (by kernel_rfl) (by kernel_rfl) (by kernel_rfl) ?_
                    clear hf; clear a; intro a hf
                    replace hs : Sep w F R w10 F10 [.row 5 (tI .u8) (.slice ao4 s7.2.1.length cp4) s7.2.1, .row 23 (tI .u64) (.slice ao5 s7.2.2.1.length cp5) s7.2.2.1, .ro tS (.slice ao1 p_l.length cp1) p_l] := hs.sel [1, 2, 3] rfl rfl
                    replace hf := Fr.keep (ks := [0, 9, 10, 11, 71, 75]) (L' := [(0, .slice ao1 p_l.length cp1), (9, .slice ao5 s7.2.2.1.length cp5), (10, .int .i64 s7.2.2.2), (11, .int .u64 s10), (71, .slice ao4 s7.2.1.length cp4), (75, strV (gt p_l s7.2.2.2))]) hf (by kernel_rfl)
                    have hT := of_gd hS; clear hS; obtain ⟨hc9, hS⟩ := hT
                    refine apS tbOk u22 u9 i5 hs.le (hs.own 0 rfl) (y := gt p_l s7.2.2.2) hc9 hf (by kernel_rfl) (by kernel_rfl) (by kernel_rfl) (by kernel_rfl) ?_
                    clear hf; clear a; intro ao10 cp10 w11 a ho hg hl hf
                    replace hs : Sep w F R w11 F10 [.row 5 (tI .u8) (.slice ao10 (s7.2.1 ++ ofStr (gt p_l s7.2.2.2)).length cp10) (s7.2.1 ++ ofStr (gt p_l s7.2.2.2)), .row 23 (tI .u64) (.slice ao5 s7.2.2.1.length cp5) s7.2.2.1, .ro tS (.slice ao1 p_l.length cp1) p_l] := hs.updRow 0 rfl ho hg hl
                    clear ho hg hl
                    replace hf := Fr.keep (ks := [0, 9, 10, 11, 76]) (L' := [(0, .slice ao1 p_l.length cp1), (9, .slice ao5 s7.2.2.1.length cp5), (10, .int .i64 s7.2.2.2), (11, .int .u64 s10), (76, .slice ao10 (s7.2.1 ++ ofStr (gt p_l s7.2.2.2)).length cp10)]) hf (by kernel_rfl)
                    refine st tbOk 1 [0, 8, 9, 10, 11] (L' := [(0, .slice ao1 p_l.length cp1), (8, .slice ao10 (s7.2.1 ++ ofStr (gt p_l s7.2.2.2)).length cp10), (9, .slice ao5 s7.2.2.1.length cp5), (10, .int .i64 s7.2.2.2), (11, .int .u64 s10)]) hf (by kernel_rfl) ?_
                    clear hf; clear a; intro a hf
                    refine wpList_nil ?_
                    refine sq ?_
                    refine reg ?_
                    refine st tbOk 1 [0, 9, 10, 11, 77] (L' := [(0, .slice ao1 p_l.length cp1), (9, .slice ao5 s7.2.2.1.length cp5), (10, .int .i64 s7.2.2.2), (11, .int .u64 s10), (77, .slice ao10 (s7.2.1 ++ ofStr (gt p_l s7.2.2.2)).length cp10)]) hf (by kernel_rfl) ?_
                    clear hf; clear a; intro a hf
                    refine bsR tbOk u22 i5 rfl (t := (tI .u8)) (vs := [(0, .int .u8 0)]) (cells := #[.int .u8 0]) ([0] : List Int) hs.le hf (by kernel_rfl) (by kernel_rfl) (by kernel_rfl) rfl (by kernel_rfl) (reps_flat _) rfl ?_
                    clear hf; clear a; intro w12 a ho hx hf
                    replace hs : Sep w F R w12 F10 [.row 5 (tI .u8) (.slice (some ⟨w11.heap.size, 0, none⟩) ([0] : List Int).length ([0] : List Int).length) ([0] : List Int), .row 5 (tI .u8) (.slice ao10 (s7.2.1 ++ ofStr (gt p_l s7.2.2.2)).length cp10) (s7.2.1 ++ ofStr (gt p_l s7.2.2.2)), .row 23 (tI .u64) (.slice ao5 s7.2.2.1.length cp5) s7.2.2.1, .ro tS (.slice ao1 p_l.length cp1) p_l] := hs.newRow ho hx
                    clear ho hx
                    replace hf := Fr.keep (ks := [0, 9, 10, 11, 77, 78]) (L' := [(0, .slice ao1 p_l.length cp1), (9, .slice ao5 s7.2.2.1.length cp5), (10, .int .i64 s7.2.2.2), (11, .int .u64 s10), (77, .slice ao10 (s7.2.1 ++ ofStr (gt p_l s7.2.2.2)).length cp10), (78, .slice (some ⟨w11.heap.size, 0, none⟩) ([0] : List Int).length ([0] : List Int).length)]) hf (by kernel_rfl)
                    have hT := of_gd hS; clear hS; obtain ⟨hc10, hS⟩ := hT
                    refine apR tbOk u22 i5 rfl rfl rfl rfl hs.le (hs.own 1 rfl) (hs.raW 0 rfl) hc10 hf (by kernel_rfl) (by kernel_rfl) (by kernel_rfl) (by kernel_rfl) ?_
                    clear hf; clear a; intro ao11 cp11 w13 a ho hg hl hf
                    replace hs : Sep w F R w13 F10 [.row 5 (tI .u8) (.slice (some ⟨w11.heap.size, 0, none⟩) ([0] : List Int).length ([0] : List Int).length) ([0] : List Int), .row 5 (tI .u8) (.slice ao11 ((s7.2.1 ++ ofStr (gt p_l s7.2.2.2)) ++ ([0] : List Int)).length cp11) ((s7.2.1 ++ ofStr (gt p_l s7.2.2.2)) ++ ([0] : List Int)), .row 23 (tI .u64) (.slice ao5 s7.2.2.1.length cp5) s7.2.2.1, .ro tS (.slice ao1 p_l.length cp1) p_l] := hs.updRow 1 rfl ho hg hl
                    clear ho hg hl
                    replace hs : Sep w F R w13 F10 [.row 5 (tI .u8) (.slice ao11 ((s7.2.1 ++ ofStr (gt p_l s7.2.2.2)) ++ ([0] : List Int)).length cp11) ((s7.2.1 ++ ofStr (gt p_l s7.2.2.2)) ++ ([0] : List Int)), .row 23 (tI .u64) (.slice ao5 s7.2.2.1.length cp5) s7.2.2.1, .ro tS (.slice ao1 p_l.length cp1) p_l] := hs.sel [1, 2, 3] rfl rfl
                    replace hf := Fr.keep (ks := [0, 9, 10, 11, 79]) (L' := [(0, .slice ao1 p_l.length cp1), (9, .slice ao5 s7.2.2.1.length cp5), (10, .int .i64 s7.2.2.2), (11, .int .u64 s10), (79, .slice ao11 ((s7.2.1 ++ ofStr (gt p_l s7.2.2.2)) ++ ([0] : List Int)).length cp11)]) hf (by kernel_rfl)
                    refine st tbOk 1 [0, 8, 9, 10, 11] (L' := [(0, .slice ao1 p_l.length cp1), (8, .slice ao11 ((s7.2.1 ++ ofStr (gt p_l s7.2.2.2)) ++ ([0] : List Int)).length cp11), (9, .slice ao5 s7.2.2.1.length cp5), (10, .int .i64 s7.2.2.2), (11, .int .u64 s10)]) hf (by kernel_rfl) ?_
                    clear hf; clear a; intro a hf
                    refine wpList_nil ?_
                    refine reg ?_
                    have hT := of_let hS; clear hS; obtain ⟨size_1, hl6, hS⟩ := hT
                    refine st tbOk 3 [0, 5, 8, 9, 10, 11] (L' := [(0, .slice ao1 p_l.length cp1), (5, .int .i64 size_1), (8, .slice ao11 ((s7.2.1 ++ ofStr (gt p_l s7.2.2.2)) ++ ([0] : List Int)).length cp11), (9, .slice ao5 s7.2.2.1.length cp5), (10, .int .i64 s7.2.2.2), (11, .int .u64 s10)]) hf (by subst hl6; kernel_rfl) ?_
                    clear hf; clear a; intro a hf
                    refine wpList_nil ?_
                    exact hK12 (size_1, ((s7.2.1 ++ ofStr (gt p_l s7.2.2.2)) ++ ([0] : List Int))) _ _ ⟨ao11, cp11, _, hs.sel [0, 1, 2] rfl rfl, hf.keep (ks := [0, 5, 8, 9, 10, 11]) (by kernel_rfl)⟩ hS
                  · replace hS := of_f hb8 hS
                    refine wp_skip ?_
                    exact hK12 (s7.1, s7.2.1) _ _ ⟨ao4, cp4, _, hs.sel [0, 1, 2] rfl rfl, hf.keep (ks := [0, 5, 8, 9, 10, 11]) (by kernel_rfl)⟩ hS
              · clear hS; intro KK10 k7 hK10 hS
                refine blk ?_
                refine lp (st := (at_1, 0)) (fun (s11 : Int × Int) (a : Act) (w' : World) => ∃ (F11 : SH), Sep w F R w' F11 [.row 5 (tI .u8) (.slice ao4 s7.2.1.length cp4) s7.2.1, .row 23 (tI .u64) (.slice ao5 s7.2.2.1.length cp5) s7.2.2.1, .ro tS (.slice ao1 p_l.length cp1) p_l] ∧ Fr 90 [(0, .slice ao1 p_l.length cp1), (5, .int .i64 s7.1), (8, .slice ao4 s7.2.1.length cp4), (9, .slice ao5 s7.2.2.1.length cp5), (10, .int .i64 s7.2.2.2), (11, .int .u64 s11.1), (12, .int .i64 s11.2)] a) ?_ ⟨_, hs.sel [0, 1, 2] rfl rfl, hf.keep (ks := [0, 5, 8, 9, 10, 11, 12]) (by kernel_rfl)⟩ hS
                clear hS hf hs; clear a
                intro rec4 KK11 hK11 s11 a w8 hM hS
                obtain ⟨F11, hs, hf⟩ := hM
                refine sq ?_
                refine sq ?_
                refine reg ?_
                refine st tbOk 3 [0, 5, 8, 9, 10, 11, 12, 51] (L' := [(0, .slice ao1 p_l.length cp1), (5, .int .i64 s7.1), (8, .slice ao4 s7.2.1.length cp4), (9, .slice ao5 s7.2.2.1.length cp5), (10, .int .i64 s7.2.2.2), (11, .int .u64 s11.1), (12, .int .i64 s11.2), (51, .bool (decide (s11.2 < s7.2.2.2)))]) hf (by kernel_rfl) ?_
                clear hf; clear a; intro a hf
                refine wpList_nil ?_
                refine cnd (b := decide (s11.2 < s7.2.2.2)) hf (by kernel_rfl) (fun hb6 => ?_) (fun hb6 => ?_)
                · replace hS := of_t hb6 hS
                  refine wp_skip ?_
                  refine sq ?_
                  refine blk ?_
                  refine sq ?_
                  refine regQ mixed (by kernel_rfl) ?_
                  refine stQ tbOk 2 [0, 5, 8, 9, 10, 11, 12, 54, 55] (L' := [(0, .slice ao1 p_l.length cp1), (5, .int .i64 s7.1), (8, .slice ao4 s7.2.1.length cp4), (9, .slice ao5 s7.2.2.1.length cp5), (10, .int .i64 s7.2.2.2), (11, .int .u64 s11.1), (12, .int .i64 s11.2), (54, .slice ao1 p_l.length cp1), (55, .int .i64 s11.2)]) hf (by kernel_rfl) ?_
                  clear hf; clear a; intro a hf
                  have hT := of_gd hS; clear hS; obtain ⟨hc5, hS⟩ := hT
                  refine ixRQ tbOk u30 i9 rfl rfl ((hs.ro 2 rfl).ra (LeH.refl _)) (k := .i64) (n := s11.2) hc5 hf (by kernel_rfl) (by kernel_rfl) (by kernel_rfl) (by kernel_rfl) ?_
                  clear hf; clear a; intro pb4 po4 c4 a hp4 hr4 hf
                  obtain rfl : c4 = [strV (gt p_l s11.2)] := hr4
                  replace hs : Sep w F R w8 F11 [.cel pb4 po4 [strV (gt p_l s11.2)], .row 5 (tI .u8) (.slice ao4 s7.2.1.length cp4) s7.2.1, .row 23 (tI .u64) (.slice ao5 s7.2.2.1.length cp5) s7.2.2.1, .ro tS (.slice ao1 p_l.length cp1) p_l] := hs.addCel hp4
                  replace hf := Fr.keep (ks := [0, 5, 8, 9, 10, 11, 12, 56]) (L' := [(0, .slice ao1 p_l.length cp1), (5, .int .i64 s7.1), (8, .slice ao4 s7.2.1.length cp4), (9, .slice ao5 s7.2.2.1.length cp5), (10, .int .i64 s7.2.2.2), (11, .int .u64 s11.1), (12, .int .i64 s11.2), (56, .pointer (some ⟨pb4, po4, none⟩))]) hf (by kernel_rfl)
                  refine ldCQ tbOk (T := 9) (hs.ccel 0 rfl) (LeH.refl _) 0 (strV (gt p_l s11.2)) hf (by kernel_rfl) (by kernel_rfl) (by kernel_rfl) (by kernel_rfl) ?_
                  clear hf; clear a; intro a hf
                  replace hs : Sep w F R w8 F11 [.row 5 (tI .u8) (.slice ao4 s7.2.1.length cp4) s7.2.1, .row 23 (tI .u64) (.slice ao5 s7.2.2.1.length cp5) s7.2.2.1, .ro tS (.slice ao1 p_l.length cp1) p_l] := hs.sel [1, 2, 3] rfl rfl
                  replace hf := Fr.keep (ks := [0, 5, 8, 9, 10, 11, 12, 57]) (L' := [(0, .slice ao1 p_l.length cp1), (5, .int .i64 s7.1), (8, .slice ao4 s7.2.1.length cp4), (9, .slice ao5 s7.2.2.1.length cp5), (10, .int .i64 s7.2.2.2), (11, .int .u64 s11.1), (12, .int .i64 s11.2), (57, strV (gt p_l s11.2))]) hf (by kernel_rfl)
                  refine stQ tbOk 2 [0, 5, 8, 9, 10, 11, 12, 57, 58, 59] (L' := [(0, .slice ao1 p_l.length cp1), (5, .int .i64 s7.1), (8, .slice ao4 s7.2.1.length cp4), (9, .slice ao5 s7.2.2.1.length cp5), (10, .int .i64 s7.2.2.2), (11, .int .u64 s11.1), (12, .int .i64 s11.2), (57, strV (gt p_l s11.2)), (58, .slice ao1 p_l.length cp1), (59, .int .i64 s7.2.2.2)]) hf (by kernel_rfl) ?_
                  clear hf; clear a; intro a hf
                  have hT := of_gd hS; clear hS; obtain ⟨hc6, hS⟩ := hT
                  refine ixRQ tbOk u30 i9 rfl rfl ((hs.ro 2 rfl).ra (LeH.refl _)) (k := .i64) (n := s7.2.2.2) hc6 hf (by kernel_rfl) (by kernel_rfl) (by kernel_rfl) (by kernel_rfl) ?_
                  clear hf; clear a; intro pb5 po5 c5 a hp5 hr5 hf
                  obtain rfl : c5 = [strV (gt p_l s7.2.2.2)] := hr5
                  replace hs : Sep w F R w8 F11 [.cel pb5 po5 [strV (gt p_l s7.2.2.2)], .row 5 (tI .u8) (.slice ao4 s7.2.1.length cp4) s7.2.1, .row 23 (tI .u64) (.slice ao5 s7.2.2.1.length cp5) s7.2.2.1, .ro tS (.slice ao1 p_l.length cp1) p_l] := hs.addCel hp5
                  replace hf := Fr.keep (ks := [0, 5, 8, 9, 10, 11, 12, 57, 60]) (L' := [(0, .slice ao1 p_l.length cp1), (5, .int .i64 s7.1), (8, .slice ao4 s7.2.1.length cp4), (9, .slice ao5 s7.2.2.1.length cp5), (10, .int .i64 s7.2.2.2), (11, .int .u64 s11.1), (12, .int .i64 s11.2), (57, strV (gt p_l s11.2)), (60, .pointer (some ⟨pb5, po5, none⟩))]) hf (by kernel_rfl)
                  refine ldCQ tbOk (T := 9) (hs.ccel 0 rfl) (LeH.refl _) 0 (strV (gt p_l s7.2.2.2)) hf (by kernel_rfl) (by kernel_rfl) (by kernel_rfl) (by kernel_rfl) ?_
                  clear hf; clear a; intro a hf
                  replace hs : Sep w F R w8 F11 [.row 5 (tI .u8) (.slice ao4 s7.2.1.length cp4) s7.2.1, .row 23 (tI .u64) (.slice ao5 s7.2.2.1.length cp5) s7.2.2.1, .ro tS (.slice ao1 p_l.length cp1) p_l] := hs.sel [1, 2, 3] rfl rfl
                  replace hf := Fr.keep (ks := [0, 5, 8, 9, 10, 11, 12, 57, 61]) (L' := [(0, .slice ao1 p_l.length cp1), (5, .int .i64 s7.1), (8, .slice ao4 s7.2.1.length cp4), (9, .slice ao5 s7.2.2.1.length cp5), (10, .int .i64 s7.2.2.2), (11, .int .u64 s11.1), (12, .int .i64 s11.2), (57, strV (gt p_l s11.2)), (61, strV (gt p_l s7.2.2.2))]) hf (by kernel_rfl)
                  refine stQ tbOk 1 [0, 5, 8, 9, 10, 11, 12, 62] (L' := [(0, .slice ao1 p_l.length cp1), (5, .int .i64 s7.1), (8, .slice ao4 s7.2.1.length cp4), (9, .slice ao5 s7.2.2.1.length cp5), (10, .int .i64 s7.2.2.2), (11, .int .u64 s11.1), (12, .int .i64 s11.2), (62, .bool ((gt p_l s11.2) == (gt p_l s7.2.2.2)))]) hf (by kernel_rfl) ?_
                  clear hf; clear a; intro a hf
                  refine wpQuiet_nil ?_
                  intro w9 hx
                  replace hs : Sep w F R w9 F11 [.row 5 (tI .u8) (.slice ao4 s7.2.1.length cp4) s7.2.1, .row 23 (tI .u64) (.slice ao5 s7.2.2.1.length cp5) s7.2.2.1, .ro tS (.slice ao1 p_l.length cp1) p_l] := hs.ext hx
                  clear hx
                  refine cnd (b := (gt p_l s11.2) == (gt p_l s7.2.2.2)) hf (by kernel_rfl) (fun hb7 => ?_) (fun hb7 => ?_)
                  · replace hS := of_t hb7 hS
                    refine sq ?_
                    refine reg ?_
                    refine st tbOk 2 [0, 5, 8, 9, 10, 63, 64] (L' := [(0, .slice ao1 p_l.length cp1), (5, .int .i64 s7.1), (8, .slice ao4 s7.2.1.length cp4), (9, .slice ao5 s7.2.2.1.length cp5), (10, .int .i64 s7.2.2.2), (63, .slice ao5 s7.2.2.1.length cp5), (64, .int .i64 s11.2)]) hf (by kernel_rfl) ?_
                    clear hf; clear a; intro a hf
                    have hT := of_gd hS; clear hS; obtain ⟨hc7, hS⟩ := hT
                    refine ixR tbOk u32 i23 rfl rfl (hs.raW 1 rfl) (k := .i64) (n := s11.2) hc7 hf (by kernel_rfl) (by kernel_rfl) (by kernel_rfl) (by kernel_rfl) ?_
                    clear hf; clear a; intro pb6 po6 c6 a hp6 hr6 hf
                    obtain rfl : c6 = [.int .u64 (gt s7.2.2.1 s11.2)] := hr6
                    replace hf := Fr.keep (ks := [0, 5, 8, 9, 10, 65]) (L' := [(0, .slice ao1 p_l.length cp1), (5, .int .i64 s7.1), (8, .slice ao4 s7.2.1.length cp4), (9, .slice ao5 s7.2.2.1.length cp5), (10, .int .i64 s7.2.2.2), (65, .pointer (some ⟨pb6, po6, none⟩))]) hf (by kernel_rfl)
                    refine ldC tbOk (T := 23) hp6 (LeH.refl _) 0 (.int .u64 (gt s7.2.2.1 s11.2)) hf (by kernel_rfl) (by kernel_rfl) (by kernel_rfl) (by kernel_rfl) ?_
                    clear hf; clear a; intro a hf
                    replace hf := Fr.keep (ks := [0, 5, 8, 9, 10, 66]) (L' := [(0, .slice ao1 p_l.length cp1), (5, .int .i64 s7.1), (8, .slice ao4 s7.2.1.length cp4), (9, .slice ao5 s7.2.2.1.length cp5), (10, .int .i64 s7.2.2.2), (66, .int .u64 (gt s7.2.2.1 s11.2))]) hf (by kernel_rfl)
                    have hT := of_let hS; clear hS; obtain ⟨at_2, hl4, hS⟩ := hT
                    refine st tbOk 1 [0, 5, 8, 9, 10, 11] (L' := [(0, .slice ao1 p_l.length cp1), (5, .int .i64 s7.1), (8, .slice ao4 s7.2.1.length cp4), (9, .slice ao5 s7.2.2.1.length cp5), (10, .int .i64 s7.2.2.2), (11, .int .u64 at_2)]) hf (by subst hl4; kernel_rfl) ?_
                    clear hf; clear a; intro a hf
                    refine wpList_nil ?_
                    refine wp_exit ?_
                    exact hK10 at_2 _ _ ⟨_, hs.sel [0, 1, 2] rfl rfl, hf.keep (ks := [0, 5, 8, 9, 10, 11]) (by kernel_rfl)⟩ hS
                  · replace hS := of_f hb7 hS
                    refine wp_skip ?_
                    refine reg ?_
                    have hT := of_let hS; clear hS; obtain ⟨k_2, hl5, hS⟩ := hT
                    refine st tbOk 3 [0, 5, 8, 9, 10, 11, 12] (L' := [(0, .slice ao1 p_l.length cp1), (5, .int .i64 s7.1), (8, .slice ao4 s7.2.1.length cp4), (9, .slice ao5 s7.2.2.1.length cp5), (10, .int .i64 s7.2.2.2), (11, .int .u64 s11.1), (12, .int .i64 k_2)]) hf (by subst hl5; kernel_rfl) ?_
                    clear hf; clear a; intro a hf
                    refine wpList_nil ?_
                    exact hK11 (s11.1, k_2) _ _ ⟨_, hs.sel [0, 1, 2] rfl rfl, hf.keep (ks := [0, 5, 8, 9, 10, 11, 12]) (by kernel_rfl)⟩ hS
                · replace hS := of_f hb6 hS
                  refine wp_exit ?_
                  exact hK10 s11.1 _ _ ⟨_, hs.sel [0, 1, 2] rfl rfl, hf.keep (ks := [0, 5, 8, 9, 10, 11]) (by kernel_rfl)⟩ hS
            · replace hS := of_f hb5 hS
              refine wp_skip ?_
              exact hK9 (s7.1, s7.2.1, 0) _ _ ⟨ao4, cp4, _, hs.sel [0, 1, 2] rfl rfl, hf.keep (ks := [0, 5, 8, 9, 10, 11]) (by kernel_rfl)⟩ hS
      · replace hS := of_f hb4 hS
        refine wp_exit ?_
        exact hK6 (s7.1, s7.2.1, s7.2.2.1) _ _ ⟨ao4, cp4, ao5, cp5, _, hs.sel [0, 1] rfl rfl, hf.keep (ks := [5, 8, 9]) (by kernel_rfl)⟩ hS
  · clear hS; intro KK1 k1 hK1 hS
    refine blk ?_
    refine lp (st := 0) (fun (s2 : Int) (a : Act) (w' : World) => ∃ (F2 : SH), Sep w F R w' F2 [.ro tS (.slice ao1 p_l.length cp1) p_l] ∧ Fr 90 [(0, .slice ao1 p_l.length cp1), (5, .int .i64 1), (6, .int .i64 s2)] a) ?_ ⟨_, hs.sel [0] rfl rfl, hf.keep (ks := [0, 5, 6]) (by kernel_rfl)⟩ hS
    clear hS hf hs; clear a
    intro rec1 KK2 hK2 s2 a w1 hM hS
    obtain ⟨F2, hs, hf⟩ := hM
    refine sq ?_
    refine sq ?_
    refine reg ?_
    refine st tbOk 4 [0, 5, 6, 16] (L' := [(0, .slice ao1 p_l.length cp1), (5, .int .i64 1), (6, .int .i64 s2), (16, .bool (decide (s2 < ((p_l.length : Nat) : Int))))]) hf (by kernel_rfl) ?_
    clear hf; clear a; intro a hf
    refine wpList_nil ?_
    refine cnd (b := decide (s2 < ((p_l.length : Nat) : Int))) hf (by kernel_rfl) (fun hb1 => ?_) (fun hb1 => ?_)
    · replace hS := of_t hb1 hS
      refine wp_skip ?_
      refine sq ?_
      refine ctj (fun (s3 : Unit) (a : Act) (w' : World) => ∃ (F3 : SH), Sep w F R w' F3 [.ro tS (.slice ao1 p_l.length cp1) p_l] ∧ Fr 90 [(0, .slice ao1 p_l.length cp1), (5, .int .i64 1), (6, .int .i64 s2)] a) hS ?_ ?_
      · clear hS hf hs; clear a; intro s3 a w4 hM hS
        obtain ⟨F3, hs, hf⟩ := hM
        refine reg ?_
        have hT := of_let hS; clear hS; obtain ⟨i_1, hl2, hS⟩ := hT
        refine st tbOk 3 [0, 5, 6] (L' := [(0, .slice ao1 p_l.length cp1), (5, .int .i64 1), (6, .int .i64 i_1)]) hf (by subst hl2; kernel_rfl) ?_
        clear hf; clear a; intro a hf
        refine wpList_nil ?_
        exact hK2 i_1 _ _ ⟨_, hs.sel [0] rfl rfl, hf.keep (ks := [0, 5, 6]) (by kernel_rfl)⟩ hS
      · clear hS; intro KK3 k2 hK3 hS
        refine blk ?_
        refine sq ?_
        refine reg ?_
        refine st tbOk 1 [0, 5, 6, 7] (L' := [(0, .slice ao1 p_l.length cp1), (5, .int .i64 1), (6, .int .i64 s2), (7, .int .i64 0)]) hf (by kernel_rfl) ?_
        clear hf; clear a; intro a hf
        refine wpList_nil ?_
        refine ctj (fun (s4 : Unit) (a : Act) (w' : World) => ∃ (F4 : SH), Sep w F R w' F4 [.ro tS (.slice ao1 p_l.length cp1) p_l] ∧ Fr 90 [(0, .slice ao1 p_l.length cp1), (5, .int .i64 1), (6, .int .i64 s2)] a) hS ?_ ?_
        · clear hS hf hs; clear a; intro s4 a w3 hM hS
          obtain ⟨F4, hs, hf⟩ := hM
          exact hK3 () _ _ ⟨_, hs.sel [0] rfl rfl, hf.keep (ks := [0, 5, 6]) (by kernel_rfl)⟩ hS
        · clear hS; intro KK4 k3 hK4 hS
          refine blk ?_
          refine lp (st := 0) (fun (s5 : Int) (a : Act) (w' : World) => ∃ (F5 : SH), Sep w F R w' F5 [.ro tS (.slice ao1 p_l.length cp1) p_l] ∧ Fr 90 [(0, .slice ao1 p_l.length cp1), (5, .int .i64 1), (6, .int .i64 s2), (7, .int .i64 s5)] a) ?_ ⟨_, hs.sel [0] rfl rfl, hf.keep (ks := [0, 5, 6, 7]) (by kernel_rfl)⟩ hS
          clear hS hf hs; clear a
          intro rec2 KK5 hK5 s5 a w2 hM hS
          obtain ⟨F5, hs, hf⟩ := hM
          refine sq ?_
          refine sq ?_
          refine reg ?_
          refine st tbOk 3 [0, 5, 6, 7, 19, 20, 21] (L' := [(0, .slice ao1 p_l.length cp1), (5, .int .i64 1), (6, .int .i64 s2), (7, .int .i64 s5), (19, .int .i64 s5), (20, .slice ao1 p_l.length cp1), (21, .int .i64 s2)]) hf (by kernel_rfl) ?_
          clear hf; clear a; intro a hf
          have hT := of_gd hS; clear hS; obtain ⟨hc1, hS⟩ := hT
          refine ixR tbOk u30 i9 rfl rfl ((hs.ro 0 rfl).ra (LeH.refl _)) (k := .i64) (n := s2) hc1 hf (by kernel_rfl) (by kernel_rfl) (by kernel_rfl) (by kernel_rfl) ?_
          clear hf; clear a; intro pb1 po1 c1 a hp1 hr1 hf
          obtain rfl : c1 = [strV (gt p_l s2)] := hr1
          replace hs : Sep w F R w2 F5 [.cel pb1 po1 [strV (gt p_l s2)], .ro tS (.slice ao1 p_l.length cp1) p_l] := hs.addCel hp1
          replace hf := Fr.keep (ks := [0, 5, 6, 7, 19, 22]) (L' := [(0, .slice ao1 p_l.length cp1), (5, .int .i64 1), (6, .int .i64 s2), (7, .int .i64 s5), (19, .int .i64 s5), (22, .pointer (some ⟨pb1, po1, none⟩))]) hf (by kernel_rfl)
          refine ldC tbOk (T := 9) (hs.ccel 0 rfl) (LeH.refl _) 0 (strV (gt p_l s2)) hf (by kernel_rfl) (by kernel_rfl) (by kernel_rfl) (by kernel_rfl) ?_
          clear hf; clear a; intro a hf
          replace hs : Sep w F R w2 F5 [.ro tS (.slice ao1 p_l.length cp1) p_l] := hs.sel [1] rfl rfl
          replace hf := Fr.keep (ks := [0, 5, 6, 7, 19, 23]) (L' := [(0, .slice ao1 p_l.length cp1), (5, .int .i64 1), (6, .int .i64 s2), (7, .int .i64 s5), (19, .int .i64 s5), (23, strV (gt p_l s2))]) hf (by kernel_rfl)
          refine st tbOk 2 [0, 5, 6, 7, 25] (L' := [(0, .slice ao1 p_l.length cp1), (5, .int .i64 1), (6, .int .i64 s2), (7, .int .i64 s5), (25, .bool (decide (s5 < (((gt p_l s2).length : Nat) : Int))))]) hf (by kernel_rfl) ?_
          clear hf; clear a; intro a hf
          refine wpList_nil ?_
          refine cnd (b := decide (s5 < (((gt p_l s2).length : Nat) : Int))) hf (by kernel_rfl) (fun hb2 => ?_) (fun hb2 => ?_)
          · replace hS := of_t hb2 hS
            refine wp_skip ?_
            refine sq ?_
            refine blk ?_
            refine sq ?_
            refine reg ?_
            refine st tbOk 2 [0, 5, 6, 7, 28, 29] (L' := [(0, .slice ao1 p_l.length cp1), (5, .int .i64 1), (6, .int .i64 s2), (7, .int .i64 s5), (28, .slice ao1 p_l.length cp1), (29, .int .i64 s2)]) hf (by kernel_rfl) ?_
            clear hf; clear a; intro a hf
            have hT := of_gd hS; clear hS; obtain ⟨hc2, hS⟩ := hT
            refine ixR tbOk u30 i9 rfl rfl ((hs.ro 0 rfl).ra (LeH.refl _)) (k := .i64) (n := s2) hc2 hf (by kernel_rfl) (by kernel_rfl) (by kernel_rfl) (by kernel_rfl) ?_
            clear hf; clear a; intro pb2 po2 c2 a hp2 hr2 hf
            obtain rfl : c2 = [strV (gt p_l s2)] := hr2
            replace hs : Sep w F R w2 F5 [.cel pb2 po2 [strV (gt p_l s2)], .ro tS (.slice ao1 p_l.length cp1) p_l] := hs.addCel hp2
            replace hf := Fr.keep (ks := [0, 5, 6, 7, 30]) (L' := [(0, .slice ao1 p_l.length cp1), (5, .int .i64 1), (6, .int .i64 s2), (7, .int .i64 s5), (30, .pointer (some ⟨pb2, po2, none⟩))]) hf (by kernel_rfl)
            refine ldC tbOk (T := 9) (hs.ccel 0 rfl) (LeH.refl _) 0 (strV (gt p_l s2)) hf (by kernel_rfl) (by kernel_rfl) (by kernel_rfl) (by kernel_rfl) ?_
            clear hf; clear a; intro a hf
            replace hs : Sep w F R w2 F5 [.ro tS (.slice ao1 p_l.length cp1) p_l] := hs.sel [1] rfl rfl
            replace hf := Fr.keep (ks := [0, 5, 6, 7, 31]) (L' := [(0, .slice ao1 p_l.length cp1), (5, .int .i64 1), (6, .int .i64 s2), (7, .int .i64 s5), (31, strV (gt p_l s2))]) hf (by kernel_rfl)
            refine st tbOk 1 [0, 5, 6, 7, 31, 32] (L' := [(0, .slice ao1 p_l.length cp1), (5, .int .i64 1), (6, .int .i64 s2), (7, .int .i64 s5), (31, strV (gt p_l s2)), (32, .int .i64 s5)]) hf (by kernel_rfl) ?_
            clear hf; clear a; intro a hf
            have hT := of_gd hS; clear hS; obtain ⟨hc3, hS⟩ := hT
            refine ixS tbOk u9 (p := (gt p_l s2)) (k := .i64) (n := s5) hc3 hf (by kernel_rfl) (by kernel_rfl) (by kernel_rfl) (by kernel_rfl) ?_
            clear hf; clear a; intro a hf
            replace hf := Fr.keep (ks := [0, 5, 6, 7, 33]) (L' := [(0, .slice ao1 p_l.length cp1), (5, .int .i64 1), (6, .int .i64 s2), (7, .int .i64 s5), (33, .int .u8 (((gt p_l s2).getD (Int.toNat s5) 0).toNat : Int))]) hf (by kernel_rfl)
            refine st tbOk 1 [0, 5, 6, 7, 34] (L' := [(0, .slice ao1 p_l.length cp1), (5, .int .i64 1), (6, .int .i64 s2), (7, .int .i64 s5), (34, .bool ((((gt p_l s2).getD (Int.toNat s5) 0).toNat : Int) == 0))]) hf (by kernel_rfl) ?_
            clear hf; clear a; intro a hf
            refine wpList_nil ?_
            refine cnd (b := (((gt p_l s2).getD (Int.toNat s5) 0).toNat : Int) == 0) hf (by kernel_rfl) (fun hb3 => ?_) (fun hb3 => ?_)
            · replace hS := of_t hb3 hS
              refine sq ?_
              refine reg ?_
              refine st tbOk 3 [2, 3, 4] (L' := [(2, .slice none 0 0), (3, .slice none 0 0), (4, .int .i64 1)]) hf (by kernel_rfl) ?_
              clear hf; clear a; intro a hf
              refine wpList_nil ?_
              have hr := Option.some.inj hS; subst hr
              refine wp_ret ?_
              replace hs : Sep w F R w2 F5 [.row 5 (tI .u8) (.slice none 0 0) ([] : List Int), .ro tS (.slice ao1 p_l.length cp1) p_l] := hs.addNil 5 (tI .u8)
              replace hs : Sep w F R w2 F5 [.row 23 (tI .u64) (.slice none 0 0) ([] : List Int), .row 5 (tI .u8) (.slice none 0 0) ([] : List Int), .ro tS (.slice ao1 p_l.length cp1) p_l] := hs.addNil 23 (tI .u64)
              exact ret_ok hf (vs := [.slice none 0 0, .slice none 0 0, .int .i64 1]) (by kernel_rfl) ⟨none, 0, none, 0, _, rfl, hs.sel [1, 0] rfl rfl⟩
            · replace hS := of_f hb3 hS
              refine wp_skip ?_
              refine reg ?_
              have hT := of_let hS; clear hS; obtain ⟨k_1, hl1, hS⟩ := hT
              refine st tbOk 3 [0, 5, 6, 7] (L' := [(0, .slice ao1 p_l.length cp1), (5, .int .i64 1), (6, .int .i64 s2), (7, .int .i64 k_1)]) hf (by subst hl1; kernel_rfl) ?_
              clear hf; clear a; intro a hf
              refine wpList_nil ?_
              exact hK5 k_1 _ _ ⟨_, hs.sel [0] rfl rfl, hf.keep (ks := [0, 5, 6, 7]) (by kernel_rfl)⟩ hS
          · replace hS := of_f hb2 hS
            refine wp_exit ?_
            exact hK4 () _ _ ⟨_, hs.sel [0] rfl rfl, hf.keep (ks := [0, 5, 6]) (by kernel_rfl)⟩ hS
    · replace hS := of_f hb1 hS
      refine wp_exit ?_
      exact hK1 () _ _ ⟨_, hs.sel [0] rfl rfl, hf.keep (ks := [0, 5]) (by kernel_rfl)⟩ hS

end Dm
