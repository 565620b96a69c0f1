/-
  The walk of the law DedupOther; printed by a program of this repo. No condition.
-/
import Derived.Test.YtmocofbneblccaaWT
import Derived.Test.YtmocofbneblccaaW2
namespace Dm
open Go Go.RowKit Go.Proofs

set_option maxHeartbeats 4000000 in
theorem law21_DedupOther_ok {w : World} {F : SH} {b : List Int} {p_at : Int} {p_c : Int} {short : Bool}  (hn1 : b.length = 256) (hs : Sep w F (blks []) w F []) {r : Bool} (hS : law21_DedupOther b p_at p_c short = some r) :
    Calls Try.prog 7 [.agg (List.map (Value.int .u8) b).toArray, .int .u8 p_at, .int .u8 p_c, .bool short].toArray w (Gives (fun u w' => ∃ (F' : SH), u = .bool r ∧ Sep w F (blks []) w' F' [])) := by
  generalize (blks []) = R at hs ⊢
  unfold law21_DedupOther at hS
  refine fn_ok (vs := [.agg (List.map (Value.int .u8) b).toArray, .int .u8 p_at, .int .u8 p_c, .bool short]) Try.func7 rfl 109 Try.ntmps7 (Nat.le_of_ble_eq_true rfl) ?_
  intro a hf
  replace hf := Fr.cast (L' := [(0, .agg (List.map (Value.int .u8) b).toArray), (1, .int .u8 p_at), (2, .int .u8 p_c), (3, .bool short)]) hf (by kernel_rfl)
  refine sq ?_
  refine reg ?_
  refine bx (T := 59) (List.map (Value.int .u8) b) (v := .agg (List.map (Value.int .u8) b).toArray) rfl (allOne_map (fun _ => rfl) b) hf (by kernel_rfl) (by kernel_rfl) (by kernel_rfl) ?_
  clear hf; clear a; intro w1 a hb hx _ hf
  replace hs : Sep w F R w1 F [.box w.heap.size 59 (List.map (Value.int .u8) b)] := hs.newBox hb hx
  clear hb hx
  replace hf := Fr.keep (ks := [1, 2, 3, 4]) (L' := [(1, .int .u8 p_at), (2, .int .u8 p_c), (3, .bool short), (4, .pointer (some ⟨w.heap.size, 0, none⟩))]) hf (by kernel_rfl)
  refine st tbOk 1 [1, 2, 3, 4] (L' := [(1, .int .u8 p_at), (2, .int .u8 p_c), (3, .bool short), (4, .pointer (some ⟨w.heap.size, 0, none⟩))]) hf (by kernel_rfl) ?_
  clear hf; clear a; intro a hf
  refine wpList_nil ?_
  refine sq ?_
  refine reg ?_
  have hT := of_bd hS; clear hS; obtain ⟨z1, hz1, hS⟩ := hT
  refine clV ent13 (vs := []) (caps := []) hf (by kernel_rfl) (by kernel_rfl) (by kernel_rfl) (by kernel_rfl) (law21_awake_ok (hs.enter [] rfl rfl) hz1) ?_
  clear hf; clear a; intro v w2 a hT hf; obtain ⟨F1, rfl, hr⟩ := hT
  replace hs : Sep w F R w2 F1 [.box w.heap.size 59 (List.map (Value.int .u8) b)] := hs.back [] [0] rfl rfl rfl rfl hr
  clear hr
  replace hf := Fr.keep (ks := [1, 2, 3, 4, 18]) (L' := [(1, .int .u8 p_at), (2, .int .u8 p_c), (3, .bool short), (4, .pointer (some ⟨w.heap.size, 0, none⟩)), (18, .bool z1)]) hf (by kernel_rfl)
  refine st tbOk 1 [1, 2, 3, 4, 9] (L' := [(1, .int .u8 p_at), (2, .int .u8 p_c), (3, .bool short), (4, .pointer (some ⟨w.heap.size, 0, none⟩)), (9, .bool z1)]) hf (by kernel_rfl) ?_
  clear hf; clear a; intro a hf
  refine wpList_nil ?_
  refine sq ?_
  refine sq ?_
  refine reg ?_
  refine st tbOk 2 [1, 2, 3, 4, 20] (L' := [(1, .int .u8 p_at), (2, .int .u8 p_c), (3, .bool short), (4, .pointer (some ⟨w.heap.size, 0, none⟩)), (20, .bool (!z1))]) hf (by kernel_rfl) ?_
  clear hf; clear a; intro a hf
  refine wpList_nil ?_
  refine cnd (b := !z1) hf (by kernel_rfl) (fun hb1 => ?_) (fun hb1 => ?_)
  · replace hS := of_t hb1 hS
    refine sq ?_
    refine reg ?_
    refine st tbOk 1 [8] (L' := [(8, .bool false)]) hf (by kernel_rfl) ?_
    clear hf; clear a; intro a hf
    refine wpList_nil ?_
    have hr := Option.some.inj hS; subst hr
    refine wp_ret ?_
    exact ret_ok hf (vs := [.bool false]) (by kernel_rfl) ⟨_, rfl, hs.sel [] rfl rfl⟩
  · replace hS := of_f hb1 hS
    refine wp_skip ?_
    refine sq ?_
    refine reg ?_
    have hT := of_gd hS; clear hS; obtain ⟨hc1, hS⟩ := hT
    obtain ⟨F2, _, hs⟩ := hs.frz 0 rfl
    replace hs : Sep w F R w2 F2 [.cel w.heap.size 0 (List.map (Value.int .u8) b)] := hs
    refine slA tbOk u59 i5 rfl (t := (tI .u8)) (arr_RO (Value.int .u8) (fun _ _ => rfl) (hs.cel 0 rfl)) hn1 (lo := 0) (hi := ((b.length : Nat) : Int)) hc1 (.inl ⟨rfl, rfl⟩) (.inl ⟨rfl, rfl⟩) hf (by kernel_rfl) (by kernel_rfl) (by kernel_rfl) ?_
    clear hf; clear a; intro ao1 cp1 a hr1 hf
    replace hs : Sep w F R w2 F2 [.ro (tI .u8) (.slice ao1 (cutL b 0 ((b.length : Nat) : Int)).length cp1) (cutL b 0 ((b.length : Nat) : Int)), .cel w.heap.size 0 (List.map (Value.int .u8) b)] := hs.addRo hr1
    replace hf := Fr.keep (ks := [1, 2, 3, 4, 21]) (L' := [(1, .int .u8 p_at), (2, .int .u8 p_c), (3, .bool short), (4, .pointer (some ⟨w.heap.size, 0, none⟩)), (21, .slice ao1 (cutL b 0 ((b.length : Nat) : Int)).length cp1)]) hf (by kernel_rfl)
    refine st tbOk 1 [1, 2, 3, 4, 22] (L' := [(1, .int .u8 p_at), (2, .int .u8 p_c), (3, .bool short), (4, .pointer (some ⟨w.heap.size, 0, none⟩)), (22, .agg #[strV [102], .slice ao1 (cutL b 0 ((b.length : Nat) : Int)).length cp1])]) hf (by kernel_rfl) ?_
    clear hf; clear a; intro a hf
    refine bsR tbOk u24 i61 rfl (t := ty60) (vs := [(0, .agg #[strV [102], .slice ao1 (cutL b 0 ((b.length : Nat) : Int)).length cp1])]) (cells := #[strV [102], .slice ao1 (cutL b 0 ((b.length : Nat) : Int)).length cp1]) ([([102], (cutL b 0 ((b.length : Nat) : Int)))] : List ((List UInt8) × (List Int))) hs.le hf (by kernel_rfl) (by kernel_rfl) (by kernel_rfl) rfl (by kernel_rfl) ⟨_, _, rfl, ⟨ao1, cp1, rfl, hs.ro 0 rfl⟩, rfl⟩ rfl ?_
    clear hf; clear a; intro w3 a ho hx hf
    replace hs : Sep w F R w3 F2 [.row 61 ty60 (.slice (some ⟨w2.heap.size, 0, none⟩) ([([102], (cutL b 0 ((b.length : Nat) : Int)))] : List ((List UInt8) × (List Int))).length ([([102], (cutL b 0 ((b.length : Nat) : Int)))] : List ((List UInt8) × (List Int))).length) ([([102], (cutL b 0 ((b.length : Nat) : Int)))] : List ((List UInt8) × (List Int))), .ro (tI .u8) (.slice ao1 (cutL b 0 ((b.length : Nat) : Int)).length cp1) (cutL b 0 ((b.length : Nat) : Int)), .cel w.heap.size 0 (List.map (Value.int .u8) b)] := hs.newRow ho hx
    clear ho hx
    replace hs : Sep w F R w3 F2 [.row 61 ty60 (.slice (some ⟨w2.heap.size, 0, none⟩) ([([102], (cutL b 0 ((b.length : Nat) : Int)))] : List ((List UInt8) × (List Int))).length ([([102], (cutL b 0 ((b.length : Nat) : Int)))] : List ((List UInt8) × (List Int))).length) ([([102], (cutL b 0 ((b.length : Nat) : Int)))] : List ((List UInt8) × (List Int))), .cel w.heap.size 0 (List.map (Value.int .u8) b)] := hs.sel [0, 2] rfl rfl
    replace hf := Fr.keep (ks := [1, 2, 3, 4, 23]) (L' := [(1, .int .u8 p_at), (2, .int .u8 p_c), (3, .bool short), (4, .pointer (some ⟨w.heap.size, 0, none⟩)), (23, .slice (some ⟨w2.heap.size, 0, none⟩) ([([102], (cutL b 0 ((b.length : Nat) : Int)))] : List ((List UInt8) × (List Int))).length ([([102], (cutL b 0 ((b.length : Nat) : Int)))] : List ((List UInt8) × (List Int))).length)]) hf (by kernel_rfl)
    refine st tbOk 1 [1, 2, 3, 4, 10] (L' := [(1, .int .u8 p_at), (2, .int .u8 p_c), (3, .bool short), (4, .pointer (some ⟨w.heap.size, 0, none⟩)), (10, .slice (some ⟨w2.heap.size, 0, none⟩) ([([102], (cutL b 0 ((b.length : Nat) : Int)))] : List ((List UInt8) × (List Int))).length ([([102], (cutL b 0 ((b.length : Nat) : Int)))] : List ((List UInt8) × (List Int))).length)]) hf (by kernel_rfl) ?_
    clear hf; clear a; intro a hf
    refine wpList_nil ?_
    refine sq ?_
    refine reg ?_
    have hT := of_gd hS; clear hS; obtain ⟨hc2, hS⟩ := hT
    refine slA tbOk u59 i5 rfl (t := (tI .u8)) (arr_RO (Value.int .u8) (fun _ _ => rfl) (hs.cel 1 rfl)) hn1 (lo := 0) (hi := ((b.length : Nat) : Int)) hc2 (.inl ⟨rfl, rfl⟩) (.inl ⟨rfl, rfl⟩) hf (by kernel_rfl) (by kernel_rfl) (by kernel_rfl) ?_
    clear hf; clear a; intro ao2 cp2 a hr2 hf
    replace hs : Sep w F R w3 F2 [.ro (tI .u8) (.slice ao2 (cutL b 0 ((b.length : Nat) : Int)).length cp2) (cutL b 0 ((b.length : Nat) : Int)), .row 61 ty60 (.slice (some ⟨w2.heap.size, 0, none⟩) ([([102], (cutL b 0 ((b.length : Nat) : Int)))] : List ((List UInt8) × (List Int))).length ([([102], (cutL b 0 ((b.length : Nat) : Int)))] : List ((List UInt8) × (List Int))).length) ([([102], (cutL b 0 ((b.length : Nat) : Int)))] : List ((List UInt8) × (List Int))), .cel w.heap.size 0 (List.map (Value.int .u8) b)] := hs.addRo hr2
    replace hf := Fr.keep (ks := [1, 2, 3, 4, 10, 25]) (L' := [(1, .int .u8 p_at), (2, .int .u8 p_c), (3, .bool short), (4, .pointer (some ⟨w.heap.size, 0, none⟩)), (10, .slice (some ⟨w2.heap.size, 0, none⟩) ([([102], (cutL b 0 ((b.length : Nat) : Int)))] : List ((List UInt8) × (List Int))).length ([([102], (cutL b 0 ((b.length : Nat) : Int)))] : List ((List UInt8) × (List Int))).length), (25, .slice ao2 (cutL b 0 ((b.length : Nat) : Int)).length cp2)]) hf (by kernel_rfl)
    refine st tbOk 1 [1, 2, 3, 4, 10, 26] (L' := [(1, .int .u8 p_at), (2, .int .u8 p_c), (3, .bool short), (4, .pointer (some ⟨w.heap.size, 0, none⟩)), (10, .slice (some ⟨w2.heap.size, 0, none⟩) ([([102], (cutL b 0 ((b.length : Nat) : Int)))] : List ((List UInt8) × (List Int))).length ([([102], (cutL b 0 ((b.length : Nat) : Int)))] : List ((List UInt8) × (List Int))).length), (26, .agg #[.int .u64 256, .int .i64 0, .bool false, strV [102], .int .u64 0, .slice ao2 (cutL b 0 ((b.length : Nat) : Int)).length cp2])]) hf (by kernel_rfl) ?_
    clear hf; clear a; intro a hf
    refine bsR tbOk u35 i56 rfl (t := ty55) (vs := [(0, .agg #[.int .u64 256, .int .i64 0, .bool false, strV [102], .int .u64 0, .slice ao2 (cutL b 0 ((b.length : Nat) : Int)).length cp2])]) (cells := #[.int .u64 256, .int .i64 0, .bool false, strV [102], .int .u64 0, .slice ao2 (cutL b 0 ((b.length : Nat) : Int)).length cp2]) ([(256, 0, false, [102], 0, (cutL b 0 ((b.length : Nat) : Int)))] : List (Int × Int × Bool × (List UInt8) × Int × (List Int))) hs.le hf (by kernel_rfl) (by kernel_rfl) (by kernel_rfl) rfl (by kernel_rfl) ⟨_, _, rfl, ⟨ao2, cp2, rfl, hs.ro 0 rfl⟩, rfl⟩ rfl ?_
    clear hf; clear a; intro w4 a ho hx hf
    replace hs : Sep w F R w4 F2 [.row 56 ty55 (.slice (some ⟨w3.heap.size, 0, none⟩) ([(256, 0, false, [102], 0, (cutL b 0 ((b.length : Nat) : Int)))] : List (Int × Int × Bool × (List UInt8) × Int × (List Int))).length ([(256, 0, false, [102], 0, (cutL b 0 ((b.length : Nat) : Int)))] : List (Int × Int × Bool × (List UInt8) × Int × (List Int))).length) ([(256, 0, false, [102], 0, (cutL b 0 ((b.length : Nat) : Int)))] : List (Int × Int × Bool × (List UInt8) × Int × (List Int))), .ro (tI .u8) (.slice ao2 (cutL b 0 ((b.length : Nat) : Int)).length cp2) (cutL b 0 ((b.length : Nat) : Int)), .row 61 ty60 (.slice (some ⟨w2.heap.size, 0, none⟩) ([([102], (cutL b 0 ((b.length : Nat) : Int)))] : List ((List UInt8) × (List Int))).length ([([102], (cutL b 0 ((b.length : Nat) : Int)))] : List ((List UInt8) × (List Int))).length) ([([102], (cutL b 0 ((b.length : Nat) : Int)))] : List ((List UInt8) × (List Int))), .cel w.heap.size 0 (List.map (Value.int .u8) b)] := hs.newRow ho hx
    clear ho hx
    replace hs : Sep w F R w4 F2 [.row 56 ty55 (.slice (some ⟨w3.heap.size, 0, none⟩) ([(256, 0, false, [102], 0, (cutL b 0 ((b.length : Nat) : Int)))] : List (Int × Int × Bool × (List UInt8) × Int × (List Int))).length ([(256, 0, false, [102], 0, (cutL b 0 ((b.length : Nat) : Int)))] : List (Int × Int × Bool × (List UInt8) × Int × (List Int))).length) ([(256, 0, false, [102], 0, (cutL b 0 ((b.length : Nat) : Int)))] : List (Int × Int × Bool × (List UInt8) × Int × (List Int))), .row 61 ty60 (.slice (some ⟨w2.heap.size, 0, none⟩) ([([102], (cutL b 0 ((b.length : Nat) : Int)))] : List ((List UInt8) × (List Int))).length ([([102], (cutL b 0 ((b.length : Nat) : Int)))] : List ((List UInt8) × (List Int))).length) ([([102], (cutL b 0 ((b.length : Nat) : Int)))] : List ((List UInt8) × (List Int))), .cel w.heap.size 0 (List.map (Value.int .u8) b)] := hs.sel [0, 2, 3] rfl rfl
    replace hf := Fr.keep (ks := [1, 2, 3, 4, 10, 27]) (L' := [(1, .int .u8 p_at), (2, .int .u8 p_c), (3, .bool short), (4, .pointer (some ⟨w.heap.size, 0, none⟩)), (10, .slice (some ⟨w2.heap.size, 0, none⟩) ([([102], (cutL b 0 ((b.length : Nat) : Int)))] : List ((List UInt8) × (List Int))).length ([([102], (cutL b 0 ((b.length : Nat) : Int)))] : List ((List UInt8) × (List Int))).length), (27, .slice (some ⟨w3.heap.size, 0, none⟩) ([(256, 0, false, [102], 0, (cutL b 0 ((b.length : Nat) : Int)))] : List (Int × Int × Bool × (List UInt8) × Int × (List Int))).length ([(256, 0, false, [102], 0, (cutL b 0 ((b.length : Nat) : Int)))] : List (Int × Int × Bool × (List UInt8) × Int × (List Int))).length)]) hf (by kernel_rfl)
    refine st tbOk 1 [1, 2, 3, 4, 27, 28] (L' := [(1, .int .u8 p_at), (2, .int .u8 p_c), (3, .bool short), (4, .pointer (some ⟨w.heap.size, 0, none⟩)), (27, .slice (some ⟨w3.heap.size, 0, none⟩) ([(256, 0, false, [102], 0, (cutL b 0 ((b.length : Nat) : Int)))] : List (Int × Int × Bool × (List UInt8) × Int × (List Int))).length ([(256, 0, false, [102], 0, (cutL b 0 ((b.length : Nat) : Int)))] : List (Int × Int × Bool × (List UInt8) × Int × (List Int))).length), (28, .slice (some ⟨w2.heap.size, 0, none⟩) ([([102], (cutL b 0 ((b.length : Nat) : Int)))] : List ((List UInt8) × (List Int))).length ([([102], (cutL b 0 ((b.length : Nat) : Int)))] : List ((List UInt8) × (List Int))).length)]) hf (by kernel_rfl) ?_
    clear hf; clear a; intro a hf
    have hT := of_bd hS; clear hS; obtain ⟨z2, hz2, hS⟩ := hT
    refine clV ent19 (vs := [.slice (some ⟨w3.heap.size, 0, none⟩) ([(256, 0, false, [102], 0, (cutL b 0 ((b.length : Nat) : Int)))] : List (Int × Int × Bool × (List UInt8) × Int × (List Int))).length ([(256, 0, false, [102], 0, (cutL b 0 ((b.length : Nat) : Int)))] : List (Int × Int × Bool × (List UInt8) × Int × (List Int))).length, .slice (some ⟨w2.heap.size, 0, none⟩) ([([102], (cutL b 0 ((b.length : Nat) : Int)))] : List ((List UInt8) × (List Int))).length ([([102], (cutL b 0 ((b.length : Nat) : Int)))] : List ((List UInt8) × (List Int))).length]) (caps := []) hf (by kernel_rfl) (by kernel_rfl) (by kernel_rfl) (by kernel_rfl) (dedup_Split_ok (p_l := ([(256, 0, false, [102], 0, (cutL b 0 ((b.length : Nat) : Int)))] : List (Int × Int × Bool × (List UInt8) × Int × (List Int)))) (files := ([([102], (cutL b 0 ((b.length : Nat) : Int)))] : List ((List UInt8) × (List Int)))) (hs.lend [0, 1] [] rfl rfl rfl rfl rfl) hz2) ?_
    clear hf; clear a; intro v w5 a hT hf; obtain ⟨ao3, cp3, ao4, cp4, F3, rfl, hr⟩ := hT
    replace hs : Sep w F R w5 F2 [.row 58 ty57 (.slice ao3 z2.1.length cp3) z2.1, .row 5 (tI .u8) (.slice ao4 z2.2.length cp4) z2.2, .row 56 ty55 (.slice (some ⟨w3.heap.size, 0, none⟩) ([(256, 0, false, [102], 0, (cutL b 0 ((b.length : Nat) : Int)))] : List (Int × Int × Bool × (List UInt8) × Int × (List Int))).length ([(256, 0, false, [102], 0, (cutL b 0 ((b.length : Nat) : Int)))] : List (Int × Int × Bool × (List UInt8) × Int × (List Int))).length) ([(256, 0, false, [102], 0, (cutL b 0 ((b.length : Nat) : Int)))] : List (Int × Int × Bool × (List UInt8) × Int × (List Int))), .row 61 ty60 (.slice (some ⟨w2.heap.size, 0, none⟩) ([([102], (cutL b 0 ((b.length : Nat) : Int)))] : List ((List UInt8) × (List Int))).length ([([102], (cutL b 0 ((b.length : Nat) : Int)))] : List ((List UInt8) × (List Int))).length) ([([102], (cutL b 0 ((b.length : Nat) : Int)))] : List ((List UInt8) × (List Int))), .cel w.heap.size 0 (List.map (Value.int .u8) b)] := hs.backL [0, 1] [] [0, 1, 2] rfl rfl rfl rfl rfl rfl hr ⟨flat57, ⟨(flat_I .u8), trivial⟩⟩
    clear hr
    replace hs : Sep w F R w5 F2 [.row 58 ty57 (.slice ao3 z2.1.length cp3) z2.1, .row 5 (tI .u8) (.slice ao4 z2.2.length cp4) z2.2, .cel w.heap.size 0 (List.map (Value.int .u8) b)] := hs.sel [0, 1, 4] rfl rfl
    replace hf := Fr.keep (ks := [1, 2, 3, 4, 29]) (L' := [(1, .int .u8 p_at), (2, .int .u8 p_c), (3, .bool short), (4, .pointer (some ⟨w.heap.size, 0, none⟩)), (29, .tuple #[.slice ao3 z2.1.length cp3, .slice ao4 z2.2.length cp4])]) hf (by kernel_rfl)
    refine st tbOk 5 [1, 2, 3, 4, 11, 12] (L' := [(1, .int .u8 p_at), (2, .int .u8 p_c), (3, .bool short), (4, .pointer (some ⟨w.heap.size, 0, none⟩)), (11, .slice ao3 z2.1.length cp3), (12, .slice ao4 z2.2.length cp4)]) hf (by kernel_rfl) ?_
    clear hf; clear a; intro a hf
    refine wpList_nil ?_
    refine sq ?_
    refine sq ?_
    refine ctj (fun (s1 : Bool) (a : Act) (w' : World) => ∃ (F4 : SH), Sep w F R w' F4 [.row 58 ty57 (.slice ao3 z2.1.length cp3) z2.1, .cel w.heap.size 0 (List.map (Value.int .u8) b)] ∧ Fr 109 [(1, .int .u8 p_at), (2, .int .u8 p_c), (3, .bool short), (4, .pointer (some ⟨w.heap.size, 0, none⟩)), (11, .slice ao3 z2.1.length cp3), (45, .bool s1)] a) hS ?_ ?_
    · clear hS hf hs; clear a; intro s1 a w6 hM hS
      obtain ⟨F4, hs, hf⟩ := hM
      refine cnd (b := s1) hf (by kernel_rfl) (fun hb4 => ?_) (fun hb4 => ?_)
      · replace hS := of_t hb4 hS
        refine sq ?_
        refine reg ?_
        refine st tbOk 1 [8] (L' := [(8, .bool false)]) hf (by kernel_rfl) ?_
        clear hf; clear a; intro a hf
        refine wpList_nil ?_
        have hr := Option.some.inj hS; subst hr
        refine wp_ret ?_
        exact ret_ok hf (vs := [.bool false]) (by kernel_rfl) ⟨_, rfl, hs.sel [] rfl rfl⟩
      · replace hS := of_f hb4 hS
        refine wp_skip ?_
        refine sq ?_
        refine reg ?_
        refine st tbOk 1 [1, 2, 3, 4, 11, 13] (L' := [(1, .int .u8 p_at), (2, .int .u8 p_c), (3, .bool short), (4, .pointer (some ⟨w.heap.size, 0, none⟩)), (11, .slice ao3 z2.1.length cp3), (13, .slice none 0 0)]) hf (by kernel_rfl) ?_
        clear hf; clear a; intro a hf
        refine wpList_nil ?_
        refine sq ?_
        refine reg ?_
        refine st tbOk 1 [1, 2, 3, 4, 11, 46] (L' := [(1, .int .u8 p_at), (2, .int .u8 p_c), (3, .bool short), (4, .pointer (some ⟨w.heap.size, 0, none⟩)), (11, .slice ao3 z2.1.length cp3), (46, .slice none 0 0)]) hf (by kernel_rfl) ?_
        clear hf; clear a; intro a hf
        have hT := of_gd hS; clear hS; obtain ⟨hc4, hS⟩ := hT
        refine slA tbOk u59 i5 rfl (t := (tI .u8)) (arr_RO (Value.int .u8) (fun _ _ => rfl) (hs.cel 1 rfl)) hn1 (lo := 0) (hi := ((b.length : Nat) : Int)) hc4 (.inl ⟨rfl, rfl⟩) (.inl ⟨rfl, rfl⟩) hf (by kernel_rfl) (by kernel_rfl) (by kernel_rfl) ?_
        clear hf; clear a; intro ao5 cp5 a hr4 hf
        replace hs : Sep w F R w6 F4 [.ro (tI .u8) (.slice ao5 (cutL b 0 ((b.length : Nat) : Int)).length cp5) (cutL b 0 ((b.length : Nat) : Int)), .row 58 ty57 (.slice ao3 z2.1.length cp3) z2.1, .cel w.heap.size 0 (List.map (Value.int .u8) b)] := hs.addRo hr4
        replace hf := Fr.keep (ks := [1, 2, 3, 4, 11, 46, 47]) (L' := [(1, .int .u8 p_at), (2, .int .u8 p_c), (3, .bool short), (4, .pointer (some ⟨w.heap.size, 0, none⟩)), (11, .slice ao3 z2.1.length cp3), (46, .slice none 0 0), (47, .slice ao5 (cutL b 0 ((b.length : Nat) : Int)).length cp5)]) hf (by kernel_rfl)
        have hT := of_gd hS; clear hS; obtain ⟨hc5, hS⟩ := hT
        replace hs : Sep w F R w6 F4 [.row 5 (tI .u8) (.slice none 0 0) ([] : List Int), .ro (tI .u8) (.slice ao5 (cutL b 0 ((b.length : Nat) : Int)).length cp5) (cutL b 0 ((b.length : Nat) : Int)), .row 58 ty57 (.slice ao3 z2.1.length cp3) z2.1, .cel w.heap.size 0 (List.map (Value.int .u8) b)] := hs.addNil 5 (tI .u8)
        refine apR tbOk u22 i5 rfl rfl rfl rfl hs.le (hs.own 0 rfl) (hs.raR 1 rfl) hc5 hf (by kernel_rfl) (by kernel_rfl) (by kernel_rfl) (by kernel_rfl) ?_
        clear hf; clear a; intro ao6 cp6 w7 a ho hg hl hf
        replace hs : Sep w F R w7 F4 [.row 5 (tI .u8) (.slice ao6 (([] : List Int) ++ (cutL b 0 ((b.length : Nat) : Int))).length cp6) (([] : List Int) ++ (cutL b 0 ((b.length : Nat) : Int))), .ro (tI .u8) (.slice ao5 (cutL b 0 ((b.length : Nat) : Int)).length cp5) (cutL b 0 ((b.length : Nat) : Int)), .row 58 ty57 (.slice ao3 z2.1.length cp3) z2.1, .cel w.heap.size 0 (List.map (Value.int .u8) b)] := hs.updRow 0 rfl ho hg hl
        clear ho hg hl
        replace hs : Sep w F R w7 F4 [.row 5 (tI .u8) (.slice ao6 (([] : List Int) ++ (cutL b 0 ((b.length : Nat) : Int))).length cp6) (([] : List Int) ++ (cutL b 0 ((b.length : Nat) : Int))), .row 58 ty57 (.slice ao3 z2.1.length cp3) z2.1, .cel w.heap.size 0 (List.map (Value.int .u8) b)] := hs.sel [0, 2, 3] rfl rfl
        replace hf := Fr.keep (ks := [1, 2, 3, 4, 11, 48]) (L' := [(1, .int .u8 p_at), (2, .int .u8 p_c), (3, .bool short), (4, .pointer (some ⟨w.heap.size, 0, none⟩)), (11, .slice ao3 z2.1.length cp3), (48, .slice ao6 (([] : List Int) ++ (cutL b 0 ((b.length : Nat) : Int))).length cp6)]) hf (by kernel_rfl)
        refine st tbOk 1 [1, 2, 3, 4, 11, 13] (L' := [(1, .int .u8 p_at), (2, .int .u8 p_c), (3, .bool short), (4, .pointer (some ⟨w.heap.size, 0, none⟩)), (11, .slice ao3 z2.1.length cp3), (13, .slice ao6 (([] : List Int) ++ (cutL b 0 ((b.length : Nat) : Int))).length cp6)]) hf (by kernel_rfl) ?_
        clear hf; clear a; intro a hf
        refine wpList_nil ?_
        refine sq ?_
        refine reg ?_
        refine st tbOk 3 [3, 4, 11, 13, 49, 50, 51] (L' := [(3, .bool short), (4, .pointer (some ⟨w.heap.size, 0, none⟩)), (11, .slice ao3 z2.1.length cp3), (13, .slice ao6 (([] : List Int) ++ (cutL b 0 ((b.length : Nat) : Int))).length cp6), (49, .slice ao6 (([] : List Int) ++ (cutL b 0 ((b.length : Nat) : Int))).length cp6), (50, .int .u8 p_at), (51, .int .u8 p_c)]) hf (by kernel_rfl) ?_
        clear hf; clear a; intro a hf
        have hT := of_gd hS; clear hS; obtain ⟨hc6, hS⟩ := hT
        refine ixW tbOk u22 i5 (hs.own 0 rfl) (k := .u8) (n := p_at) hc6 hf (by kernel_rfl) (by kernel_rfl) (by kernel_rfl) (by kernel_rfl) ?_
        clear hf; clear a; intro pb2 po2 a hq1 hf
        replace hf := Fr.keep (ks := [3, 4, 11, 13, 51, 52]) (L' := [(3, .bool short), (4, .pointer (some ⟨w.heap.size, 0, none⟩)), (11, .slice ao3 z2.1.length cp3), (13, .slice ao6 (([] : List Int) ++ (cutL b 0 ((b.length : Nat) : Int))).length cp6), (51, .int .u8 p_c), (52, .pointer (some ⟨pb2, po2, none⟩))]) hf (by kernel_rfl)
        refine stW tbOk i5 rfl (hs.own 0 rfl) hc6 0 hq1 [.int .u8 p_c] (z := p_c) (fun _ e => (congrArg (fun c => spl c 0 [.int .u8 p_c]) e).trans rfl) (u := .int .u8 p_c) rfl rfl (by kernel_rfl) (by kernel_rfl) hf (by kernel_rfl) (by kernel_rfl) (by kernel_rfl) ?_
        clear hf; clear a; intro w8 a ho hg hf
        replace hs := hs.updRow 0 rfl ho hg (fun _ h => .inl h)
        clear ho hg
        replace hs : Sep w F R w8 F4 [.row 5 (tI .u8) (.slice ao6 ((([] : List Int) ++ (cutL b 0 ((b.length : Nat) : Int))).set (Int.toNat p_at) p_c).length cp6) ((([] : List Int) ++ (cutL b 0 ((b.length : Nat) : Int))).set (Int.toNat p_at) p_c), .row 58 ty57 (.slice ao3 z2.1.length cp3) z2.1, .cel w.heap.size 0 (List.map (Value.int .u8) b)] := Sep.cast hs (by simp only [List.length_set]; rfl)
        replace hf := Fr.cast (L' := [(3, .bool short), (4, .pointer (some ⟨w.heap.size, 0, none⟩)), (11, .slice ao3 z2.1.length cp3), (13, .slice ao6 ((([] : List Int) ++ (cutL b 0 ((b.length : Nat) : Int))).set (Int.toNat p_at) p_c).length cp6), (51, .int .u8 p_c), (52, .pointer (some ⟨pb2, po2, none⟩))]) hf (by simp only [List.length_set])
        replace hf := Fr.keep (ks := [3, 4, 11, 13]) (L' := [(3, .bool short), (4, .pointer (some ⟨w.heap.size, 0, none⟩)), (11, .slice ao3 z2.1.length cp3), (13, .slice ao6 ((([] : List Int) ++ (cutL b 0 ((b.length : Nat) : Int))).set (Int.toNat p_at) p_c).length cp6)]) hf (by kernel_rfl)
        refine wpList_nil ?_
        refine sq ?_
        refine sq ?_
        refine reg ?_
        refine st tbOk 1 [3, 4, 11, 13, 53] (L' := [(3, .bool short), (4, .pointer (some ⟨w.heap.size, 0, none⟩)), (11, .slice ao3 z2.1.length cp3), (13, .slice ao6 ((([] : List Int) ++ (cutL b 0 ((b.length : Nat) : Int))).set (Int.toNat p_at) p_c).length cp6), (53, .bool short)]) hf (by kernel_rfl) ?_
        clear hf; clear a; intro a hf
        refine wpList_nil ?_
        refine ctj (fun (s2 : List Int) (a : Act) (w' : World) => ∃ (ao7 : Option Addr) (cp7 : Nat) (F5 : SH), Sep w F R w' F5 [.ro (tI .u8) (.slice ao7 s2.length cp7) s2, .row 58 ty57 (.slice ao3 z2.1.length cp3) z2.1, .cel w.heap.size 0 (List.map (Value.int .u8) b)] ∧ Fr 109 [(3, .bool short), (4, .pointer (some ⟨w.heap.size, 0, none⟩)), (11, .slice ao3 z2.1.length cp3), (13, .slice ao7 s2.length cp7)] a) hS ?_ ?_
        · clear hS hf hs; clear a; intro s2 a w9 hM hS
          obtain ⟨ao7, cp7, F5, hs, hf⟩ := hM
          refine sq ?_
          refine reg ?_
          refine st tbOk 3 [3, 4, 11, 13, 57, 59] (L' := [(3, .bool short), (4, .pointer (some ⟨w.heap.size, 0, none⟩)), (11, .slice ao3 z2.1.length cp3), (13, .slice ao7 s2.length cp7), (57, .slice ao3 z2.1.length cp3), (59, .agg #[strV [102], .slice ao7 s2.length cp7])]) hf (by kernel_rfl) ?_
          clear hf; clear a; intro a hf
          refine bsR tbOk u24 i61 rfl (t := ty60) (vs := [(0, .agg #[strV [102], .slice ao7 s2.length cp7])]) (cells := #[strV [102], .slice ao7 s2.length cp7]) ([([102], s2)] : List ((List UInt8) × (List Int))) hs.le hf (by kernel_rfl) (by kernel_rfl) (by kernel_rfl) rfl (by kernel_rfl) ⟨_, _, rfl, ⟨ao7, cp7, rfl, hs.ro 0 rfl⟩, rfl⟩ rfl ?_
          clear hf; clear a; intro w10 a ho hx hf
          replace hs : Sep w F R w10 F5 [.row 61 ty60 (.slice (some ⟨w9.heap.size, 0, none⟩) ([([102], s2)] : List ((List UInt8) × (List Int))).length ([([102], s2)] : List ((List UInt8) × (List Int))).length) ([([102], s2)] : List ((List UInt8) × (List Int))), .ro (tI .u8) (.slice ao7 s2.length cp7) s2, .row 58 ty57 (.slice ao3 z2.1.length cp3) z2.1, .cel w.heap.size 0 (List.map (Value.int .u8) b)] := hs.newRow ho hx
          clear ho hx
          replace hf := Fr.keep (ks := [3, 4, 11, 13, 57, 60]) (L' := [(3, .bool short), (4, .pointer (some ⟨w.heap.size, 0, none⟩)), (11, .slice ao3 z2.1.length cp3), (13, .slice ao7 s2.length cp7), (57, .slice ao3 z2.1.length cp3), (60, .slice (some ⟨w9.heap.size, 0, none⟩) ([([102], s2)] : List ((List UInt8) × (List Int))).length ([([102], s2)] : List ((List UInt8) × (List Int))).length)]) hf (by kernel_rfl)
          have hT := of_bd hS; clear hS; obtain ⟨z3, hz3, hS⟩ := hT
          obtain ⟨F8, _, hs⟩ := hs.frz 2 rfl
          replace hs : Sep w F R w10 F8 [.row 61 ty60 (.slice (some ⟨w9.heap.size, 0, none⟩) ([([102], s2)] : List ((List UInt8) × (List Int))).length ([([102], s2)] : List ((List UInt8) × (List Int))).length) ([([102], s2)] : List ((List UInt8) × (List Int))), .ro (tI .u8) (.slice ao7 s2.length cp7) s2, .ro ty57 (.slice ao3 z2.1.length cp3) z2.1, .cel w.heap.size 0 (List.map (Value.int .u8) b)] := hs
          replace hs : Sep w F R w10 F8 [.ro (tI .u8) (.slice none 0 0) ([] : List Int), .row 61 ty60 (.slice (some ⟨w9.heap.size, 0, none⟩) ([([102], s2)] : List ((List UInt8) × (List Int))).length ([([102], s2)] : List ((List UInt8) × (List Int))).length) ([([102], s2)] : List ((List UInt8) × (List Int))), .ro (tI .u8) (.slice ao7 s2.length cp7) s2, .ro ty57 (.slice ao3 z2.1.length cp3) z2.1, .cel w.heap.size 0 (List.map (Value.int .u8) b)] := hs.addRo (RO.nil _ _)
          obtain ⟨F9, _, hs⟩ := hs.frz 1 rfl
          replace hs : Sep w F R w10 F9 [.ro (tI .u8) (.slice none 0 0) ([] : List Int), .ro ty60 (.slice (some ⟨w9.heap.size, 0, none⟩) ([([102], s2)] : List ((List UInt8) × (List Int))).length ([([102], s2)] : List ((List UInt8) × (List Int))).length) ([([102], s2)] : List ((List UInt8) × (List Int))), .ro (tI .u8) (.slice ao7 s2.length cp7) s2, .ro ty57 (.slice ao3 z2.1.length cp3) z2.1, .cel w.heap.size 0 (List.map (Value.int .u8) b)] := hs
          refine clV ent23 (vs := [.slice ao3 z2.1.length cp3, .slice none 0 0, .slice (some ⟨w9.heap.size, 0, none⟩) ([([102], s2)] : List ((List UInt8) × (List Int))).length ([([102], s2)] : List ((List UInt8) × (List Int))).length]) (caps := []) hf (by kernel_rfl) (by kernel_rfl) (by kernel_rfl) (by kernel_rfl) (dedup_Join_ok (p_l := z2.1) (kept := ([] : List Int)) (files := ([([102], s2)] : List ((List UInt8) × (List Int)))) (hs.enter [3, 0, 1] rfl rfl) hz3) ?_
          clear hf; clear a; intro v w11 a hT hf; obtain ⟨ao9, cp9, F10, rfl, hr⟩ := hT
          replace hs : Sep w F R w11 F10 [.row 56 ty55 (.slice ao9 z3.1.length cp9) z3.1, .ro (tI .u8) (.slice none 0 0) ([] : List Int), .ro ty60 (.slice (some ⟨w9.heap.size, 0, none⟩) ([([102], s2)] : List ((List UInt8) × (List Int))).length ([([102], s2)] : List ((List UInt8) × (List Int))).length) ([([102], s2)] : List ((List UInt8) × (List Int))), .ro (tI .u8) (.slice ao7 s2.length cp7) s2, .ro ty57 (.slice ao3 z2.1.length cp3) z2.1, .cel w.heap.size 0 (List.map (Value.int .u8) b)] := hs.back [3, 0, 1] [0, 1, 2, 3, 4] rfl rfl rfl rfl hr
          clear hr
          replace hs : Sep w F R w11 F10 [.row 56 ty55 (.slice ao9 z3.1.length cp9) z3.1, .ro (tI .u8) (.slice ao7 s2.length cp7) s2, .ro ty57 (.slice ao3 z2.1.length cp3) z2.1, .cel w.heap.size 0 (List.map (Value.int .u8) b)] := hs.sel [0, 3, 4, 5] rfl rfl
          replace hf := Fr.keep (ks := [3, 4, 11, 13, 61]) (L' := [(3, .bool short), (4, .pointer (some ⟨w.heap.size, 0, none⟩)), (11, .slice ao3 z2.1.length cp3), (13, .slice ao7 s2.length cp7), (61, .tuple #[.slice ao9 z3.1.length cp9, .int .i64 z3.2])]) hf (by kernel_rfl)
          refine st tbOk 5 [3, 4, 11, 13, 14, 15] (L' := [(3, .bool short), (4, .pointer (some ⟨w.heap.size, 0, none⟩)), (11, .slice ao3 z2.1.length cp3), (13, .slice ao7 s2.length cp7), (14, .slice ao9 z3.1.length cp9), (15, .int .i64 z3.2)]) hf (by kernel_rfl) ?_
          clear hf; clear a; intro a hf
          refine wpList_nil ?_
          refine sq ?_
          refine reg ?_
          refine st tbOk 1 [3, 4, 13, 14, 15, 65] (L' := [(3, .bool short), (4, .pointer (some ⟨w.heap.size, 0, none⟩)), (13, .slice ao7 s2.length cp7), (14, .slice ao9 z3.1.length cp9), (15, .int .i64 z3.2), (65, .slice ao3 z2.1.length cp3)]) hf (by kernel_rfl) ?_
          clear hf; clear a; intro a hf
          have hT := of_bd hS; clear hS; obtain ⟨z4, hz4, hS⟩ := hT
          replace hs : Sep w F R w11 F10 [.ro (tI .u8) (.slice none 0 0) ([] : List Int), .row 56 ty55 (.slice ao9 z3.1.length cp9) z3.1, .ro (tI .u8) (.slice ao7 s2.length cp7) s2, .ro ty57 (.slice ao3 z2.1.length cp3) z2.1, .cel w.heap.size 0 (List.map (Value.int .u8) b)] := hs.addRo (RO.nil _ _)
          replace hs : Sep w F R w11 F10 [.ro ty60 (.slice none 0 0) ([] : List ((List UInt8) × (List Int))), .ro (tI .u8) (.slice none 0 0) ([] : List Int), .row 56 ty55 (.slice ao9 z3.1.length cp9) z3.1, .ro (tI .u8) (.slice ao7 s2.length cp7) s2, .ro ty57 (.slice ao3 z2.1.length cp3) z2.1, .cel w.heap.size 0 (List.map (Value.int .u8) b)] := hs.addRo (RO.nil _ _)
          refine clV ent23 (vs := [.slice ao3 z2.1.length cp3, .slice none 0 0, .slice none 0 0]) (caps := []) hf (by kernel_rfl) (by kernel_rfl) (by kernel_rfl) (by kernel_rfl) (dedup_Join_ok (p_l := z2.1) (kept := ([] : List Int)) (files := ([] : List ((List UInt8) × (List Int)))) (hs.enter [4, 1, 0] rfl rfl) hz4) ?_
          clear hf; clear a; intro v w12 a hT hf; obtain ⟨ao10, cp10, F11, rfl, hr⟩ := hT
          replace hs : Sep w F R w12 F11 [.row 56 ty55 (.slice ao10 z4.1.length cp10) z4.1, .ro ty60 (.slice none 0 0) ([] : List ((List UInt8) × (List Int))), .ro (tI .u8) (.slice none 0 0) ([] : List Int), .row 56 ty55 (.slice ao9 z3.1.length cp9) z3.1, .ro (tI .u8) (.slice ao7 s2.length cp7) s2, .ro ty57 (.slice ao3 z2.1.length cp3) z2.1, .cel w.heap.size 0 (List.map (Value.int .u8) b)] := hs.back [4, 1, 0] [0, 1, 2, 3, 4, 5] rfl rfl rfl rfl hr
          clear hr
          replace hs : Sep w F R w12 F11 [.row 56 ty55 (.slice ao10 z4.1.length cp10) z4.1, .row 56 ty55 (.slice ao9 z3.1.length cp9) z3.1, .ro (tI .u8) (.slice ao7 s2.length cp7) s2, .cel w.heap.size 0 (List.map (Value.int .u8) b)] := hs.sel [0, 3, 4, 6] rfl rfl
          replace hf := Fr.keep (ks := [3, 4, 13, 14, 15, 66]) (L' := [(3, .bool short), (4, .pointer (some ⟨w.heap.size, 0, none⟩)), (13, .slice ao7 s2.length cp7), (14, .slice ao9 z3.1.length cp9), (15, .int .i64 z3.2), (66, .tuple #[.slice ao10 z4.1.length cp10, .int .i64 z4.2])]) hf (by kernel_rfl)
          refine st tbOk 5 [3, 4, 13, 14, 15, 17] (L' := [(3, .bool short), (4, .pointer (some ⟨w.heap.size, 0, none⟩)), (13, .slice ao7 s2.length cp7), (14, .slice ao9 z3.1.length cp9), (15, .int .i64 z3.2), (17, .int .i64 z4.2)]) hf (by kernel_rfl) ?_
          clear hf; clear a; intro a hf
          refine wpList_nil ?_
          refine sq ?_
          refine sq ?_
          refine ctj (fun (s3 : Bool) (a : Act) (w' : World) => ∃ (F12 : SH), Sep w F R w' F12 [.row 56 ty55 (.slice ao9 z3.1.length cp9) z3.1, .ro (tI .u8) (.slice ao7 s2.length cp7) s2] ∧ Fr 109 [(13, .slice ao7 s2.length cp7), (14, .slice ao9 z3.1.length cp9), (15, .int .i64 z3.2), (17, .int .i64 z4.2), (76, .bool s3)] a) hS ?_ ?_
          · clear hS hf hs; clear a; intro s3 a w17 hM hS
            obtain ⟨F12, hs, hf⟩ := hM
            refine cnd (b := s3) hf (by kernel_rfl) (fun hb7 => ?_) (fun hb7 => ?_)
            · replace hS := of_t hb7 hS
              refine sq ?_
              refine ctj (fun (s4 : Bool) (a : Act) (w' : World) => ∃ (F15 : SH), Sep w F R w' F15 [] ∧ Fr 109 [(8, .bool s4)] a) hS ?_ ?_
              · clear hS hf hs; clear a; intro s4 a w18 hM hS
                obtain ⟨F15, hs, hf⟩ := hM
                have hr := Option.some.inj hS; subst hr
                refine wp_ret ?_
                exact ret_ok hf (vs := [.bool s4]) (by kernel_rfl) ⟨_, rfl, hs.sel [] rfl rfl⟩
              · clear hS; intro KK4 k4 hK4 hS
                refine reg ?_
                refine st tbOk 3 [14, 17, 79] (L' := [(14, .slice ao9 z3.1.length cp9), (17, .int .i64 z4.2), (79, .bool (z3.2 == 61))]) hf (by kernel_rfl) ?_
                clear hf; clear a; intro a hf
                rcases Bool.eq_false_or_eq_true (z3.2 == 61) with hb8 | hb8
                · replace hS := of_t hb8 hS
                  replace hf := Fr.cast (L' := [(14, .slice ao9 z3.1.length cp9), (17, .int .i64 z4.2), (79, .bool true)]) hf (by rw [hb8])
                  refine st tbOk 5 [17, 84] (L' := [(17, .int .i64 z4.2), (84, .bool (((z3.1.length : Nat) : Int) == 0))]) hf (by kernel_rfl) ?_
                  clear hf; clear a; intro a hf
                  rcases Bool.eq_false_or_eq_true (((z3.1.length : Nat) : Int) == 0) with hb9 | hb9
                  · replace hS := of_t hb9 hS
                    replace hf := Fr.cast (L' := [(17, .int .i64 z4.2), (84, .bool true)]) hf (by rw [hb9])
                    refine st tbOk 4 [8] (L' := [(8, .bool (z4.2 == 61))]) hf (by kernel_rfl) ?_
                    clear hf; clear a; intro a hf
                    refine wpList_nil ?_
                    exact hK4 (z4.2 == 61) _ _ ⟨_, hs.sel [] rfl rfl, hf.keep (ks := [8]) (by kernel_rfl)⟩ hS
                  · replace hS := of_f hb9 hS
                    replace hf := Fr.cast (L' := [(17, .int .i64 z4.2), (84, .bool false)]) hf (by rw [hb9])
                    refine st tbOk 4 [8] (L' := [(8, .bool false)]) hf (by kernel_rfl) ?_
                    clear hf; clear a; intro a hf
                    refine wpList_nil ?_
                    exact hK4 false _ _ ⟨_, hs.sel [] rfl rfl, hf.keep (ks := [8]) (by kernel_rfl)⟩ hS
                · replace hS := of_f hb8 hS
                  replace hf := Fr.cast (L' := [(14, .slice ao9 z3.1.length cp9), (17, .int .i64 z4.2), (79, .bool false)]) hf (by rw [hb8])
                  refine st tbOk 9 [8] (L' := [(8, .bool false)]) hf (by kernel_rfl) ?_
                  clear hf; clear a; intro a hf
                  refine wpList_nil ?_
                  exact hK4 false _ _ ⟨_, hs.sel [] rfl rfl, hf.keep (ks := [8]) (by kernel_rfl)⟩ hS
            · replace hS := of_f hb7 hS
              refine wp_skip ?_
              refine sq ?_
              refine ctj (fun (s5 : Bool) (a : Act) (w' : World) => ∃ (F16 : SH), Sep w F R w' F16 [] ∧ Fr 109 [(8, .bool s5)] a) hS ?_ ?_
              · clear hS hf hs; clear a; intro s5 a w23 hM hS
                obtain ⟨F16, hs, hf⟩ := hM
                have hr := Option.some.inj hS; subst hr
                refine wp_ret ?_
                exact ret_ok hf (vs := [.bool s5]) (by kernel_rfl) ⟨_, rfl, hs.sel [] rfl rfl⟩
              · clear hS; intro KK5 k5 hK5 hS
                refine regQ mixed (by kernel_rfl) ?_
                refine stQ tbOk 3 [13, 14, 17, 90] (L' := [(13, .slice ao7 s2.length cp7), (14, .slice ao9 z3.1.length cp9), (17, .int .i64 z4.2), (90, .bool (z3.2 == 0))]) hf (by kernel_rfl) ?_
                clear hf; clear a; intro a hf
                rcases Bool.eq_false_or_eq_true (z3.2 == 0) with hb10 | hb10
                · replace hS := of_t hb10 hS
                  replace hf := Fr.cast (L' := [(13, .slice ao7 s2.length cp7), (14, .slice ao9 z3.1.length cp9), (17, .int .i64 z4.2), (90, .bool true)]) hf (by rw [hb10])
                  refine stQ tbOk 5 [13, 14, 17, 95] (L' := [(13, .slice ao7 s2.length cp7), (14, .slice ao9 z3.1.length cp9), (17, .int .i64 z4.2), (95, .bool (((z3.1.length : Nat) : Int) == 1))]) hf (by kernel_rfl) ?_
                  clear hf; clear a; intro a hf
                  rcases Bool.eq_false_or_eq_true (((z3.1.length : Nat) : Int) == 1) with hb11 | hb11
                  · replace hS := of_t hb11 hS
                    replace hf := Fr.cast (L' := [(13, .slice ao7 s2.length cp7), (14, .slice ao9 z3.1.length cp9), (17, .int .i64 z4.2), (95, .bool true)]) hf (by rw [hb11])
                    refine stQ tbOk 1 [13, 17, 95, 96] (L' := [(13, .slice ao7 s2.length cp7), (17, .int .i64 z4.2), (95, .bool true), (96, .slice ao9 z3.1.length cp9)]) hf (by kernel_rfl) ?_
                    clear hf; clear a; intro a hf
                    have hT := of_gd hS; clear hS; obtain ⟨hc9, hS⟩ := hT
                    refine ixRQ tbOk u35 i56 rfl rfl (hs.raW 0 rfl) (k := .i64) (n := 0) hc9 hf (by kernel_rfl) (by kernel_rfl) (by kernel_rfl) (by kernel_rfl) ?_
                    clear hf; clear a; intro pb3 po3 c2 a hp2 hr7 hf
                    obtain ⟨ao13, cp13, rfl, hr8⟩ := hr7
                    replace hs : Sep w F R w17 F12 [.ro (tI .u8) (.slice ao13 ((gt z3.1 0).2.2.2.2.2).length cp13) ((gt z3.1 0).2.2.2.2.2), .row 56 ty55 (.slice ao9 z3.1.length cp9) z3.1, .ro (tI .u8) (.slice ao7 s2.length cp7) s2] := hs.addRo hr8
                    replace hs : Sep w F R w17 F12 [.ro (tI .u8) (.slice ao13 ((gt z3.1 0).2.2.2.2.2).length cp13) ((gt z3.1 0).2.2.2.2.2), .ro (tI .u8) (.slice ao7 s2.length cp7) s2] := hs.sel [0, 2] rfl rfl
                    replace hf := Fr.keep (ks := [13, 17, 95, 97]) (L' := [(13, .slice ao7 s2.length cp7), (17, .int .i64 z4.2), (95, .bool true), (97, .pointer (some ⟨pb3, po3, none⟩))]) hf (by kernel_rfl)
                    refine stQ tbOk 1 [13, 17, 95, 98] (L' := [(13, .slice ao7 s2.length cp7), (17, .int .i64 z4.2), (95, .bool true), (98, .pointer (some ⟨pb3, po3 + 5, none⟩))]) hf (by kernel_rfl) ?_
                    clear hf; clear a; intro a hf
                    refine ldCQ tbOk (T := 22) hp2 (LeH.refl _) 5 (.slice ao13 ((gt z3.1 0).2.2.2.2.2).length cp13) hf (by kernel_rfl) (by kernel_rfl) (by kernel_rfl) (by kernel_rfl) ?_
                    clear hf; clear a; intro a hf
                    replace hf := Fr.keep (ks := [13, 17, 95, 99]) (L' := [(13, .slice ao7 s2.length cp7), (17, .int .i64 z4.2), (95, .bool true), (99, .slice ao13 ((gt z3.1 0).2.2.2.2.2).length cp13)]) hf (by kernel_rfl)
                    refine b2sRQ tbOk u22 u5 u9 (hs.raR 0 rfl) hf (by kernel_rfl) (by kernel_rfl) (by kernel_rfl) ?_
                    clear hf; clear a; intro a hf
                    replace hs : Sep w F R w17 F12 [.ro (tI .u8) (.slice ao7 s2.length cp7) s2] := hs.sel [1] rfl rfl
                    replace hf := Fr.keep (ks := [13, 17, 95, 100]) (L' := [(13, .slice ao7 s2.length cp7), (17, .int .i64 z4.2), (95, .bool true), (100, strV (toStr ((gt z3.1 0).2.2.2.2.2)))]) hf (by kernel_rfl)
                    refine stQ tbOk 1 [17, 95, 100, 101] (L' := [(17, .int .i64 z4.2), (95, .bool true), (100, strV (toStr ((gt z3.1 0).2.2.2.2.2))), (101, .slice ao7 s2.length cp7)]) hf (by kernel_rfl) ?_
                    clear hf; clear a; intro a hf
                    refine b2sRQ tbOk u22 u5 u9 (hs.raR 0 rfl) hf (by kernel_rfl) (by kernel_rfl) (by kernel_rfl) ?_
                    clear hf; clear a; intro a hf
                    replace hs : Sep w F R w17 F12 [] := hs.sel [] rfl rfl
                    replace hf := Fr.keep (ks := [17, 95, 100, 102]) (L' := [(17, .int .i64 z4.2), (95, .bool true), (100, strV (toStr ((gt z3.1 0).2.2.2.2.2))), (102, strV (toStr s2))]) hf (by kernel_rfl)
                    refine stQ tbOk 3 [17, 105] (L' := [(17, .int .i64 z4.2), (105, .bool ((toStr ((gt z3.1 0).2.2.2.2.2)) == (toStr s2)))]) hf (by kernel_rfl) ?_
                    clear hf; clear a; intro a hf
                    rcases Bool.eq_false_or_eq_true ((toStr ((gt z3.1 0).2.2.2.2.2)) == (toStr s2)) with hb12 | hb12
                    · replace hS := of_t hb12 hS
                      replace hf := Fr.cast (L' := [(17, .int .i64 z4.2), (105, .bool true)]) hf (by rw [hb12])
                      refine stQ tbOk 4 [8] (L' := [(8, .bool (z4.2 == 61))]) hf (by kernel_rfl) ?_
                      clear hf; clear a; intro a hf
                      refine wpQuiet_nil ?_
                      intro w19 hx
                      replace hs : Sep w F R w19 F12 [] := hs.ext hx
                      clear hx
                      exact hK5 (z4.2 == 61) _ _ ⟨_, hs.sel [] rfl rfl, hf.keep (ks := [8]) (by kernel_rfl)⟩ hS
                    · replace hS := of_f hb12 hS
                      replace hf := Fr.cast (L' := [(17, .int .i64 z4.2), (105, .bool false)]) hf (by rw [hb12])
                      refine stQ tbOk 4 [8] (L' := [(8, .bool false)]) hf (by kernel_rfl) ?_
                      clear hf; clear a; intro a hf
                      refine wpQuiet_nil ?_
                      intro w20 hx
                      replace hs : Sep w F R w20 F12 [] := hs.ext hx
                      clear hx
                      exact hK5 false _ _ ⟨_, hs.sel [] rfl rfl, hf.keep (ks := [8]) (by kernel_rfl)⟩ hS
                  · replace hS := of_f hb11 hS
                    replace hf := Fr.cast (L' := [(13, .slice ao7 s2.length cp7), (14, .slice ao9 z3.1.length cp9), (17, .int .i64 z4.2), (95, .bool false)]) hf (by rw [hb11])
                    refine stQ tbOk 14 [8] (L' := [(8, .bool false)]) hf (by kernel_rfl) ?_
                    clear hf; clear a; intro a hf
                    refine wpQuiet_nil ?_
                    intro w21 hx
                    replace hs : Sep w F R w21 F12 [.row 56 ty55 (.slice ao9 z3.1.length cp9) z3.1, .ro (tI .u8) (.slice ao7 s2.length cp7) s2] := hs.ext hx
                    clear hx
                    exact hK5 false _ _ ⟨_, hs.sel [] rfl rfl, hf.keep (ks := [8]) (by kernel_rfl)⟩ hS
                · replace hS := of_f hb10 hS
                  replace hf := Fr.cast (L' := [(13, .slice ao7 s2.length cp7), (14, .slice ao9 z3.1.length cp9), (17, .int .i64 z4.2), (90, .bool false)]) hf (by rw [hb10])
                  refine stQ tbOk 19 [8] (L' := [(8, .bool false)]) hf (by kernel_rfl) ?_
                  clear hf; clear a; intro a hf
                  refine wpQuiet_nil ?_
                  intro w22 hx
                  replace hs : Sep w F R w22 F12 [.row 56 ty55 (.slice ao9 z3.1.length cp9) z3.1, .ro (tI .u8) (.slice ao7 s2.length cp7) s2] := hs.ext hx
                  clear hx
                  exact hK5 false _ _ ⟨_, hs.sel [] rfl rfl, hf.keep (ks := [8]) (by kernel_rfl)⟩ hS
          · clear hS; intro KK3 k3 hK3 hS
            rcases Bool.eq_false_or_eq_true (short) with hb6 | hb6
            · replace hS := of_t hb6 hS
              have hs0 := hs
              refine regF 8 [fun u uw => u = .bool short,
    fun u uw => u = .bool short,
    fun u uw => u = undef,
    fun u uw => u = undef,
    fun u uw => u = undef,
    fun u uw => u = undef,
    fun u uw => u = undef,
    fun u uw => u = .bool true] mixed (Fr.keep (ks := [3, 4, 13, 14, 15, 17]) (L' := [(3, .bool short), (4, .pointer (some ⟨w.heap.size, 0, none⟩)), (13, .slice ao7 s2.length cp7), (14, .slice ao9 z3.1.length cp9), (15, .int .i64 z3.2), (17, .int .i64 z4.2)]) hf (by kernel_rfl)) (by kernel_rfl) rfl ?_ ?_ ?_
              · exact ⟨fun _ _ _ h _ => h, fun _ _ _ h _ => h, fun _ _ _ h _ => h, fun _ _ _ h _ => h, fun _ _ _ h _ => h, fun _ _ _ h _ => h, fun _ _ _ h _ => h, fun _ _ _ h _ => h, trivial⟩
              · clear hS hf hs; clear a
                refine ⟨?_, ?_, ?_, ?_, ?_, ?_, ?_, ?_, trivial⟩
                · intro a wf hX hf hd
                  clear hd
                  have hs : Sep wf (star F11 w12 wf) noR wf (star F11 w12 wf) [.ro (tI .u8) (.slice ao7 s2.length cp7) s2, .cel w.heap.size 0 (List.map (Value.int .u8) b)] := hs0.fstart hX [2, 3] rfl rfl
                  refine st tbOk 1 [69] (L' := [(69, .bool short)]) hf (by kernel_rfl) ?_
                  clear hf; clear a; intro a hf
                  exact fq_ok (d := 69) rfl hf (hs.ex fun _ h => h) hf.1
                · intro a wf hX hf hd
                  have e_69 : a.tmps.getD 69 undef = .bool short := hd 0 69 (by kernel_rfl) (by kernel_rfl)
                  replace hf : Fr 109 [(69, .bool short), (3, .bool short), (4, .pointer (some ⟨w.heap.size, 0, none⟩)), (13, .slice ao7 s2.length cp7), (14, .slice ao9 z3.1.length cp9), (15, .int .i64 z3.2), (17, .int .i64 z4.2)] a := ⟨e_69, hf⟩; clear e_69
                  clear hd
                  have hs : Sep wf (star F11 w12 wf) noR wf (star F11 w12 wf) [.ro (tI .u8) (.slice ao7 s2.length cp7) s2, .cel w.heap.size 0 (List.map (Value.int .u8) b)] := hs0.fstart hX [2, 3] rfl rfl
                  refine st tbOk 1 [70] (L' := [(70, .bool short)]) hf (by kernel_rfl) ?_
                  clear hf; clear a; intro a hf
                  exact fq_ok (d := 70) rfl hf (hs.ex fun _ h => h) hf.1
                · intro a wf hX hf hd
                  have e_70 : a.tmps.getD 70 undef = .bool short := hd 1 70 (by kernel_rfl) (by kernel_rfl)
                  rw [hb6] at e_70
                  replace hf : Fr 109 [(70, .bool true), (3, .bool short), (4, .pointer (some ⟨w.heap.size, 0, none⟩)), (13, .slice ao7 s2.length cp7), (14, .slice ao9 z3.1.length cp9), (15, .int .i64 z3.2), (17, .int .i64 z4.2)] a := ⟨e_70, hf⟩; clear e_70
                  clear hd
                  have hs : Sep wf (star F11 w12 wf) noR wf (star F11 w12 wf) [.ro (tI .u8) (.slice ao7 s2.length cp7) s2, .cel w.heap.size 0 (List.map (Value.int .u8) b)] := hs0.fstart hX [2, 3] rfl rfl
                  refine st tbOk 1 [71] (L' := [(71, undef)]) hf (by kernel_rfl) ?_
                  clear hf; clear a; intro a hf
                  exact fq_ok (d := 71) rfl hf (hs.ex fun _ h => h) hf.1
                · intro a wf hX hf hd
                  have e_71 : a.tmps.getD 71 undef = undef := hd 2 71 (by kernel_rfl) (by kernel_rfl)
                  have e_70 : a.tmps.getD 70 undef = .bool short := hd 1 70 (by kernel_rfl) (by kernel_rfl)
                  rw [hb6] at e_70
                  replace hf : Fr 109 [(71, undef), (70, .bool true), (3, .bool short), (4, .pointer (some ⟨w.heap.size, 0, none⟩)), (13, .slice ao7 s2.length cp7), (14, .slice ao9 z3.1.length cp9), (15, .int .i64 z3.2), (17, .int .i64 z4.2)] a := ⟨e_71, e_70, hf⟩; clear e_71 e_70
                  clear hd
                  have hs : Sep wf (star F11 w12 wf) noR wf (star F11 w12 wf) [.ro (tI .u8) (.slice ao7 s2.length cp7) s2, .cel w.heap.size 0 (List.map (Value.int .u8) b)] := hs0.fstart hX [2, 3] rfl rfl
                  refine st tbOk 1 [72] (L' := [(72, undef)]) hf (by kernel_rfl) ?_
                  clear hf; clear a; intro a hf
                  exact fq_ok (d := 72) rfl hf (hs.ex fun _ h => h) hf.1
                · intro a wf hX hf hd
                  have e_70 : a.tmps.getD 70 undef = .bool short := hd 1 70 (by kernel_rfl) (by kernel_rfl)
                  rw [hb6] at e_70
                  replace hf : Fr 109 [(70, .bool true), (3, .bool short), (4, .pointer (some ⟨w.heap.size, 0, none⟩)), (13, .slice ao7 s2.length cp7), (14, .slice ao9 z3.1.length cp9), (15, .int .i64 z3.2), (17, .int .i64 z4.2)] a := ⟨e_70, hf⟩; clear e_70
                  clear hd
                  have hs : Sep wf (star F11 w12 wf) noR wf (star F11 w12 wf) [.ro (tI .u8) (.slice ao7 s2.length cp7) s2, .cel w.heap.size 0 (List.map (Value.int .u8) b)] := hs0.fstart hX [2, 3] rfl rfl
                  refine st tbOk 1 [73] (L' := [(73, undef)]) hf (by kernel_rfl) ?_
                  clear hf; clear a; intro a hf
                  exact fq_ok (d := 73) rfl hf (hs.ex fun _ h => h) hf.1
                · intro a wf hX hf hd
                  have e_73 : a.tmps.getD 73 undef = undef := hd 4 73 (by kernel_rfl) (by kernel_rfl)
                  have e_70 : a.tmps.getD 70 undef = .bool short := hd 1 70 (by kernel_rfl) (by kernel_rfl)
                  rw [hb6] at e_70
                  replace hf : Fr 109 [(73, undef), (70, .bool true), (3, .bool short), (4, .pointer (some ⟨w.heap.size, 0, none⟩)), (13, .slice ao7 s2.length cp7), (14, .slice ao9 z3.1.length cp9), (15, .int .i64 z3.2), (17, .int .i64 z4.2)] a := ⟨e_73, e_70, hf⟩; clear e_73 e_70
                  clear hd
                  have hs : Sep wf (star F11 w12 wf) noR wf (star F11 w12 wf) [.ro (tI .u8) (.slice ao7 s2.length cp7) s2, .cel w.heap.size 0 (List.map (Value.int .u8) b)] := hs0.fstart hX [2, 3] rfl rfl
                  refine st tbOk 1 [74] (L' := [(74, undef)]) hf (by kernel_rfl) ?_
                  clear hf; clear a; intro a hf
                  exact fq_ok (d := 74) rfl hf (hs.ex fun _ h => h) hf.1
                · intro a wf hX hf hd
                  have e_72 : a.tmps.getD 72 undef = undef := hd 3 72 (by kernel_rfl) (by kernel_rfl)
                  have e_74 : a.tmps.getD 74 undef = undef := hd 5 74 (by kernel_rfl) (by kernel_rfl)
                  have e_70 : a.tmps.getD 70 undef = .bool short := hd 1 70 (by kernel_rfl) (by kernel_rfl)
                  rw [hb6] at e_70
                  replace hf : Fr 109 [(72, undef), (74, undef), (70, .bool true), (3, .bool short), (4, .pointer (some ⟨w.heap.size, 0, none⟩)), (13, .slice ao7 s2.length cp7), (14, .slice ao9 z3.1.length cp9), (15, .int .i64 z3.2), (17, .int .i64 z4.2)] a := ⟨e_72, e_74, e_70, hf⟩; clear e_72 e_74 e_70
                  clear hd
                  have hs : Sep wf (star F11 w12 wf) noR wf (star F11 w12 wf) [.ro (tI .u8) (.slice ao7 s2.length cp7) s2, .cel w.heap.size 0 (List.map (Value.int .u8) b)] := hs0.fstart hX [2, 3] rfl rfl
                  refine st tbOk 1 [75] (L' := [(75, undef)]) hf (by kernel_rfl) ?_
                  clear hf; clear a; intro a hf
                  exact fq_ok (d := 75) rfl hf (hs.ex fun _ h => h) hf.1
                · intro a wf hX hf hd
                  have e_70 : a.tmps.getD 70 undef = .bool short := hd 1 70 (by kernel_rfl) (by kernel_rfl)
                  rw [hb6] at e_70
                  have e_75 : a.tmps.getD 75 undef = undef := hd 6 75 (by kernel_rfl) (by kernel_rfl)
                  replace hf : Fr 109 [(70, .bool true), (75, undef), (3, .bool short), (4, .pointer (some ⟨w.heap.size, 0, none⟩)), (13, .slice ao7 s2.length cp7), (14, .slice ao9 z3.1.length cp9), (15, .int .i64 z3.2), (17, .int .i64 z4.2)] a := ⟨e_70, e_75, hf⟩; clear e_70 e_75
                  clear hd
                  have hs : Sep wf (star F11 w12 wf) noR wf (star F11 w12 wf) [.ro (tI .u8) (.slice ao7 s2.length cp7) s2, .cel w.heap.size 0 (List.map (Value.int .u8) b)] := hs0.fstart hX [2, 3] rfl rfl
                  refine st tbOk 1 [76] (L' := [(76, .bool true)]) hf (by kernel_rfl) ?_
                  clear hf; clear a; intro a hf
                  exact fq_ok (d := 76) rfl hf (hs.ex fun _ h => h) hf.1
              · clear hf hs; clear a; intro a w13 hx hf hd
                have hs : Sep w F R w13 (star F11 w12 w13) [.row 56 ty55 (.slice ao10 z4.1.length cp10) z4.1, .row 56 ty55 (.slice ao9 z3.1.length cp9) z3.1, .ro (tI .u8) (.slice ao7 s2.length cp7) s2, .cel w.heap.size 0 (List.map (Value.int .u8) b)] := hs0.starX hx
                have e_76 : a.tmps.getD 76 undef = .bool true := hd 7 76 (by kernel_rfl) (by kernel_rfl)
                clear hd hx
                clear hs0
                replace hf : Fr 109 [(76, .bool true), (3, .bool short), (4, .pointer (some ⟨w.heap.size, 0, none⟩)), (13, .slice ao7 s2.length cp7), (14, .slice ao9 z3.1.length cp9), (15, .int .i64 z3.2), (17, .int .i64 z4.2)] a := ⟨e_76, hf⟩
                clear e_76
                replace hs : Sep w F R w13 (star F11 w12 w13) [.row 56 ty55 (.slice ao9 z3.1.length cp9) z3.1, .ro (tI .u8) (.slice ao7 s2.length cp7) s2] := hs.sel [1, 2] rfl rfl
                replace hf := Fr.keep (ks := [13, 14, 15, 17, 76]) (L' := [(13, .slice ao7 s2.length cp7), (14, .slice ao9 z3.1.length cp9), (15, .int .i64 z3.2), (17, .int .i64 z4.2), (76, .bool true)]) hf (by kernel_rfl)
                refine wpList_nil ?_
                exact hK3 true _ _ ⟨_, hs.sel [0, 1] rfl rfl, hf.keep (ks := [13, 14, 15, 17, 76]) (by kernel_rfl)⟩ hS
            · replace hS := of_f hb6 hS
              have hT := of_bd hS; clear hS; obtain ⟨z5, hz5, hS⟩ := hT
              have hT := of_gd hS; clear hS; obtain ⟨hc8, hS⟩ := hT
              have hT := of_bd hS; clear hS; obtain ⟨z6, hz6, hS⟩ := hT
              have hs0 := hs
              refine regF 8 [fun u uw => u = .bool short,
    fun u uw => u = .bool short,
    fun u uw => u = .slice ao7 s2.length cp7,
    fun u uw => u = .int .u32 z5,
    fun u uw => ∃ (ao12 : Option Addr) (cp12 : Nat) (F' : SH), u = .slice ao12 (cutL b 0 ((b.length : Nat) : Int)).length cp12 ∧ Sep w12 F11 noR uw F' [.ro (tI .u8) (.slice ao12 (cutL b 0 ((b.length : Nat) : Int)).length cp12) (cutL b 0 ((b.length : Nat) : Int))],
    fun u uw => u = .int .u32 z6,
    fun u uw => u = .bool (z5 != z6),
    fun u uw => u = .bool (z5 != z6)] mixed (Fr.keep (ks := [3, 4, 13, 14, 15, 17]) (L' := [(3, .bool short), (4, .pointer (some ⟨w.heap.size, 0, none⟩)), (13, .slice ao7 s2.length cp7), (14, .slice ao9 z3.1.length cp9), (15, .int .i64 z3.2), (17, .int .i64 z4.2)]) hf (by kernel_rfl)) (by kernel_rfl) rfl ?_ ?_ ?_
              · exact ⟨fun _ _ _ h _ => h, fun _ _ _ h _ => h, fun _ _ _ h _ => h, fun _ _ _ h _ => h, fun _ _ _ ⟨ao12, cp12, F', e, h⟩ hx => ⟨ao12, cp12, F', e, h.ext hx⟩, fun _ _ _ h _ => h, fun _ _ _ h _ => h, fun _ _ _ h _ => h, trivial⟩
              · clear hS hf hs; clear a
                refine ⟨?_, ?_, ?_, ?_, ?_, ?_, ?_, ?_, trivial⟩
                · intro a wf hX hf hd
                  clear hd
                  have hs : Sep wf (star F11 w12 wf) noR wf (star F11 w12 wf) [.ro (tI .u8) (.slice ao7 s2.length cp7) s2, .cel w.heap.size 0 (List.map (Value.int .u8) b)] := hs0.fstart hX [2, 3] rfl rfl
                  refine st tbOk 1 [69] (L' := [(69, .bool short)]) hf (by kernel_rfl) ?_
                  clear hf; clear a; intro a hf
                  exact fq_ok (d := 69) rfl hf (hs.ex fun _ h => h) hf.1
                · intro a wf hX hf hd
                  have e_69 : a.tmps.getD 69 undef = .bool short := hd 0 69 (by kernel_rfl) (by kernel_rfl)
                  replace hf : Fr 109 [(69, .bool short), (3, .bool short), (4, .pointer (some ⟨w.heap.size, 0, none⟩)), (13, .slice ao7 s2.length cp7), (14, .slice ao9 z3.1.length cp9), (15, .int .i64 z3.2), (17, .int .i64 z4.2)] a := ⟨e_69, hf⟩; clear e_69
                  clear hd
                  have hs : Sep wf (star F11 w12 wf) noR wf (star F11 w12 wf) [.ro (tI .u8) (.slice ao7 s2.length cp7) s2, .cel w.heap.size 0 (List.map (Value.int .u8) b)] := hs0.fstart hX [2, 3] rfl rfl
                  refine st tbOk 1 [70] (L' := [(70, .bool short)]) hf (by kernel_rfl) ?_
                  clear hf; clear a; intro a hf
                  exact fq_ok (d := 70) rfl hf (hs.ex fun _ h => h) hf.1
                · intro a wf hX hf hd
                  have e_70 : a.tmps.getD 70 undef = .bool short := hd 1 70 (by kernel_rfl) (by kernel_rfl)
                  rw [hb6] at e_70
                  replace hf : Fr 109 [(70, .bool false), (3, .bool short), (4, .pointer (some ⟨w.heap.size, 0, none⟩)), (13, .slice ao7 s2.length cp7), (14, .slice ao9 z3.1.length cp9), (15, .int .i64 z3.2), (17, .int .i64 z4.2)] a := ⟨e_70, hf⟩; clear e_70
                  clear hd
                  have hs : Sep wf (star F11 w12 wf) noR wf (star F11 w12 wf) [.ro (tI .u8) (.slice ao7 s2.length cp7) s2, .cel w.heap.size 0 (List.map (Value.int .u8) b)] := hs0.fstart hX [2, 3] rfl rfl
                  refine st tbOk 1 [71] (L' := [(71, .slice ao7 s2.length cp7)]) hf (by kernel_rfl) ?_
                  clear hf; clear a; intro a hf
                  exact fq_ok (d := 71) rfl hf (hs.ex fun _ h => h) hf.1
                · intro a wf hX hf hd
                  have e_71 : a.tmps.getD 71 undef = .slice ao7 s2.length cp7 := hd 2 71 (by kernel_rfl) (by kernel_rfl)
                  have e_70 : a.tmps.getD 70 undef = .bool short := hd 1 70 (by kernel_rfl) (by kernel_rfl)
                  rw [hb6] at e_70
                  replace hf : Fr 109 [(71, .slice ao7 s2.length cp7), (70, .bool false), (3, .bool short), (4, .pointer (some ⟨w.heap.size, 0, none⟩)), (13, .slice ao7 s2.length cp7), (14, .slice ao9 z3.1.length cp9), (15, .int .i64 z3.2), (17, .int .i64 z4.2)] a := ⟨e_71, e_70, hf⟩; clear e_71 e_70
                  clear hd
                  have hs : Sep wf (star F11 w12 wf) noR wf (star F11 w12 wf) [.ro (tI .u8) (.slice ao7 s2.length cp7) s2, .cel w.heap.size 0 (List.map (Value.int .u8) b)] := hs0.fstart hX [2, 3] rfl rfl
                  refine clV ent17 (vs := [.slice ao7 s2.length cp7]) (caps := []) hf (by kernel_rfl) (by kernel_rfl) (by kernel_rfl) (by kernel_rfl) (dedup_Sum_ok (b := s2) (hs.enter [0] rfl rfl) hz5) ?_
                  clear hf; clear a; intro v w14 a hT hf; obtain ⟨F13, rfl, hr⟩ := hT
                  replace hs : Sep wf (star F11 w12 wf) noR w14 F13 [.ro (tI .u8) (.slice ao7 s2.length cp7) s2, .cel w.heap.size 0 (List.map (Value.int .u8) b)] := hs.back [0] [0, 1] rfl rfl rfl rfl hr
                  clear hr
                  exact fq_ok (d := 72) rfl hf (hs.ex fun _ h => h) hf.1
                · intro a wf hX hf hd
                  have e_70 : a.tmps.getD 70 undef = .bool short := hd 1 70 (by kernel_rfl) (by kernel_rfl)
                  rw [hb6] at e_70
                  replace hf : Fr 109 [(70, .bool false), (3, .bool short), (4, .pointer (some ⟨w.heap.size, 0, none⟩)), (13, .slice ao7 s2.length cp7), (14, .slice ao9 z3.1.length cp9), (15, .int .i64 z3.2), (17, .int .i64 z4.2)] a := ⟨e_70, hf⟩; clear e_70
                  clear hd
                  have hs : Sep wf (star F11 w12 wf) noR wf (star F11 w12 wf) [.ro (tI .u8) (.slice ao7 s2.length cp7) s2, .cel w.heap.size 0 (List.map (Value.int .u8) b)] := hs0.fstart hX [2, 3] rfl rfl
                  refine slA tbOk u59 i5 rfl (t := (tI .u8)) (arr_RO (Value.int .u8) (fun _ _ => rfl) (hs.cel 1 rfl)) hn1 (lo := 0) (hi := ((b.length : Nat) : Int)) hc8 (.inl ⟨rfl, rfl⟩) (.inl ⟨rfl, rfl⟩) hf (by kernel_rfl) (by kernel_rfl) (by kernel_rfl) ?_
                  clear hf; clear a; intro ao11 cp11 a hr6 hf
                  replace hs : Sep wf (star F11 w12 wf) noR wf (star F11 w12 wf) [.ro (tI .u8) (.slice ao11 (cutL b 0 ((b.length : Nat) : Int)).length cp11) (cutL b 0 ((b.length : Nat) : Int)), .ro (tI .u8) (.slice ao7 s2.length cp7) s2, .cel w.heap.size 0 (List.map (Value.int .u8) b)] := hs.addRo hr6
                  exact fq_ok (d := 73) rfl hf (hs.ex fun _ h => h) ⟨ao11, cp11, _, hf.1, (hs.sel [0] rfl rfl).rebase hX⟩
                · intro a wf hX hf hd
                  obtain ⟨ao12, cp12, F_73, e_73, h_73⟩ : ∃ (ao12 : Option Addr) (cp12 : Nat) (F' : SH), a.tmps.getD 73 undef = .slice ao12 (cutL b 0 ((b.length : Nat) : Int)).length cp12 ∧ Sep w12 F11 noR wf F' [.ro (tI .u8) (.slice ao12 (cutL b 0 ((b.length : Nat) : Int)).length cp12) (cutL b 0 ((b.length : Nat) : Int))] := hd 4 73 (by kernel_rfl) (by kernel_rfl)
                  have e_70 : a.tmps.getD 70 undef = .bool short := hd 1 70 (by kernel_rfl) (by kernel_rfl)
                  rw [hb6] at e_70
                  replace hf : Fr 109 [(73, .slice ao12 (cutL b 0 ((b.length : Nat) : Int)).length cp12), (70, .bool false), (3, .bool short), (4, .pointer (some ⟨w.heap.size, 0, none⟩)), (13, .slice ao7 s2.length cp7), (14, .slice ao9 z3.1.length cp9), (15, .int .i64 z3.2), (17, .int .i64 z4.2)] a := ⟨e_73, e_70, hf⟩; clear e_73 e_70
                  clear hd
                  have hs : Sep wf (star F11 w12 wf) noR wf (star F11 w12 wf) [.ro (tI .u8) (.slice ao7 s2.length cp7) s2, .cel w.heap.size 0 (List.map (Value.int .u8) b)] := hs0.fstart hX [2, 3] rfl rfl
                  replace hs : Sep wf (star F11 w12 wf) noR wf (star F11 w12 wf) [.ro (tI .u8) (.slice ao12 (cutL b 0 ((b.length : Nat) : Int)).length cp12) (cutL b 0 ((b.length : Nat) : Int)), .ro (tI .u8) (.slice ao7 s2.length cp7) s2, .cel w.heap.size 0 (List.map (Value.int .u8) b)] := hs.addStar h_73 0 rfl rfl
                  clear h_73
                  refine clV ent17 (vs := [.slice ao12 (cutL b 0 ((b.length : Nat) : Int)).length cp12]) (caps := []) hf (by kernel_rfl) (by kernel_rfl) (by kernel_rfl) (by kernel_rfl) (dedup_Sum_ok (b := (cutL b 0 ((b.length : Nat) : Int))) (hs.enter [0] rfl rfl) hz6) ?_
                  clear hf; clear a; intro v w15 a hT hf; obtain ⟨F14, rfl, hr⟩ := hT
                  replace hs : Sep wf (star F11 w12 wf) noR w15 F14 [.ro (tI .u8) (.slice ao12 (cutL b 0 ((b.length : Nat) : Int)).length cp12) (cutL b 0 ((b.length : Nat) : Int)), .ro (tI .u8) (.slice ao7 s2.length cp7) s2, .cel w.heap.size 0 (List.map (Value.int .u8) b)] := hs.back [0] [0, 1, 2] rfl rfl rfl rfl hr
                  clear hr
                  exact fq_ok (d := 74) rfl hf (hs.ex fun _ h => h) hf.1
                · intro a wf hX hf hd
                  have e_72 : a.tmps.getD 72 undef = .int .u32 z5 := hd 3 72 (by kernel_rfl) (by kernel_rfl)
                  have e_74 : a.tmps.getD 74 undef = .int .u32 z6 := hd 5 74 (by kernel_rfl) (by kernel_rfl)
                  have e_70 : a.tmps.getD 70 undef = .bool short := hd 1 70 (by kernel_rfl) (by kernel_rfl)
                  rw [hb6] at e_70
                  replace hf : Fr 109 [(72, .int .u32 z5), (74, .int .u32 z6), (70, .bool false), (3, .bool short), (4, .pointer (some ⟨w.heap.size, 0, none⟩)), (13, .slice ao7 s2.length cp7), (14, .slice ao9 z3.1.length cp9), (15, .int .i64 z3.2), (17, .int .i64 z4.2)] a := ⟨e_72, e_74, e_70, hf⟩; clear e_72 e_74 e_70
                  clear hd
                  have hs : Sep wf (star F11 w12 wf) noR wf (star F11 w12 wf) [.ro (tI .u8) (.slice ao7 s2.length cp7) s2, .cel w.heap.size 0 (List.map (Value.int .u8) b)] := hs0.fstart hX [2, 3] rfl rfl
                  refine st tbOk 1 [75] (L' := [(75, .bool (z5 != z6))]) hf (by kernel_rfl) ?_
                  clear hf; clear a; intro a hf
                  exact fq_ok (d := 75) rfl hf (hs.ex fun _ h => h) hf.1
                · intro a wf hX hf hd
                  have e_70 : a.tmps.getD 70 undef = .bool short := hd 1 70 (by kernel_rfl) (by kernel_rfl)
                  rw [hb6] at e_70
                  have e_75 : a.tmps.getD 75 undef = .bool (z5 != z6) := hd 6 75 (by kernel_rfl) (by kernel_rfl)
                  replace hf : Fr 109 [(70, .bool false), (75, .bool (z5 != z6)), (3, .bool short), (4, .pointer (some ⟨w.heap.size, 0, none⟩)), (13, .slice ao7 s2.length cp7), (14, .slice ao9 z3.1.length cp9), (15, .int .i64 z3.2), (17, .int .i64 z4.2)] a := ⟨e_70, e_75, hf⟩; clear e_70 e_75
                  clear hd
                  have hs : Sep wf (star F11 w12 wf) noR wf (star F11 w12 wf) [.ro (tI .u8) (.slice ao7 s2.length cp7) s2, .cel w.heap.size 0 (List.map (Value.int .u8) b)] := hs0.fstart hX [2, 3] rfl rfl
                  refine st tbOk 1 [76] (L' := [(76, .bool (z5 != z6))]) hf (by kernel_rfl) ?_
                  clear hf; clear a; intro a hf
                  exact fq_ok (d := 76) rfl hf (hs.ex fun _ h => h) hf.1
              · clear hf hs; clear a; intro a w16 hx hf hd
                have hs : Sep w F R w16 (star F11 w12 w16) [.row 56 ty55 (.slice ao10 z4.1.length cp10) z4.1, .row 56 ty55 (.slice ao9 z3.1.length cp9) z3.1, .ro (tI .u8) (.slice ao7 s2.length cp7) s2, .cel w.heap.size 0 (List.map (Value.int .u8) b)] := hs0.starX hx
                have e_76 : a.tmps.getD 76 undef = .bool (z5 != z6) := hd 7 76 (by kernel_rfl) (by kernel_rfl)
                clear hd hx
                clear hs0
                replace hf : Fr 109 [(76, .bool (z5 != z6)), (3, .bool short), (4, .pointer (some ⟨w.heap.size, 0, none⟩)), (13, .slice ao7 s2.length cp7), (14, .slice ao9 z3.1.length cp9), (15, .int .i64 z3.2), (17, .int .i64 z4.2)] a := ⟨e_76, hf⟩
                clear e_76
                replace hs : Sep w F R w16 (star F11 w12 w16) [.row 56 ty55 (.slice ao9 z3.1.length cp9) z3.1, .ro (tI .u8) (.slice ao7 s2.length cp7) s2] := hs.sel [1, 2] rfl rfl
                replace hf := Fr.keep (ks := [13, 14, 15, 17, 76]) (L' := [(13, .slice ao7 s2.length cp7), (14, .slice ao9 z3.1.length cp9), (15, .int .i64 z3.2), (17, .int .i64 z4.2), (76, .bool (z5 != z6))]) hf (by kernel_rfl)
                refine wpList_nil ?_
                exact hK3 (z5 != z6) _ _ ⟨_, hs.sel [0, 1] rfl rfl, hf.keep (ks := [13, 14, 15, 17, 76]) (by kernel_rfl)⟩ hS
        · clear hS; intro KK2 k2 hK2 hS
          refine cnd (b := short) hf (by kernel_rfl) (fun hb5 => ?_) (fun hb5 => ?_)
          · replace hS := of_t hb5 hS
            refine reg ?_
            refine st tbOk 1 [3, 4, 11, 54] (L' := [(3, .bool short), (4, .pointer (some ⟨w.heap.size, 0, none⟩)), (11, .slice ao3 z2.1.length cp3), (54, .slice ao6 ((([] : List Int) ++ (cutL b 0 ((b.length : Nat) : Int))).set (Int.toNat p_at) p_c).length cp6)]) hf (by kernel_rfl) ?_
            clear hf; clear a; intro a hf
            have hT := of_gd hS; clear hS; obtain ⟨hc7, hS⟩ := hT
            obtain ⟨F6, _, hs⟩ := hs.frz 0 rfl
            replace hs : Sep w F R w8 F6 [.ro (tI .u8) (.slice ao6 ((([] : List Int) ++ (cutL b 0 ((b.length : Nat) : Int))).set (Int.toNat p_at) p_c).length cp6) ((([] : List Int) ++ (cutL b 0 ((b.length : Nat) : Int))).set (Int.toNat p_at) p_c), .row 58 ty57 (.slice ao3 z2.1.length cp3) z2.1, .cel w.heap.size 0 (List.map (Value.int .u8) b)] := hs
            refine sl tbOk u22 i5 rfl (hs.ro 0 rfl) (lo := 0) (hi := 255) (m := 0) hc7 (.inl ⟨rfl, rfl⟩) (.inr ⟨_, .i64, rfl, by kernel_rfl⟩) (.inl rfl) hf (by kernel_rfl) (by kernel_rfl) (by kernel_rfl) ?_
            clear hf; clear a; intro ao8 cp8 a hr5 hf
            replace hs : Sep w F R w8 F6 [.ro (tI .u8) (.slice ao8 (cutL ((([] : List Int) ++ (cutL b 0 ((b.length : Nat) : Int))).set (Int.toNat p_at) p_c) 0 255).length cp8) (cutL ((([] : List Int) ++ (cutL b 0 ((b.length : Nat) : Int))).set (Int.toNat p_at) p_c) 0 255), .ro (tI .u8) (.slice ao6 ((([] : List Int) ++ (cutL b 0 ((b.length : Nat) : Int))).set (Int.toNat p_at) p_c).length cp6) ((([] : List Int) ++ (cutL b 0 ((b.length : Nat) : Int))).set (Int.toNat p_at) p_c), .row 58 ty57 (.slice ao3 z2.1.length cp3) z2.1, .cel w.heap.size 0 (List.map (Value.int .u8) b)] := hs.addRo hr5
            replace hs : Sep w F R w8 F6 [.ro (tI .u8) (.slice ao8 (cutL ((([] : List Int) ++ (cutL b 0 ((b.length : Nat) : Int))).set (Int.toNat p_at) p_c) 0 255).length cp8) (cutL ((([] : List Int) ++ (cutL b 0 ((b.length : Nat) : Int))).set (Int.toNat p_at) p_c) 0 255), .row 58 ty57 (.slice ao3 z2.1.length cp3) z2.1, .cel w.heap.size 0 (List.map (Value.int .u8) b)] := hs.sel [0, 2, 3] rfl rfl
            replace hf := Fr.keep (ks := [3, 4, 11, 55]) (L' := [(3, .bool short), (4, .pointer (some ⟨w.heap.size, 0, none⟩)), (11, .slice ao3 z2.1.length cp3), (55, .slice ao8 (cutL ((([] : List Int) ++ (cutL b 0 ((b.length : Nat) : Int))).set (Int.toNat p_at) p_c) 0 255).length cp8)]) hf (by kernel_rfl)
            refine st tbOk 1 [3, 4, 11, 13] (L' := [(3, .bool short), (4, .pointer (some ⟨w.heap.size, 0, none⟩)), (11, .slice ao3 z2.1.length cp3), (13, .slice ao8 (cutL ((([] : List Int) ++ (cutL b 0 ((b.length : Nat) : Int))).set (Int.toNat p_at) p_c) 0 255).length cp8)]) hf (by kernel_rfl) ?_
            clear hf; clear a; intro a hf
            refine wpList_nil ?_
            exact hK2 (cutL ((([] : List Int) ++ (cutL b 0 ((b.length : Nat) : Int))).set (Int.toNat p_at) p_c) 0 255) _ _ ⟨ao8, cp8, _, hs.sel [0, 1, 2] rfl rfl, hf.keep (ks := [3, 4, 11, 13]) (by kernel_rfl)⟩ hS
          · replace hS := of_f hb5 hS
            refine wp_skip ?_
            obtain ⟨F7, _, hs⟩ := hs.frz 0 rfl
            replace hs : Sep w F R w8 F7 [.ro (tI .u8) (.slice ao6 ((([] : List Int) ++ (cutL b 0 ((b.length : Nat) : Int))).set (Int.toNat p_at) p_c).length cp6) ((([] : List Int) ++ (cutL b 0 ((b.length : Nat) : Int))).set (Int.toNat p_at) p_c), .row 58 ty57 (.slice ao3 z2.1.length cp3) z2.1, .cel w.heap.size 0 (List.map (Value.int .u8) b)] := hs
            exact hK2 ((([] : List Int) ++ (cutL b 0 ((b.length : Nat) : Int))).set (Int.toNat p_at) p_c) _ _ ⟨ao6, cp6, _, hs.sel [0, 1, 2] rfl rfl, hf.keep (ks := [3, 4, 11, 13]) (by kernel_rfl)⟩ hS
    · clear hS; intro KK1 k1 hK1 hS
      refine reg ?_
      refine st tbOk 4 [1, 2, 3, 4, 11, 12, 35] (L' := [(1, .int .u8 p_at), (2, .int .u8 p_c), (3, .bool short), (4, .pointer (some ⟨w.heap.size, 0, none⟩)), (11, .slice ao3 z2.1.length cp3), (12, .slice ao4 z2.2.length cp4), (35, .bool (((z2.1.length : Nat) : Int) != 1))]) hf (by kernel_rfl) ?_
      clear hf; clear a; intro a hf
      rcases Bool.eq_false_or_eq_true (((z2.1.length : Nat) : Int) != 1) with hb2 | hb2
      · replace hS := of_t hb2 hS
        replace hf := Fr.cast (L' := [(1, .int .u8 p_at), (2, .int .u8 p_c), (3, .bool short), (4, .pointer (some ⟨w.heap.size, 0, none⟩)), (11, .slice ao3 z2.1.length cp3), (12, .slice ao4 z2.2.length cp4), (35, .bool true)]) hf (by rw [hb2])
        refine st tbOk 10 [1, 2, 3, 4, 11, 45] (L' := [(1, .int .u8 p_at), (2, .int .u8 p_c), (3, .bool short), (4, .pointer (some ⟨w.heap.size, 0, none⟩)), (11, .slice ao3 z2.1.length cp3), (45, .bool true)]) hf (by kernel_rfl) ?_
        clear hf; clear a; intro a hf
        refine wpList_nil ?_
        exact hK1 true _ _ ⟨_, hs.sel [0, 2] rfl rfl, hf.keep (ks := [1, 2, 3, 4, 11, 45]) (by kernel_rfl)⟩ hS
      · replace hS := of_f hb2 hS
        replace hf := Fr.cast (L' := [(1, .int .u8 p_at), (2, .int .u8 p_c), (3, .bool short), (4, .pointer (some ⟨w.heap.size, 0, none⟩)), (11, .slice ao3 z2.1.length cp3), (12, .slice ao4 z2.2.length cp4), (35, .bool false)]) hf (by rw [hb2])
        refine st tbOk 5 [1, 2, 3, 4, 11, 40] (L' := [(1, .int .u8 p_at), (2, .int .u8 p_c), (3, .bool short), (4, .pointer (some ⟨w.heap.size, 0, none⟩)), (11, .slice ao3 z2.1.length cp3), (40, .bool (((z2.2.length : Nat) : Int) != 0))]) hf (by kernel_rfl) ?_
        clear hf; clear a; intro a hf
        rcases Bool.eq_false_or_eq_true (((z2.2.length : Nat) : Int) != 0) with hb3 | hb3
        · replace hS := of_t hb3 hS
          replace hf := Fr.cast (L' := [(1, .int .u8 p_at), (2, .int .u8 p_c), (3, .bool short), (4, .pointer (some ⟨w.heap.size, 0, none⟩)), (11, .slice ao3 z2.1.length cp3), (40, .bool true)]) hf (by rw [hb3])
          refine st tbOk 5 [1, 2, 3, 4, 11, 45] (L' := [(1, .int .u8 p_at), (2, .int .u8 p_c), (3, .bool short), (4, .pointer (some ⟨w.heap.size, 0, none⟩)), (11, .slice ao3 z2.1.length cp3), (45, .bool true)]) hf (by kernel_rfl) ?_
          clear hf; clear a; intro a hf
          refine wpList_nil ?_
          exact hK1 true _ _ ⟨_, hs.sel [0, 2] rfl rfl, hf.keep (ks := [1, 2, 3, 4, 11, 45]) (by kernel_rfl)⟩ hS
        · replace hS := of_f hb3 hS
          replace hf := Fr.cast (L' := [(1, .int .u8 p_at), (2, .int .u8 p_c), (3, .bool short), (4, .pointer (some ⟨w.heap.size, 0, none⟩)), (11, .slice ao3 z2.1.length cp3), (40, .bool false)]) hf (by rw [hb3])
          refine st tbOk 1 [1, 2, 3, 4, 11, 40, 41] (L' := [(1, .int .u8 p_at), (2, .int .u8 p_c), (3, .bool short), (4, .pointer (some ⟨w.heap.size, 0, none⟩)), (11, .slice ao3 z2.1.length cp3), (40, .bool false), (41, .slice ao3 z2.1.length cp3)]) hf (by kernel_rfl) ?_
          clear hf; clear a; intro a hf
          have hT := of_gd hS; clear hS; obtain ⟨hc3, hS⟩ := hT
          refine ixR tbOk u36 i58 rfl rfl (hs.raW 0 rfl) (k := .i64) (n := 0) hc3 hf (by kernel_rfl) (by kernel_rfl) (by kernel_rfl) (by kernel_rfl) ?_
          clear hf; clear a; intro pb1 po1 c1 a hp1 hr3 hf
          obtain rfl : c1 = [.int .u64 ((gt z2.1 0).1), .int .i64 ((gt z2.1 0).2.1), .bool ((gt z2.1 0).2.2.1), strV ((gt z2.1 0).2.2.2.1), .int .u64 ((gt z2.1 0).2.2.2.2.1), .bool ((gt z2.1 0).2.2.2.2.2.1), .int .u32 ((gt z2.1 0).2.2.2.2.2.2)] := hr3
          replace hs : Sep w F R w5 F2 [.row 58 ty57 (.slice ao3 z2.1.length cp3) z2.1, .cel w.heap.size 0 (List.map (Value.int .u8) b)] := hs.sel [0, 2] rfl rfl
          replace hf := Fr.keep (ks := [1, 2, 3, 4, 11, 40, 42]) (L' := [(1, .int .u8 p_at), (2, .int .u8 p_c), (3, .bool short), (4, .pointer (some ⟨w.heap.size, 0, none⟩)), (11, .slice ao3 z2.1.length cp3), (40, .bool false), (42, .pointer (some ⟨pb1, po1, none⟩))]) hf (by kernel_rfl)
          refine st tbOk 1 [1, 2, 3, 4, 11, 40, 43] (L' := [(1, .int .u8 p_at), (2, .int .u8 p_c), (3, .bool short), (4, .pointer (some ⟨w.heap.size, 0, none⟩)), (11, .slice ao3 z2.1.length cp3), (40, .bool false), (43, .pointer (some ⟨pb1, po1 + 5, none⟩))]) hf (by kernel_rfl) ?_
          clear hf; clear a; intro a hf
          refine ldC tbOk (T := 4) hp1 (LeH.refl _) 5 (.bool ((gt z2.1 0).2.2.2.2.2.1)) hf (by kernel_rfl) (by kernel_rfl) (by kernel_rfl) (by kernel_rfl) ?_
          clear hf; clear a; intro a hf
          replace hf := Fr.keep (ks := [1, 2, 3, 4, 11, 40, 44]) (L' := [(1, .int .u8 p_at), (2, .int .u8 p_c), (3, .bool short), (4, .pointer (some ⟨w.heap.size, 0, none⟩)), (11, .slice ao3 z2.1.length cp3), (40, .bool false), (44, .bool ((gt z2.1 0).2.2.2.2.2.1))]) hf (by kernel_rfl)
          refine st tbOk 1 [1, 2, 3, 4, 11, 45] (L' := [(1, .int .u8 p_at), (2, .int .u8 p_c), (3, .bool short), (4, .pointer (some ⟨w.heap.size, 0, none⟩)), (11, .slice ao3 z2.1.length cp3), (45, .bool ((gt z2.1 0).2.2.2.2.2.1))]) hf (by kernel_rfl) ?_
          clear hf; clear a; intro a hf
          refine wpList_nil ?_
          exact hK1 ((gt z2.1 0).2.2.2.2.2.1) _ _ ⟨_, hs.sel [0, 1] rfl rfl, hf.keep (ks := [1, 2, 3, 4, 11, 45]) (by kernel_rfl)⟩ hS

end Dm
