/-
  The walks: a call of each Go function gives what its shallow form gives, where that form gives something; printed by a program of this repo. No condition.
-/
import Derived.Test.YtmocofbneblccaaWT
import Derived.Test.YtmocofbneblccaaW0
import Derived.Test.YtmocofbneblccaaW1
namespace Dm
open Go Go.RowKit Go.Proofs

set_option maxHeartbeats 4000000 in
theorem octets_Cut_ok {w : World} {F : SH} {b : List Int} {p_at : Int} {size : Int} {ao1 : Option Addr} {cp1 : Nat} (hs : Sep w F (blks [.ro (tI .u8) (.slice ao1 b.length cp1) b]) w F [.ro (tI .u8) (.slice ao1 b.length cp1) b]) {r : (List Int) × Int} (hS : octets_Cut b p_at size = some r) :
    Calls Try.prog 37 [.slice ao1 b.length cp1, .int .u64 p_at, .int .u64 size].toArray w (Gives (fun u w' => ∃ (ao4 : Option Addr) (cp4 : Nat) (F' : SH), u = .tuple #[.slice ao4 r.1.length cp4, .int .i64 r.2] ∧ Sep w F (blks [.ro (tI .u8) (.slice ao1 b.length cp1) b]) w' F' [.row 5 (tI .u8) (.slice ao4 r.1.length cp4) r.1])) := by
  generalize (blks [.ro (tI .u8) (.slice ao1 b.length cp1) b]) = R at hs ⊢
  unfold octets_Cut at hS
  refine fn_ok (vs := [.slice ao1 b.length cp1, .int .u64 p_at, .int .u64 size]) Try.func37 rfl 21 Try.ntmps37 (Nat.le_of_ble_eq_true rfl) ?_
  intro a hf
  replace hf := Fr.cast (L' := [(0, .slice ao1 b.length cp1), (1, .int .u64 p_at), (2, .int .u64 size)]) hf (by kernel_rfl)
  refine sq ?_
  refine reg ?_
  refine st tbOk 2 [0, 1, 2] (L' := [(0, .slice ao1 b.length cp1), (1, .int .u64 p_at), (2, .int .u64 size)]) hf (by kernel_rfl) ?_
  clear hf; clear a; intro a hf
  refine wpList_nil ?_
  refine sq ?_
  refine sq ?_
  refine reg ?_
  refine st tbOk 4 [0, 1, 2, 9, 10, 11] (L' := [(0, .slice ao1 b.length cp1), (1, .int .u64 p_at), (2, .int .u64 size), (9, .int .i64 ((b.length : Nat) : Int)), (10, .int .u64 p_at), (11, .int .u64 size)]) hf (by kernel_rfl) ?_
  clear hf; clear a; intro a hf
  have hT := of_bd hS; clear hS; obtain ⟨z1, hz1, hS⟩ := hT
  refine clV ent47 (vs := [.int .i64 ((b.length : Nat) : Int), .int .u64 p_at, .int .u64 size]) (caps := []) hf (by kernel_rfl) (by kernel_rfl) (by kernel_rfl) (by kernel_rfl) (octets_has_ok (p_many := ((b.length : Nat) : Int)) (p_at := p_at) (size := size) (hs.enter [] rfl rfl) hz1) ?_
  clear hf; clear a; intro v w1 a hT hf; obtain ⟨F1, rfl, hr⟩ := hT
  replace hs : Sep w F R w1 F1 [.ro (tI .u8) (.slice ao1 b.length cp1) b] := hs.back [] [0] rfl rfl rfl rfl hr
  clear hr
  replace hf := Fr.keep (ks := [0, 1, 2, 12]) (L' := [(0, .slice ao1 b.length cp1), (1, .int .u64 p_at), (2, .int .u64 size), (12, .bool z1)]) hf (by kernel_rfl)
  refine st tbOk 1 [0, 1, 2, 13] (L' := [(0, .slice ao1 b.length cp1), (1, .int .u64 p_at), (2, .int .u64 size), (13, .bool (!z1))]) hf (by kernel_rfl) ?_
  clear hf; clear a; intro a hf
  refine wpList_nil ?_
  refine cnd (b := !z1) hf (by kernel_rfl) (fun hb1 => ?_) (fun hb1 => ?_)
  · replace hS := of_t hb1 hS
    refine sq ?_
    refine reg ?_
    refine st tbOk 2 [6, 7] (L' := [(6, .slice none 0 0), (7, .int .i64 10)]) hf (by kernel_rfl) ?_
    clear hf; clear a; intro a hf
    refine wpList_nil ?_
    have hr := Option.some.inj hS; subst hr
    refine wp_ret ?_
    replace hs : Sep w F R w1 F1 [.row 5 (tI .u8) (.slice none 0 0) ([] : List Int), .ro (tI .u8) (.slice ao1 b.length cp1) b] := hs.addNil 5 (tI .u8)
    exact ret_ok hf (vs := [.slice none 0 0, .int .i64 10]) (by kernel_rfl) ⟨none, 0, _, rfl, hs.sel [0] rfl rfl⟩
  · replace hS := of_f hb1 hS
    refine wp_skip ?_
    refine sq ?_
    refine reg ?_
    refine st tbOk 5 [14, 15, 18] (L' := [(14, .slice ao1 b.length cp1), (15, .int .u64 p_at), (18, .int .u64 (IntKind.u64.wrap (p_at + size)))]) hf (by kernel_rfl) ?_
    clear hf; clear a; intro a hf
    have hT := of_gd hS; clear hS; obtain ⟨hc1, hS⟩ := hT
    refine sl tbOk u22 i5 rfl (hs.ro 0 rfl) (lo := p_at) (hi := IntKind.u64.wrap (p_at + size)) (m := 0) hc1 (.inr ⟨_, .u64, rfl, by kernel_rfl⟩) (.inr ⟨_, .u64, rfl, by kernel_rfl⟩) (.inl rfl) hf (by kernel_rfl) (by kernel_rfl) (by kernel_rfl) ?_
    clear hf; clear a; intro ao2 cp2 a hr1 hf
    replace hs : Sep w F R w1 F1 [.ro (tI .u8) (.slice ao2 (cutL b p_at (IntKind.u64.wrap (p_at + size))).length cp2) (cutL b p_at (IntKind.u64.wrap (p_at + size))), .ro (tI .u8) (.slice ao1 b.length cp1) b] := hs.addRo hr1
    replace hs : Sep w F R w1 F1 [.ro (tI .u8) (.slice ao2 (cutL b p_at (IntKind.u64.wrap (p_at + size))).length cp2) (cutL b p_at (IntKind.u64.wrap (p_at + size)))] := hs.sel [0] rfl rfl
    replace hf := Fr.keep (ks := [19]) (L' := [(19, .slice ao2 (cutL b p_at (IntKind.u64.wrap (p_at + size))).length cp2)]) hf (by kernel_rfl)
    have hT := of_bd hS; clear hS; obtain ⟨z2, hz2, hS⟩ := hT
    refine clV ent40 (vs := [.slice ao2 (cutL b p_at (IntKind.u64.wrap (p_at + size))).length cp2]) (caps := []) hf (by kernel_rfl) (by kernel_rfl) (by kernel_rfl) (by kernel_rfl) (slices_Clone_byte_byte_ok (s := (cutL b p_at (IntKind.u64.wrap (p_at + size)))) (hs.enter [0] rfl rfl) hz2) ?_
    clear hf; clear a; intro v w2 a hT hf; obtain ⟨ao3, cp3, F2, rfl, hr⟩ := hT
    replace hs : Sep w F R w2 F2 [.row 5 (tI .u8) (.slice ao3 z2.length cp3) z2, .ro (tI .u8) (.slice ao2 (cutL b p_at (IntKind.u64.wrap (p_at + size))).length cp2) (cutL b p_at (IntKind.u64.wrap (p_at + size)))] := hs.back [0] [0] rfl rfl rfl rfl hr
    clear hr
    replace hs : Sep w F R w2 F2 [.row 5 (tI .u8) (.slice ao3 z2.length cp3) z2] := hs.sel [0] rfl rfl
    replace hf := Fr.keep (ks := [20]) (L' := [(20, .slice ao3 z2.length cp3)]) hf (by kernel_rfl)
    refine st tbOk 2 [6, 7] (L' := [(6, .slice ao3 z2.length cp3), (7, .int .i64 0)]) hf (by kernel_rfl) ?_
    clear hf; clear a; intro a hf
    refine wpList_nil ?_
    have hr := Option.some.inj hS; subst hr
    refine wp_ret ?_
    exact ret_ok hf (vs := [.slice ao3 z2.length cp3, .int .i64 0]) (by kernel_rfl) ⟨ao3, cp3, _, rfl, hs.sel [0] rfl rfl⟩

set_option maxHeartbeats 4000000 in
theorem dedup_Origin_ok {w : World} {F : SH} {file : List UInt8} {off : Int} {files : List ((List UInt8) × (List Int))} {ao1 : Option Addr} {cp1 : Nat} (hs : Sep w F (blks [.ro ty60 (.slice ao1 files.length cp1) files]) w F [.ro ty60 (.slice ao1 files.length cp1) files]) {r : (List Int) × Bool} (hS : dedup_Origin file off files = some r) :
    Calls Try.prog 15 [strV file, .int .u64 off, .slice ao1 files.length cp1].toArray w (Gives (fun u w' => ∃ (ao4 : Option Addr) (cp4 : Nat) (F' : SH), u = .tuple #[.slice ao4 r.1.length cp4, .bool r.2] ∧ Sep w F (blks [.ro ty60 (.slice ao1 files.length cp1) files]) w' F' [.row 5 (tI .u8) (.slice ao4 r.1.length cp4) r.1])) := by
  generalize (blks [.ro ty60 (.slice ao1 files.length cp1) files]) = R at hs ⊢
  unfold dedup_Origin at hS
  refine fn_ok (vs := [strV file, .int .u64 off, .slice ao1 files.length cp1]) Try.func15 rfl 33 Try.ntmps15 (Nat.le_of_ble_eq_true rfl) ?_
  intro a hf
  replace hf := Fr.cast (L' := [(0, strV file), (1, .int .u64 off), (2, .slice ao1 files.length cp1)]) hf (by kernel_rfl)
  refine sq ?_
  refine reg ?_
  refine bx (T := 9) [strV file] (v := strV file) rfl (by kernel_rfl) hf (by kernel_rfl) (by kernel_rfl) (by kernel_rfl) ?_
  clear hf; clear a; intro w1 a hb hx _ hf
  replace hs : Sep w F R w1 F [.box w.heap.size 9 [strV file], .ro ty60 (.slice ao1 files.length cp1) files] := hs.newBox hb hx
  clear hb hx
  replace hf := Fr.keep (ks := [1, 2, 3]) (L' := [(1, .int .u64 off), (2, .slice ao1 files.length cp1), (3, .pointer (some ⟨w.heap.size, 0, none⟩))]) hf (by kernel_rfl)
  refine st tbOk 2 [1, 2, 3] (L' := [(1, .int .u64 off), (2, .slice ao1 files.length cp1), (3, .pointer (some ⟨w.heap.size, 0, none⟩))]) hf (by kernel_rfl) ?_
  clear hf; clear a; intro a hf
  refine wpList_nil ?_
  refine sq ?_
  refine reg ?_
  refine st tbOk 2 [1, 2, 3, 11, 12] (L' := [(1, .int .u64 off), (2, .slice ao1 files.length cp1), (3, .pointer (some ⟨w.heap.size, 0, none⟩)), (11, .slice ao1 files.length cp1), (12, .func (.func 36) #[] #[.pointer (some ⟨w.heap.size, 0, none⟩)])]) hf (by kernel_rfl) ?_
  clear hf; clear a; intro a hf
  have hT := of_bd hS; clear hS; obtain ⟨z1, hz1, hS⟩ := hT
  refine clV ent35 (vs := [.slice ao1 files.length cp1, .func (.func 36) #[] #[.pointer (some ⟨w.heap.size, 0, none⟩)]]) (caps := []) hf (by kernel_rfl) (by kernel_rfl) (by kernel_rfl) (by kernel_rfl) (slices_IndexFunc_api_File_api_File_Origin_1_ok (p_s := files) (q_c0 := file) (hs.lend [1, 0] [] rfl rfl rfl rfl rfl) hz1) ?_
  clear hf; clear a; intro v w2 a hT hf; obtain ⟨F1, rfl, hr⟩ := hT
  replace hs : Sep w F R w2 F [.box w.heap.size 9 [strV file], .ro ty60 (.slice ao1 files.length cp1) files] := hs.backL [1, 0] [] [0, 1] rfl rfl rfl rfl rfl rfl hr trivial
  clear hr
  replace hf := Fr.keep (ks := [1, 2, 3, 13]) (L' := [(1, .int .u64 off), (2, .slice ao1 files.length cp1), (3, .pointer (some ⟨w.heap.size, 0, none⟩)), (13, .int .i64 z1)]) hf (by kernel_rfl)
  refine st tbOk 1 [1, 2, 3, 8] (L' := [(1, .int .u64 off), (2, .slice ao1 files.length cp1), (3, .pointer (some ⟨w.heap.size, 0, none⟩)), (8, .int .i64 z1)]) hf (by kernel_rfl) ?_
  clear hf; clear a; intro a hf
  refine wpList_nil ?_
  refine sq ?_
  refine sq ?_
  refine ctj (fun (s1 : Bool) (a : Act) (w' : World) => ∃ (F2 : SH), Sep w F R w' F2 [.ro ty60 (.slice ao1 files.length cp1) files] ∧ Fr 33 [(1, .int .u64 off), (2, .slice ao1 files.length cp1), (8, .int .i64 z1), (19, .bool s1)] a) hS ?_ ?_
  · clear hS hf hs; clear a; intro s1 a w3 hM hS
    obtain ⟨F2, hs, hf⟩ := hM
    refine cnd (b := s1) hf (by kernel_rfl) (fun hb2 => ?_) (fun hb2 => ?_)
    · replace hS := of_t hb2 hS
      refine sq ?_
      refine reg ?_
      refine st tbOk 2 [6, 7] (L' := [(6, .slice none 0 0), (7, .bool false)]) hf (by kernel_rfl) ?_
      clear hf; clear a; intro a hf
      refine wpList_nil ?_
      have hr := Option.some.inj hS; subst hr
      refine wp_ret ?_
      replace hs : Sep w F R w3 F2 [.row 5 (tI .u8) (.slice none 0 0) ([] : List Int), .ro ty60 (.slice ao1 files.length cp1) files] := hs.addNil 5 (tI .u8)
      exact ret_ok hf (vs := [.slice none 0 0, .bool false]) (by kernel_rfl) ⟨none, 0, _, rfl, hs.sel [0] rfl rfl⟩
    · replace hS := of_f hb2 hS
      refine wp_skip ?_
      refine sq ?_
      refine reg ?_
      refine st tbOk 2 [1, 21, 22] (L' := [(1, .int .u64 off), (21, .slice ao1 files.length cp1), (22, .int .i64 z1)]) hf (by kernel_rfl) ?_
      clear hf; clear a; intro a hf
      have hT := of_gd hS; clear hS; obtain ⟨hc1, hS⟩ := hT
      refine ixR tbOk u24 i61 rfl rfl ((hs.ro 0 rfl).ra (LeH.refl _)) (k := .i64) (n := z1) hc1 hf (by kernel_rfl) (by kernel_rfl) (by kernel_rfl) (by kernel_rfl) ?_
      clear hf; clear a; intro pb1 po1 c1 a hp1 hr1 hf
      obtain ⟨ao2, cp2, rfl, hr2⟩ := hr1
      replace hs : Sep w F R w3 F2 [.ro (tI .u8) (.slice ao2 ((gt files z1).2).length cp2) ((gt files z1).2), .ro ty60 (.slice ao1 files.length cp1) files] := hs.addRo hr2
      replace hs : Sep w F R w3 F2 [.cel pb1 po1 [strV ((gt files z1).1), .slice ao2 ((gt files z1).2).length cp2], .ro (tI .u8) (.slice ao2 ((gt files z1).2).length cp2) ((gt files z1).2), .ro ty60 (.slice ao1 files.length cp1) files] := hs.addCel hp1
      replace hs : Sep w F R w3 F2 [.cel pb1 po1 [strV ((gt files z1).1), .slice ao2 ((gt files z1).2).length cp2], .ro (tI .u8) (.slice ao2 ((gt files z1).2).length cp2) ((gt files z1).2)] := hs.sel [0, 1] rfl rfl
      replace hf := Fr.keep (ks := [1, 23]) (L' := [(1, .int .u64 off), (23, .pointer (some ⟨pb1, po1, none⟩))]) hf (by kernel_rfl)
      refine st tbOk 1 [1, 24] (L' := [(1, .int .u64 off), (24, .pointer (some ⟨pb1, po1 + 1, none⟩))]) hf (by kernel_rfl) ?_
      clear hf; clear a; intro a hf
      refine ldC tbOk (T := 22) (hs.ccel 0 rfl) (LeH.refl _) 1 (.slice ao2 ((gt files z1).2).length cp2) hf (by kernel_rfl) (by kernel_rfl) (by kernel_rfl) (by kernel_rfl) ?_
      clear hf; clear a; intro a hf
      replace hs : Sep w F R w3 F2 [.ro (tI .u8) (.slice ao2 ((gt files z1).2).length cp2) ((gt files z1).2)] := hs.sel [1] rfl rfl
      replace hf := Fr.keep (ks := [1, 25]) (L' := [(1, .int .u64 off), (25, .slice ao2 ((gt files z1).2).length cp2)]) hf (by kernel_rfl)
      refine st tbOk 1 [25, 26] (L' := [(25, .slice ao2 ((gt files z1).2).length cp2), (26, .int .u64 off)]) hf (by kernel_rfl) ?_
      clear hf; clear a; intro a hf
      have hT := of_bd hS; clear hS; obtain ⟨z2, hz2, hS⟩ := hT
      refine clV ent37 (vs := [.slice ao2 ((gt files z1).2).length cp2, .int .u64 off, .int .u64 256]) (caps := []) hf (by kernel_rfl) (by kernel_rfl) (by kernel_rfl) (by kernel_rfl) (octets_Cut_ok (b := (gt files z1).2) (p_at := off) (size := 256) (hs.enter [0] rfl rfl) hz2) ?_
      clear hf; clear a; intro v w4 a hT hf; obtain ⟨ao3, cp3, F3, rfl, hr⟩ := hT
      replace hs : Sep w F R w4 F3 [.row 5 (tI .u8) (.slice ao3 z2.1.length cp3) z2.1, .ro (tI .u8) (.slice ao2 ((gt files z1).2).length cp2) ((gt files z1).2)] := hs.back [0] [0] rfl rfl rfl rfl hr
      clear hr
      replace hs : Sep w F R w4 F3 [.row 5 (tI .u8) (.slice ao3 z2.1.length cp3) z2.1] := hs.sel [0] rfl rfl
      replace hf := Fr.keep (ks := [27]) (L' := [(27, .tuple #[.slice ao3 z2.1.length cp3, .int .i64 z2.2])]) hf (by kernel_rfl)
      refine st tbOk 5 [9, 10] (L' := [(9, .slice ao3 z2.1.length cp3), (10, .int .i64 z2.2)]) hf (by kernel_rfl) ?_
      clear hf; clear a; intro a hf
      refine wpList_nil ?_
      refine sq ?_
      refine reg ?_
      refine st tbOk 5 [6, 7] (L' := [(6, .slice ao3 z2.1.length cp3), (7, .bool (z2.2 == 0))]) hf (by kernel_rfl) ?_
      clear hf; clear a; intro a hf
      refine wpList_nil ?_
      have hr := Option.some.inj hS; subst hr
      refine wp_ret ?_
      exact ret_ok hf (vs := [.slice ao3 z2.1.length cp3, .bool (z2.2 == 0)]) (by kernel_rfl) ⟨ao3, cp3, _, rfl, hs.sel [0] rfl rfl⟩
  · clear hS; intro KK1 k1 hK1 hS
    refine reg ?_
    refine ldC tbOk (T := 9) (hs.cbx 0 rfl) (LeH.refl _) 0 (strV file) hf (by kernel_rfl) (by kernel_rfl) (by kernel_rfl) (by kernel_rfl) ?_
    clear hf; clear a; intro a hf
    replace hs : Sep w F R w2 F [.ro ty60 (.slice ao1 files.length cp1) files] := hs.sel [1] rfl rfl
    replace hf := Fr.keep (ks := [1, 2, 8, 14]) (L' := [(1, .int .u64 off), (2, .slice ao1 files.length cp1), (8, .int .i64 z1), (14, strV file)]) hf (by kernel_rfl)
    refine st tbOk 2 [1, 2, 8, 16] (L' := [(1, .int .u64 off), (2, .slice ao1 files.length cp1), (8, .int .i64 z1), (16, .bool (file == []))]) hf (by kernel_rfl) ?_
    clear hf; clear a; intro a hf
    rcases Bool.eq_false_or_eq_true (file == []) with hb1 | hb1
    · replace hS := of_t hb1 hS
      replace hf := Fr.cast (L' := [(1, .int .u64 off), (2, .slice ao1 files.length cp1), (8, .int .i64 z1), (16, .bool true)]) hf (by rw [hb1])
      refine st tbOk 3 [1, 2, 8, 19] (L' := [(1, .int .u64 off), (2, .slice ao1 files.length cp1), (8, .int .i64 z1), (19, .bool true)]) hf (by kernel_rfl) ?_
      clear hf; clear a; intro a hf
      refine wpList_nil ?_
      exact hK1 true _ _ ⟨_, hs.sel [0] rfl rfl, hf.keep (ks := [1, 2, 8, 19]) (by kernel_rfl)⟩ hS
    · replace hS := of_f hb1 hS
      replace hf := Fr.cast (L' := [(1, .int .u64 off), (2, .slice ao1 files.length cp1), (8, .int .i64 z1), (16, .bool false)]) hf (by rw [hb1])
      refine st tbOk 3 [1, 2, 8, 19] (L' := [(1, .int .u64 off), (2, .slice ao1 files.length cp1), (8, .int .i64 z1), (19, .bool (decide (z1 < 0)))]) hf (by kernel_rfl) ?_
      clear hf; clear a; intro a hf
      refine wpList_nil ?_
      exact hK1 (decide (z1 < 0)) _ _ ⟨_, hs.sel [0] rfl rfl, hf.keep (ks := [1, 2, 8, 19]) (by kernel_rfl)⟩ hS

set_option maxHeartbeats 4000000 in
theorem slices_Equal_byte_byte_ok {w : World} {F : SH} {p_s1 : List Int} {p_s2 : List Int} {ao1 : Option Addr} {cp1 : Nat} {ao2 : Option Addr} {cp2 : Nat} (hs : Sep w F (blks [.ro (tI .u8) (.slice ao1 p_s1.length cp1) p_s1, .ro (tI .u8) (.slice ao2 p_s2.length cp2) p_s2]) w F [.ro (tI .u8) (.slice ao1 p_s1.length cp1) p_s1, .ro (tI .u8) (.slice ao2 p_s2.length cp2) p_s2]) {r : Bool} (hS : slices_Equal_byte_byte p_s1 p_s2 = some r) :
    Calls Try.prog 38 [.slice ao1 p_s1.length cp1, .slice ao2 p_s2.length cp2].toArray w (Gives (fun u w' => ∃ (F' : SH), u = .bool r ∧ Sep w F (blks [.ro (tI .u8) (.slice ao1 p_s1.length cp1) p_s1, .ro (tI .u8) (.slice ao2 p_s2.length cp2) p_s2]) w' F' [])) := by
  generalize (blks [.ro (tI .u8) (.slice ao1 p_s1.length cp1) p_s1, .ro (tI .u8) (.slice ao2 p_s2.length cp2) p_s2]) = R at hs ⊢
  unfold slices_Equal_byte_byte at hS
  refine fn_ok (vs := [.slice ao1 p_s1.length cp1, .slice ao2 p_s2.length cp2]) Try.func38 rfl 26 Try.ntmps38 (Nat.le_of_ble_eq_true rfl) ?_
  intro a hf
  replace hf := Fr.cast (L' := [(0, .slice ao1 p_s1.length cp1), (1, .slice ao2 p_s2.length cp2)]) hf (by kernel_rfl)
  refine sq ?_
  refine reg ?_
  refine st tbOk 1 [0, 1] (L' := [(0, .slice ao1 p_s1.length cp1), (1, .slice ao2 p_s2.length cp2)]) hf (by kernel_rfl) ?_
  clear hf; clear a; intro a hf
  refine wpList_nil ?_
  refine sq ?_
  refine sq ?_
  refine reg ?_
  refine st tbOk 5 [0, 1, 10] (L' := [(0, .slice ao1 p_s1.length cp1), (1, .slice ao2 p_s2.length cp2), (10, .bool (((p_s1.length : Nat) : Int) != ((p_s2.length : Nat) : Int)))]) hf (by kernel_rfl) ?_
  clear hf; clear a; intro a hf
  refine wpList_nil ?_
  refine cnd (b := ((p_s1.length : Nat) : Int) != ((p_s2.length : Nat) : Int)) hf (by kernel_rfl) (fun hb1 => ?_) (fun hb1 => ?_)
  · replace hS := of_t hb1 hS
    refine sq ?_
    refine reg ?_
    refine st tbOk 1 [4] (L' := [(4, .bool false)]) hf (by kernel_rfl) ?_
    clear hf; clear a; intro a hf
    refine wpList_nil ?_
    have hr := Option.some.inj hS; subst hr
    refine wp_ret ?_
    exact ret_ok hf (vs := [.bool false]) (by kernel_rfl) ⟨_, rfl, hs.sel [] rfl rfl⟩
  · replace hS := of_f hb1 hS
    refine wp_skip ?_
    refine sq ?_
    refine sq ?_
    refine reg ?_
    refine st tbOk 3 [0, 1, 12, 13] (L' := [(0, .slice ao1 p_s1.length cp1), (1, .slice ao2 p_s2.length cp2), (12, .int .i64 ((p_s1.length : Nat) : Int)), (13, .int .i64 0)]) hf (by kernel_rfl) ?_
    clear hf; clear a; intro a hf
    refine wpList_nil ?_
    refine ctj (fun (s1 : Unit) (a : Act) (w' : World) => ∃ (F1 : SH), Sep w F R w' F1 [] ∧ Fr 26 [] a) hS ?_ ?_
    · clear hS hf hs; clear a; intro s1 a w3 hM hS
      obtain ⟨F1, hs, hf⟩ := hM
      refine sq ?_
      refine reg ?_
      refine st tbOk 1 [4] (L' := [(4, .bool true)]) hf (by kernel_rfl) ?_
      clear hf; clear a; intro a hf
      refine wpList_nil ?_
      have hr := Option.some.inj hS; subst hr
      refine wp_ret ?_
      exact ret_ok hf (vs := [.bool true]) (by kernel_rfl) ⟨_, rfl, hs.sel [] rfl rfl⟩
    · clear hS; intro KK1 k1 hK1 hS
      refine blk ?_
      refine lp (st := 0) (fun (s2 : Int) (a : Act) (w' : World) => ∃ (F2 : SH), Sep w F R w' F2 [.ro (tI .u8) (.slice ao1 p_s1.length cp1) p_s1, .ro (tI .u8) (.slice ao2 p_s2.length cp2) p_s2] ∧ Fr 26 [(0, .slice ao1 p_s1.length cp1), (1, .slice ao2 p_s2.length cp2), (12, .int .i64 ((p_s1.length : Nat) : Int)), (13, .int .i64 s2)] a) ?_ ⟨_, hs.sel [0, 1] rfl rfl, hf.keep (ks := [0, 1, 12, 13]) (by kernel_rfl)⟩ hS
      clear hS hf hs; clear a
      intro rec1 KK2 hK2 s2 a w1 hM hS
      obtain ⟨F2, hs, hf⟩ := hM
      refine sq ?_
      refine reg ?_
      refine st tbOk 1 [0, 1, 12, 13, 14] (L' := [(0, .slice ao1 p_s1.length cp1), (1, .slice ao2 p_s2.length cp2), (12, .int .i64 ((p_s1.length : Nat) : Int)), (13, .int .i64 s2), (14, .bool (decide (s2 < ((p_s1.length : Nat) : Int))))]) hf (by kernel_rfl) ?_
      clear hf; clear a; intro a hf
      refine wpList_nil ?_
      refine sq ?_
      refine cnd (b := decide (s2 < ((p_s1.length : Nat) : Int))) hf (by kernel_rfl) (fun hb2 => ?_) (fun hb2 => ?_)
      · replace hS := of_t hb2 hS
        refine wp_skip ?_
        refine sq ?_
        refine blk ?_
        refine sq ?_
        refine reg ?_
        refine st tbOk 2 [0, 1, 5, 12, 13] (L' := [(0, .slice ao1 p_s1.length cp1), (1, .slice ao2 p_s2.length cp2), (5, .int .i64 s2), (12, .int .i64 ((p_s1.length : Nat) : Int)), (13, .int .i64 s2)]) hf (by kernel_rfl) ?_
        clear hf; clear a; intro a hf
        refine wpList_nil ?_
        refine sq ?_
        refine regQ mixed (by kernel_rfl) ?_
        refine stQ tbOk 2 [0, 1, 5, 12, 13, 16, 17] (L' := [(0, .slice ao1 p_s1.length cp1), (1, .slice ao2 p_s2.length cp2), (5, .int .i64 s2), (12, .int .i64 ((p_s1.length : Nat) : Int)), (13, .int .i64 s2), (16, .slice ao1 p_s1.length cp1), (17, .int .i64 s2)]) hf (by kernel_rfl) ?_
        clear hf; clear a; intro a hf
        have hT := of_gd hS; clear hS; obtain ⟨hc1, hS⟩ := hT
        refine ixRQ tbOk u22 i5 rfl rfl ((hs.ro 0 rfl).ra (LeH.refl _)) (k := .i64) (n := s2) hc1 hf (by kernel_rfl) (by kernel_rfl) (by kernel_rfl) (by kernel_rfl) ?_
        clear hf; clear a; intro pb1 po1 c1 a hp1 hr1 hf
        obtain rfl : c1 = [.int .u8 (gt p_s1 s2)] := hr1
        replace hs : Sep w F R w1 F2 [.cel pb1 po1 [.int .u8 (gt p_s1 s2)], .ro (tI .u8) (.slice ao1 p_s1.length cp1) p_s1, .ro (tI .u8) (.slice ao2 p_s2.length cp2) p_s2] := hs.addCel hp1
        replace hf := Fr.keep (ks := [0, 1, 5, 12, 13, 18]) (L' := [(0, .slice ao1 p_s1.length cp1), (1, .slice ao2 p_s2.length cp2), (5, .int .i64 s2), (12, .int .i64 ((p_s1.length : Nat) : Int)), (13, .int .i64 s2), (18, .pointer (some ⟨pb1, po1, none⟩))]) hf (by kernel_rfl)
        refine ldCQ tbOk (T := 5) (hs.ccel 0 rfl) (LeH.refl _) 0 (.int .u8 (gt p_s1 s2)) hf (by kernel_rfl) (by kernel_rfl) (by kernel_rfl) (by kernel_rfl) ?_
        clear hf; clear a; intro a hf
        replace hs : Sep w F R w1 F2 [.ro (tI .u8) (.slice ao1 p_s1.length cp1) p_s1, .ro (tI .u8) (.slice ao2 p_s2.length cp2) p_s2] := hs.sel [1, 2] rfl rfl
        replace hf := Fr.keep (ks := [0, 1, 5, 12, 13, 19]) (L' := [(0, .slice ao1 p_s1.length cp1), (1, .slice ao2 p_s2.length cp2), (5, .int .i64 s2), (12, .int .i64 ((p_s1.length : Nat) : Int)), (13, .int .i64 s2), (19, .int .u8 (gt p_s1 s2))]) hf (by kernel_rfl)
        refine stQ tbOk 2 [0, 1, 12, 13, 19, 20, 21] (L' := [(0, .slice ao1 p_s1.length cp1), (1, .slice ao2 p_s2.length cp2), (12, .int .i64 ((p_s1.length : Nat) : Int)), (13, .int .i64 s2), (19, .int .u8 (gt p_s1 s2)), (20, .slice ao2 p_s2.length cp2), (21, .int .i64 s2)]) hf (by kernel_rfl) ?_
        clear hf; clear a; intro a hf
        have hT := of_gd hS; clear hS; obtain ⟨hc2, hS⟩ := hT
        refine ixRQ tbOk u22 i5 rfl rfl ((hs.ro 1 rfl).ra (LeH.refl _)) (k := .i64) (n := s2) hc2 hf (by kernel_rfl) (by kernel_rfl) (by kernel_rfl) (by kernel_rfl) ?_
        clear hf; clear a; intro pb2 po2 c2 a hp2 hr2 hf
        obtain rfl : c2 = [.int .u8 (gt p_s2 s2)] := hr2
        replace hs : Sep w F R w1 F2 [.cel pb2 po2 [.int .u8 (gt p_s2 s2)], .ro (tI .u8) (.slice ao1 p_s1.length cp1) p_s1, .ro (tI .u8) (.slice ao2 p_s2.length cp2) p_s2] := hs.addCel hp2
        replace hf := Fr.keep (ks := [0, 1, 12, 13, 19, 22]) (L' := [(0, .slice ao1 p_s1.length cp1), (1, .slice ao2 p_s2.length cp2), (12, .int .i64 ((p_s1.length : Nat) : Int)), (13, .int .i64 s2), (19, .int .u8 (gt p_s1 s2)), (22, .pointer (some ⟨pb2, po2, none⟩))]) hf (by kernel_rfl)
        refine ldCQ tbOk (T := 5) (hs.ccel 0 rfl) (LeH.refl _) 0 (.int .u8 (gt p_s2 s2)) hf (by kernel_rfl) (by kernel_rfl) (by kernel_rfl) (by kernel_rfl) ?_
        clear hf; clear a; intro a hf
        replace hs : Sep w F R w1 F2 [.ro (tI .u8) (.slice ao1 p_s1.length cp1) p_s1, .ro (tI .u8) (.slice ao2 p_s2.length cp2) p_s2] := hs.sel [1, 2] rfl rfl
        replace hf := Fr.keep (ks := [0, 1, 12, 13, 19, 23]) (L' := [(0, .slice ao1 p_s1.length cp1), (1, .slice ao2 p_s2.length cp2), (12, .int .i64 ((p_s1.length : Nat) : Int)), (13, .int .i64 s2), (19, .int .u8 (gt p_s1 s2)), (23, .int .u8 (gt p_s2 s2))]) hf (by kernel_rfl)
        refine stQ tbOk 1 [0, 1, 12, 13, 24] (L' := [(0, .slice ao1 p_s1.length cp1), (1, .slice ao2 p_s2.length cp2), (12, .int .i64 ((p_s1.length : Nat) : Int)), (13, .int .i64 s2), (24, .bool ((gt p_s1 s2) != (gt p_s2 s2)))]) hf (by kernel_rfl) ?_
        clear hf; clear a; intro a hf
        refine wpQuiet_nil ?_
        intro w2 hx
        replace hs : Sep w F R w2 F2 [.ro (tI .u8) (.slice ao1 p_s1.length cp1) p_s1, .ro (tI .u8) (.slice ao2 p_s2.length cp2) p_s2] := hs.ext hx
        clear hx
        refine cnd (b := (gt p_s1 s2) != (gt p_s2 s2)) hf (by kernel_rfl) (fun hb3 => ?_) (fun hb3 => ?_)
        · replace hS := of_t hb3 hS
          refine sq ?_
          refine reg ?_
          refine st tbOk 1 [4] (L' := [(4, .bool false)]) hf (by kernel_rfl) ?_
          clear hf; clear a; intro a hf
          refine wpList_nil ?_
          have hr := Option.some.inj hS; subst hr
          refine wp_ret ?_
          exact ret_ok hf (vs := [.bool false]) (by kernel_rfl) ⟨_, rfl, hs.sel [] rfl rfl⟩
        · replace hS := of_f hb3 hS
          refine wp_skip ?_
          refine reg ?_
          refine st tbOk 2 [0, 1, 12, 13] (L' := [(0, .slice ao1 p_s1.length cp1), (1, .slice ao2 p_s2.length cp2), (12, .int .i64 ((p_s1.length : Nat) : Int)), (13, .int .i64 (IntKind.i64.wrap (s2 + 1)))]) hf (by kernel_rfl) ?_
          clear hf; clear a; intro a hf
          refine wpList_nil ?_
          exact hK2 (IntKind.i64.wrap (s2 + 1)) _ _ ⟨_, hs.sel [0, 1] rfl rfl, hf.keep (ks := [0, 1, 12, 13]) (by kernel_rfl)⟩ hS
      · replace hS := of_f hb2 hS
        refine wp_exit ?_
        exact hK1 () _ _ ⟨_, hs.sel [] rfl rfl, hf.keep (ks := []) (by kernel_rfl)⟩ hS

set_option maxHeartbeats 4000000 in
theorem dedup_Sum_ok {w : World} {F : SH} {b : List Int} {ao1 : Option Addr} {cp1 : Nat} (hs : Sep w F (blks [.ro (tI .u8) (.slice ao1 b.length cp1) b]) w F [.ro (tI .u8) (.slice ao1 b.length cp1) b]) {r : Int} (hS : dedup_Sum b = some r) :
    Calls Try.prog 17 [.slice ao1 b.length cp1].toArray w (Gives (fun u w' => ∃ (F' : SH), u = .int .u32 r ∧ Sep w F (blks [.ro (tI .u8) (.slice ao1 b.length cp1) b]) w' F' [])) := by
  generalize (blks [.ro (tI .u8) (.slice ao1 b.length cp1) b]) = R at hs ⊢
  unfold dedup_Sum at hS
  refine fn_ok (vs := [.slice ao1 b.length cp1]) Try.func17 rfl 27 Try.ntmps17 (Nat.le_of_ble_eq_true rfl) ?_
  intro a hf
  replace hf := Fr.cast (L' := [(0, .slice ao1 b.length cp1)]) hf (by kernel_rfl)
  refine sq ?_
  refine reg ?_
  refine st tbOk 1 [0] (L' := [(0, .slice ao1 b.length cp1)]) hf (by kernel_rfl) ?_
  clear hf; clear a; intro a hf
  refine wpList_nil ?_
  refine sq ?_
  refine reg ?_
  refine st tbOk 2 [0, 3, 4] (L' := [(0, .slice ao1 b.length cp1), (3, .int .u32 1), (4, .int .u32 0)]) hf (by kernel_rfl) ?_
  clear hf; clear a; intro a hf
  refine wpList_nil ?_
  refine sq ?_
  refine sq ?_
  refine reg ?_
  refine st tbOk 3 [3, 4, 7, 8, 9] (L' := [(3, .int .u32 1), (4, .int .u32 0), (7, .slice ao1 b.length cp1), (8, .int .i64 ((b.length : Nat) : Int)), (9, .int .i64 0)]) hf (by kernel_rfl) ?_
  clear hf; clear a; intro a hf
  refine wpList_nil ?_
  refine ctj (fun (s1 : Int × Int) (a : Act) (w' : World) => ∃ (F1 : SH), Sep w F R w' F1 [] ∧ Fr 27 [(3, .int .u32 s1.1), (4, .int .u32 s1.2)] a) hS ?_ ?_
  · clear hS hf hs; clear a; intro s1 a w2 hM hS
    obtain ⟨F1, hs, hf⟩ := hM
    refine sq ?_
    refine reg ?_
    refine st tbOk 5 [2] (L' := [(2, .int .u32 (bor .u32 (shl .u32 s1.2 16) s1.1))]) hf (by kernel_rfl) ?_
    clear hf; clear a; intro a hf
    refine wpList_nil ?_
    have hr := Option.some.inj hS; subst hr
    refine wp_ret ?_
    exact ret_ok hf (vs := [.int .u32 (bor .u32 (shl .u32 s1.2 16) s1.1)]) (by kernel_rfl) ⟨_, rfl, hs.sel [] rfl rfl⟩
  · clear hS; intro KK1 k1 hK1 hS
    refine blk ?_
    refine lp (st := (1, 0, 0)) (fun (s2 : Int × Int × Int) (a : Act) (w' : World) => ∃ (F2 : SH), Sep w F R w' F2 [.ro (tI .u8) (.slice ao1 b.length cp1) b] ∧ Fr 27 [(3, .int .u32 s2.1), (4, .int .u32 s2.2.1), (7, .slice ao1 b.length cp1), (8, .int .i64 ((b.length : Nat) : Int)), (9, .int .i64 s2.2.2)] a) ?_ ⟨_, hs.sel [0] rfl rfl, hf.keep (ks := [3, 4, 7, 8, 9]) (by kernel_rfl)⟩ hS
    clear hS hf hs; clear a
    intro rec1 KK2 hK2 s2 a w1 hM hS
    obtain ⟨F2, hs, hf⟩ := hM
    refine sq ?_
    refine reg ?_
    refine st tbOk 1 [3, 4, 7, 8, 9, 10] (L' := [(3, .int .u32 s2.1), (4, .int .u32 s2.2.1), (7, .slice ao1 b.length cp1), (8, .int .i64 ((b.length : Nat) : Int)), (9, .int .i64 s2.2.2), (10, .bool (decide (s2.2.2 < ((b.length : Nat) : Int))))]) hf (by kernel_rfl) ?_
    clear hf; clear a; intro a hf
    refine wpList_nil ?_
    refine sq ?_
    refine cnd (b := decide (s2.2.2 < ((b.length : Nat) : Int))) hf (by kernel_rfl) (fun hb1 => ?_) (fun hb1 => ?_)
    · replace hS := of_t hb1 hS
      refine wp_skip ?_
      refine sq ?_
      refine blk ?_
      refine sq ?_
      refine reg ?_
      have hT := of_gd hS; clear hS; obtain ⟨hc1, hS⟩ := hT
      refine ixR tbOk u22 i5 rfl rfl ((hs.ro 0 rfl).ra (LeH.refl _)) (k := .i64) (n := s2.2.2) hc1 hf (by kernel_rfl) (by kernel_rfl) (by kernel_rfl) (by kernel_rfl) ?_
      clear hf; clear a; intro pb1 po1 c1 a hp1 hr1 hf
      obtain rfl : c1 = [.int .u8 (gt b s2.2.2)] := hr1
      replace hs : Sep w F R w1 F2 [.cel pb1 po1 [.int .u8 (gt b s2.2.2)], .ro (tI .u8) (.slice ao1 b.length cp1) b] := hs.addCel hp1
      replace hf := Fr.keep (ks := [3, 4, 7, 8, 9, 11]) (L' := [(3, .int .u32 s2.1), (4, .int .u32 s2.2.1), (7, .slice ao1 b.length cp1), (8, .int .i64 ((b.length : Nat) : Int)), (9, .int .i64 s2.2.2), (11, .pointer (some ⟨pb1, po1, none⟩))]) hf (by kernel_rfl)
      refine ldC tbOk (T := 5) (hs.ccel 0 rfl) (LeH.refl _) 0 (.int .u8 (gt b s2.2.2)) hf (by kernel_rfl) (by kernel_rfl) (by kernel_rfl) (by kernel_rfl) ?_
      clear hf; clear a; intro a hf
      replace hs : Sep w F R w1 F2 [.ro (tI .u8) (.slice ao1 b.length cp1) b] := hs.sel [1] rfl rfl
      replace hf := Fr.keep (ks := [3, 4, 7, 8, 9, 12]) (L' := [(3, .int .u32 s2.1), (4, .int .u32 s2.2.1), (7, .slice ao1 b.length cp1), (8, .int .i64 ((b.length : Nat) : Int)), (9, .int .i64 s2.2.2), (12, .int .u8 (gt b s2.2.2))]) hf (by kernel_rfl)
      have hT := of_let hS; clear hS; obtain ⟨c_1, hl1, hS⟩ := hT
      refine st tbOk 1 [3, 4, 6, 7, 8, 9] (L' := [(3, .int .u32 s2.1), (4, .int .u32 s2.2.1), (6, .int .u8 c_1), (7, .slice ao1 b.length cp1), (8, .int .i64 ((b.length : Nat) : Int)), (9, .int .i64 s2.2.2)]) hf (by subst hl1; kernel_rfl) ?_
      clear hf; clear a; intro a hf
      refine wpList_nil ?_
      refine sq ?_
      refine reg ?_
      have hT := of_let hS; clear hS; obtain ⟨x_1, hl2, hS⟩ := hT
      refine st tbOk 6 [3, 4, 7, 8, 9] (L' := [(3, .int .u32 x_1), (4, .int .u32 s2.2.1), (7, .slice ao1 b.length cp1), (8, .int .i64 ((b.length : Nat) : Int)), (9, .int .i64 s2.2.2)]) hf (by subst hl2; kernel_rfl) ?_
      clear hf; clear a; intro a hf
      refine wpList_nil ?_
      refine reg ?_
      have hT := of_let hS; clear hS; obtain ⟨y_1, hl3, hS⟩ := hT
      refine st tbOk 5 [3, 4, 7, 8, 9] (L' := [(3, .int .u32 x_1), (4, .int .u32 y_1), (7, .slice ao1 b.length cp1), (8, .int .i64 ((b.length : Nat) : Int)), (9, .int .i64 s2.2.2)]) hf (by subst hl3; kernel_rfl) ?_
      clear hf; clear a; intro a hf
      refine wpList_nil ?_
      refine reg ?_
      refine st tbOk 2 [3, 4, 7, 8, 9] (L' := [(3, .int .u32 x_1), (4, .int .u32 y_1), (7, .slice ao1 b.length cp1), (8, .int .i64 ((b.length : Nat) : Int)), (9, .int .i64 (IntKind.i64.wrap (s2.2.2 + 1)))]) hf (by kernel_rfl) ?_
      clear hf; clear a; intro a hf
      refine wpList_nil ?_
      exact hK2 (x_1, y_1, IntKind.i64.wrap (s2.2.2 + 1)) _ _ ⟨_, hs.sel [0] rfl rfl, hf.keep (ks := [3, 4, 7, 8, 9]) (by kernel_rfl)⟩ hS
    · replace hS := of_f hb1 hS
      refine wp_exit ?_
      exact hK1 (s2.1, s2.2.1) _ _ ⟨_, hs.sel [] rfl rfl, hf.keep (ks := [3, 4]) (by kernel_rfl)⟩ hS

set_option maxHeartbeats 4000000 in
theorem dedup_Split_ok {w : World} {F : SH} {p_l : List (Int × Int × Bool × (List UInt8) × Int × (List Int))} {files : List ((List UInt8) × (List Int))} {ao1 : Option Addr} {cp1 : Nat} {ao2 : Option Addr} {cp2 : Nat} (hs : Sep w F (blks [.ro ty55 (.slice ao1 p_l.length cp1) p_l, .ro ty60 (.slice ao2 files.length cp2) files]) w F [.ro ty55 (.slice ao1 p_l.length cp1) p_l, .ro ty60 (.slice ao2 files.length cp2) files]) {r : (List (Int × Int × Bool × (List UInt8) × Int × Bool × Int)) × (List Int)} (hS : dedup_Split p_l files = some r) :
    Calls Try.prog 19 [.slice ao1 p_l.length cp1, .slice ao2 files.length cp2].toArray w (Gives (fun u w' => ∃ (ao12 : Option Addr) (cp12 : Nat) (ao13 : Option Addr) (cp13 : Nat) (F' : SH), u = .tuple #[.slice ao12 r.1.length cp12, .slice ao13 r.2.length cp13] ∧ Sep w F (blks [.ro ty55 (.slice ao1 p_l.length cp1) p_l, .ro ty60 (.slice ao2 files.length cp2) files]) w' F' [.row 58 ty57 (.slice ao12 r.1.length cp12) r.1, .row 5 (tI .u8) (.slice ao13 r.2.length cp13) r.2])) := by
  generalize (blks [.ro ty55 (.slice ao1 p_l.length cp1) p_l, .ro ty60 (.slice ao2 files.length cp2) files]) = R at hs ⊢
  unfold dedup_Split at hS
  refine fn_ok (vs := [.slice ao1 p_l.length cp1, .slice ao2 files.length cp2]) Try.func19 rfl 61 Try.ntmps19 (Nat.le_of_ble_eq_true rfl) ?_
  intro a hf
  replace hf := Fr.cast (L' := [(0, .slice ao1 p_l.length cp1), (1, .slice ao2 files.length cp2)]) hf (by kernel_rfl)
  refine sq ?_
  refine reg ?_
  refine st tbOk 2 [0, 1] (L' := [(0, .slice ao1 p_l.length cp1), (1, .slice ao2 files.length cp2)]) hf (by kernel_rfl) ?_
  clear hf; clear a; intro a hf
  refine wpList_nil ?_
  refine sq ?_
  refine reg ?_
  refine st tbOk 1 [0, 1, 6] (L' := [(0, .slice ao1 p_l.length cp1), (1, .slice ao2 files.length cp2), (6, .slice none 0 0)]) hf (by kernel_rfl) ?_
  clear hf; clear a; intro a hf
  refine wpList_nil ?_
  refine sq ?_
  refine reg ?_
  refine st tbOk 1 [0, 1, 6, 7] (L' := [(0, .slice ao1 p_l.length cp1), (1, .slice ao2 files.length cp2), (6, .slice none 0 0), (7, .slice none 0 0)]) hf (by kernel_rfl) ?_
  clear hf; clear a; intro a hf
  refine wpList_nil ?_
  refine sq ?_
  refine sq ?_
  refine reg ?_
  refine st tbOk 3 [1, 6, 7, 13, 14, 15] (L' := [(1, .slice ao2 files.length cp2), (6, .slice none 0 0), (7, .slice none 0 0), (13, .slice ao1 p_l.length cp1), (14, .int .i64 ((p_l.length : Nat) : Int)), (15, .int .i64 0)]) hf (by kernel_rfl) ?_
  clear hf; clear a; intro a hf
  refine wpList_nil ?_
  refine ctj (fun (s1 : (List (Int × Int × Bool × (List UInt8) × Int × Bool × Int)) × (List Int)) (a : Act) (w' : World) => ∃ (ao3 : Option Addr) (cp3 : Nat) (ao4 : Option Addr) (cp4 : Nat) (F1 : SH), Sep w F R w' F1 [.row 58 ty57 (.slice ao3 s1.1.length cp3) s1.1, .row 5 (tI .u8) (.slice ao4 s1.2.length cp4) s1.2] ∧ Fr 61 [(6, .slice ao3 s1.1.length cp3), (7, .slice ao4 s1.2.length cp4)] a) hS ?_ ?_
  · clear hS hf hs; clear a; intro s1 a w16 hM hS
    obtain ⟨ao3, cp3, ao4, cp4, F1, hs, hf⟩ := hM
    refine sq ?_
    refine reg ?_
    refine st tbOk 4 [4, 5] (L' := [(4, .slice ao3 s1.1.length cp3), (5, .slice ao4 s1.2.length cp4)]) hf (by kernel_rfl) ?_
    clear hf; clear a; intro a hf
    refine wpList_nil ?_
    have hr := Option.some.inj hS; subst hr
    refine wp_ret ?_
    exact ret_ok hf (vs := [.slice ao3 s1.1.length cp3, .slice ao4 s1.2.length cp4]) (by kernel_rfl) ⟨ao3, cp3, ao4, cp4, _, rfl, hs.sel [0, 1] rfl rfl⟩
  · clear hS; intro KK1 k1 hK1 hS
    refine blk ?_
    replace hs : Sep w F R w F [.row 58 ty57 (.slice none 0 0) ([] : List (Int × Int × Bool × (List UInt8) × Int × Bool × Int)), .ro ty55 (.slice ao1 p_l.length cp1) p_l, .ro ty60 (.slice ao2 files.length cp2) files] := hs.addNil 58 ty57
    replace hs : Sep w F R w F [.row 5 (tI .u8) (.slice none 0 0) ([] : List Int), .row 58 ty57 (.slice none 0 0) ([] : List (Int × Int × Bool × (List UInt8) × Int × Bool × Int)), .ro ty55 (.slice ao1 p_l.length cp1) p_l, .ro ty60 (.slice ao2 files.length cp2) files] := hs.addNil 5 (tI .u8)
    refine lp (st := ([], [], 0)) (fun (s2 : (List (Int × Int × Bool × (List UInt8) × Int × Bool × Int)) × (List Int) × Int) (a : Act) (w' : World) => ∃ (ao5 : Option Addr) (cp5 : Nat) (ao6 : Option Addr) (cp6 : Nat) (F2 : SH), Sep w F R w' F2 [.row 58 ty57 (.slice ao5 s2.1.length cp5) s2.1, .row 5 (tI .u8) (.slice ao6 s2.2.1.length cp6) s2.2.1, .ro ty55 (.slice ao1 p_l.length cp1) p_l, .ro ty60 (.slice ao2 files.length cp2) files] ∧ Fr 61 [(1, .slice ao2 files.length cp2), (6, .slice ao5 s2.1.length cp5), (7, .slice ao6 s2.2.1.length cp6), (13, .slice ao1 p_l.length cp1), (14, .int .i64 ((p_l.length : Nat) : Int)), (15, .int .i64 s2.2.2)] a) ?_ ⟨none, 0, none, 0, _, hs.sel [1, 0, 2, 3] rfl rfl, hf.keep (ks := [1, 6, 7, 13, 14, 15]) (by kernel_rfl)⟩ hS
    clear hS hf hs; clear a
    intro rec1 KK2 hK2 s2 a w1 hM hS
    obtain ⟨ao5, cp5, ao6, cp6, F2, hs, hf⟩ := hM
    refine sq ?_
    refine reg ?_
    refine st tbOk 1 [1, 6, 7, 13, 14, 15, 16] (L' := [(1, .slice ao2 files.length cp2), (6, .slice ao5 s2.1.length cp5), (7, .slice ao6 s2.2.1.length cp6), (13, .slice ao1 p_l.length cp1), (14, .int .i64 ((p_l.length : Nat) : Int)), (15, .int .i64 s2.2.2), (16, .bool (decide (s2.2.2 < ((p_l.length : Nat) : Int))))]) hf (by kernel_rfl) ?_
    clear hf; clear a; intro a hf
    refine wpList_nil ?_
    refine sq ?_
    refine cnd (b := decide (s2.2.2 < ((p_l.length : Nat) : Int))) hf (by kernel_rfl) (fun hb1 => ?_) (fun hb1 => ?_)
    · replace hS := of_t hb1 hS
      refine wp_skip ?_
      refine sq ?_
      refine blk ?_
      refine sq ?_
      refine reg ?_
      have hT := of_gd hS; clear hS; obtain ⟨hc1, hS⟩ := hT
      refine ixR tbOk u35 i56 rfl rfl ((hs.ro 2 rfl).ra (LeH.refl _)) (k := .i64) (n := s2.2.2) hc1 hf (by kernel_rfl) (by kernel_rfl) (by kernel_rfl) (by kernel_rfl) ?_
      clear hf; clear a; intro pb1 po1 c1 a hp1 hr1 hf
      obtain ⟨ao7, cp7, rfl, hr2⟩ := hr1
      replace hs : Sep w F R w1 F2 [.ro (tI .u8) (.slice ao7 ((gt p_l s2.2.2).2.2.2.2.2).length cp7) ((gt p_l s2.2.2).2.2.2.2.2), .row 58 ty57 (.slice ao5 s2.1.length cp5) s2.1, .row 5 (tI .u8) (.slice ao6 s2.2.1.length cp6) s2.2.1, .ro ty55 (.slice ao1 p_l.length cp1) p_l, .ro ty60 (.slice ao2 files.length cp2) files] := hs.addRo hr2
      replace hs : Sep w F R w1 F2 [.cel pb1 po1 [.int .u64 ((gt p_l s2.2.2).1), .int .i64 ((gt p_l s2.2.2).2.1), .bool ((gt p_l s2.2.2).2.2.1), strV ((gt p_l s2.2.2).2.2.2.1), .int .u64 ((gt p_l s2.2.2).2.2.2.2.1), .slice ao7 ((gt p_l s2.2.2).2.2.2.2.2).length cp7], .ro (tI .u8) (.slice ao7 ((gt p_l s2.2.2).2.2.2.2.2).length cp7) ((gt p_l s2.2.2).2.2.2.2.2), .row 58 ty57 (.slice ao5 s2.1.length cp5) s2.1, .row 5 (tI .u8) (.slice ao6 s2.2.1.length cp6) s2.2.1, .ro ty55 (.slice ao1 p_l.length cp1) p_l, .ro ty60 (.slice ao2 files.length cp2) files] := hs.addCel hp1
      replace hf := Fr.keep (ks := [1, 6, 7, 13, 14, 15, 17]) (L' := [(1, .slice ao2 files.length cp2), (6, .slice ao5 s2.1.length cp5), (7, .slice ao6 s2.2.1.length cp6), (13, .slice ao1 p_l.length cp1), (14, .int .i64 ((p_l.length : Nat) : Int)), (15, .int .i64 s2.2.2), (17, .pointer (some ⟨pb1, po1, none⟩))]) hf (by kernel_rfl)
      refine ldC tbOk (T := 56) (hs.ccel 0 rfl) (LeH.refl _) 0 (.agg #[.int .u64 ((gt p_l s2.2.2).1), .int .i64 ((gt p_l s2.2.2).2.1), .bool ((gt p_l s2.2.2).2.2.1), strV ((gt p_l s2.2.2).2.2.2.1), .int .u64 ((gt p_l s2.2.2).2.2.2.2.1), .slice ao7 ((gt p_l s2.2.2).2.2.2.2.2).length cp7]) hf (by kernel_rfl) (by kernel_rfl) (by kernel_rfl) (by kernel_rfl) ?_
      clear hf; clear a; intro a hf
      replace hs : Sep w F R w1 F2 [.ro (tI .u8) (.slice ao7 ((gt p_l s2.2.2).2.2.2.2.2).length cp7) ((gt p_l s2.2.2).2.2.2.2.2), .row 58 ty57 (.slice ao5 s2.1.length cp5) s2.1, .row 5 (tI .u8) (.slice ao6 s2.2.1.length cp6) s2.2.1, .ro ty55 (.slice ao1 p_l.length cp1) p_l, .ro ty60 (.slice ao2 files.length cp2) files] := hs.sel [1, 2, 3, 4, 5] rfl rfl
      replace hf := Fr.keep (ks := [1, 6, 7, 13, 14, 15, 18]) (L' := [(1, .slice ao2 files.length cp2), (6, .slice ao5 s2.1.length cp5), (7, .slice ao6 s2.2.1.length cp6), (13, .slice ao1 p_l.length cp1), (14, .int .i64 ((p_l.length : Nat) : Int)), (15, .int .i64 s2.2.2), (18, .agg #[.int .u64 ((gt p_l s2.2.2).1), .int .i64 ((gt p_l s2.2.2).2.1), .bool ((gt p_l s2.2.2).2.2.1), strV ((gt p_l s2.2.2).2.2.2.1), .int .u64 ((gt p_l s2.2.2).2.2.2.2.1), .slice ao7 ((gt p_l s2.2.2).2.2.2.2.2).length cp7])]) hf (by kernel_rfl)
      refine al tbOk i56 [.int .u64 0, .int .i64 0, .bool false, strV [], .int .u64 0, .slice none 0 0] rfl (by kernel_rfl) hf (by kernel_rfl) (by kernel_rfl) ?_
      clear hf; clear a; intro w2 a hb hx _ hf
      replace hs : Sep w F R w2 F2 [.box w1.heap.size 56 [.int .u64 0, .int .i64 0, .bool false, strV [], .int .u64 0, .slice none 0 0], .ro (tI .u8) (.slice ao7 ((gt p_l s2.2.2).2.2.2.2.2).length cp7) ((gt p_l s2.2.2).2.2.2.2.2), .row 58 ty57 (.slice ao5 s2.1.length cp5) s2.1, .row 5 (tI .u8) (.slice ao6 s2.2.1.length cp6) s2.2.1, .ro ty55 (.slice ao1 p_l.length cp1) p_l, .ro ty60 (.slice ao2 files.length cp2) files] := hs.newBox hb hx
      clear hb hx
      replace hf := Fr.keep (ks := [1, 6, 7, 9, 13, 14, 15, 18]) (L' := [(1, .slice ao2 files.length cp2), (6, .slice ao5 s2.1.length cp5), (7, .slice ao6 s2.2.1.length cp6), (9, .pointer (some ⟨w1.heap.size, 0, none⟩)), (13, .slice ao1 p_l.length cp1), (14, .int .i64 ((p_l.length : Nat) : Int)), (15, .int .i64 s2.2.2), (18, .agg #[.int .u64 ((gt p_l s2.2.2).1), .int .i64 ((gt p_l s2.2.2).2.1), .bool ((gt p_l s2.2.2).2.2.1), strV ((gt p_l s2.2.2).2.2.2.1), .int .u64 ((gt p_l s2.2.2).2.2.2.2.1), .slice ao7 ((gt p_l s2.2.2).2.2.2.2.2).length cp7])]) hf (by kernel_rfl)
      refine stB tbOk i56 (hs.bx 0 rfl) 0 [.int .u64 ((gt p_l s2.2.2).1), .int .i64 ((gt p_l s2.2.2).2.1), .bool ((gt p_l s2.2.2).2.2.1), strV ((gt p_l s2.2.2).2.2.2.1), .int .u64 ((gt p_l s2.2.2).2.2.2.2.1), .slice ao7 ((gt p_l s2.2.2).2.2.2.2.2).length cp7] [.int .u64 ((gt p_l s2.2.2).1), .int .i64 ((gt p_l s2.2.2).2.1), .bool ((gt p_l s2.2.2).2.2.1), strV ((gt p_l s2.2.2).2.2.2.1), .int .u64 ((gt p_l s2.2.2).2.2.2.2.1), .slice ao7 ((gt p_l s2.2.2).2.2.2.2.2).length cp7] (v := .agg #[.int .u64 ((gt p_l s2.2.2).1), .int .i64 ((gt p_l s2.2.2).2.1), .bool ((gt p_l s2.2.2).2.2.1), strV ((gt p_l s2.2.2).2.2.2.1), .int .u64 ((gt p_l s2.2.2).2.2.2.2.1), .slice ao7 ((gt p_l s2.2.2).2.2.2.2.2).length cp7]) rfl rfl (by kernel_rfl) (by kernel_rfl) (by kernel_rfl) (by kernel_rfl) hf (by kernel_rfl) (by kernel_rfl) (by kernel_rfl) ?_
      clear hf; clear a; intro w3 a hb hg _ hf
      replace hs : Sep w F R w3 F2 [.box w1.heap.size 56 [.int .u64 ((gt p_l s2.2.2).1), .int .i64 ((gt p_l s2.2.2).2.1), .bool ((gt p_l s2.2.2).2.2.1), strV ((gt p_l s2.2.2).2.2.2.1), .int .u64 ((gt p_l s2.2.2).2.2.2.2.1), .slice ao7 ((gt p_l s2.2.2).2.2.2.2.2).length cp7], .ro (tI .u8) (.slice ao7 ((gt p_l s2.2.2).2.2.2.2.2).length cp7) ((gt p_l s2.2.2).2.2.2.2.2), .row 58 ty57 (.slice ao5 s2.1.length cp5) s2.1, .row 5 (tI .u8) (.slice ao6 s2.2.1.length cp6) s2.2.1, .ro ty55 (.slice ao1 p_l.length cp1) p_l, .ro ty60 (.slice ao2 files.length cp2) files] := hs.updBox 0 rfl hb hg
      clear hb hg
      replace hf := Fr.keep (ks := [1, 6, 7, 9, 13, 14, 15]) (L' := [(1, .slice ao2 files.length cp2), (6, .slice ao5 s2.1.length cp5), (7, .slice ao6 s2.2.1.length cp6), (9, .pointer (some ⟨w1.heap.size, 0, none⟩)), (13, .slice ao1 p_l.length cp1), (14, .int .i64 ((p_l.length : Nat) : Int)), (15, .int .i64 s2.2.2)]) hf (by kernel_rfl)
      refine wpList_nil ?_
      refine sq ?_
      refine reg ?_
      refine st tbOk 1 [1, 6, 7, 9, 13, 14, 15, 19] (L' := [(1, .slice ao2 files.length cp2), (6, .slice ao5 s2.1.length cp5), (7, .slice ao6 s2.2.1.length cp6), (9, .pointer (some ⟨w1.heap.size, 0, none⟩)), (13, .slice ao1 p_l.length cp1), (14, .int .i64 ((p_l.length : Nat) : Int)), (15, .int .i64 s2.2.2), (19, .pointer (some ⟨w1.heap.size, 0, none⟩))]) hf (by kernel_rfl) ?_
      clear hf; clear a; intro a hf
      refine ldC tbOk (T := 23) (hs.cbx 0 rfl) (LeH.refl _) 0 (.int .u64 ((gt p_l s2.2.2).1)) hf (by kernel_rfl) (by kernel_rfl) (by kernel_rfl) (by kernel_rfl) ?_
      clear hf; clear a; intro a hf
      replace hf := Fr.keep (ks := [1, 6, 7, 9, 13, 14, 15, 20]) (L' := [(1, .slice ao2 files.length cp2), (6, .slice ao5 s2.1.length cp5), (7, .slice ao6 s2.2.1.length cp6), (9, .pointer (some ⟨w1.heap.size, 0, none⟩)), (13, .slice ao1 p_l.length cp1), (14, .int .i64 ((p_l.length : Nat) : Int)), (15, .int .i64 s2.2.2), (20, .int .u64 ((gt p_l s2.2.2).1))]) hf (by kernel_rfl)
      refine st tbOk 1 [1, 6, 7, 9, 13, 14, 15, 20, 21] (L' := [(1, .slice ao2 files.length cp2), (6, .slice ao5 s2.1.length cp5), (7, .slice ao6 s2.2.1.length cp6), (9, .pointer (some ⟨w1.heap.size, 0, none⟩)), (13, .slice ao1 p_l.length cp1), (14, .int .i64 ((p_l.length : Nat) : Int)), (15, .int .i64 s2.2.2), (20, .int .u64 ((gt p_l s2.2.2).1)), (21, .pointer (some ⟨w1.heap.size, 1, none⟩))]) hf (by kernel_rfl) ?_
      clear hf; clear a; intro a hf
      refine ldC tbOk (T := 3) (hs.cbx 0 rfl) (LeH.refl _) 1 (.int .i64 ((gt p_l s2.2.2).2.1)) hf (by kernel_rfl) (by kernel_rfl) (by kernel_rfl) (by kernel_rfl) ?_
      clear hf; clear a; intro a hf
      replace hf := Fr.keep (ks := [1, 6, 7, 9, 13, 14, 15, 20, 22]) (L' := [(1, .slice ao2 files.length cp2), (6, .slice ao5 s2.1.length cp5), (7, .slice ao6 s2.2.1.length cp6), (9, .pointer (some ⟨w1.heap.size, 0, none⟩)), (13, .slice ao1 p_l.length cp1), (14, .int .i64 ((p_l.length : Nat) : Int)), (15, .int .i64 s2.2.2), (20, .int .u64 ((gt p_l s2.2.2).1)), (22, .int .i64 ((gt p_l s2.2.2).2.1))]) hf (by kernel_rfl)
      refine st tbOk 1 [1, 6, 7, 9, 13, 14, 15, 20, 22, 23] (L' := [(1, .slice ao2 files.length cp2), (6, .slice ao5 s2.1.length cp5), (7, .slice ao6 s2.2.1.length cp6), (9, .pointer (some ⟨w1.heap.size, 0, none⟩)), (13, .slice ao1 p_l.length cp1), (14, .int .i64 ((p_l.length : Nat) : Int)), (15, .int .i64 s2.2.2), (20, .int .u64 ((gt p_l s2.2.2).1)), (22, .int .i64 ((gt p_l s2.2.2).2.1)), (23, .pointer (some ⟨w1.heap.size, 2, none⟩))]) hf (by kernel_rfl) ?_
      clear hf; clear a; intro a hf
      refine ldC tbOk (T := 4) (hs.cbx 0 rfl) (LeH.refl _) 2 (.bool ((gt p_l s2.2.2).2.2.1)) hf (by kernel_rfl) (by kernel_rfl) (by kernel_rfl) (by kernel_rfl) ?_
      clear hf; clear a; intro a hf
      replace hf := Fr.keep (ks := [1, 6, 7, 9, 13, 14, 15, 20, 22, 24]) (L' := [(1, .slice ao2 files.length cp2), (6, .slice ao5 s2.1.length cp5), (7, .slice ao6 s2.2.1.length cp6), (9, .pointer (some ⟨w1.heap.size, 0, none⟩)), (13, .slice ao1 p_l.length cp1), (14, .int .i64 ((p_l.length : Nat) : Int)), (15, .int .i64 s2.2.2), (20, .int .u64 ((gt p_l s2.2.2).1)), (22, .int .i64 ((gt p_l s2.2.2).2.1)), (24, .bool ((gt p_l s2.2.2).2.2.1))]) hf (by kernel_rfl)
      refine st tbOk 1 [1, 6, 7, 9, 13, 14, 15, 20, 22, 24, 25] (L' := [(1, .slice ao2 files.length cp2), (6, .slice ao5 s2.1.length cp5), (7, .slice ao6 s2.2.1.length cp6), (9, .pointer (some ⟨w1.heap.size, 0, none⟩)), (13, .slice ao1 p_l.length cp1), (14, .int .i64 ((p_l.length : Nat) : Int)), (15, .int .i64 s2.2.2), (20, .int .u64 ((gt p_l s2.2.2).1)), (22, .int .i64 ((gt p_l s2.2.2).2.1)), (24, .bool ((gt p_l s2.2.2).2.2.1)), (25, .pointer (some ⟨w1.heap.size, 3, none⟩))]) hf (by kernel_rfl) ?_
      clear hf; clear a; intro a hf
      refine ldC tbOk (T := 9) (hs.cbx 0 rfl) (LeH.refl _) 3 (strV ((gt p_l s2.2.2).2.2.2.1)) hf (by kernel_rfl) (by kernel_rfl) (by kernel_rfl) (by kernel_rfl) ?_
      clear hf; clear a; intro a hf
      replace hf := Fr.keep (ks := [1, 6, 7, 9, 13, 14, 15, 20, 22, 24, 26]) (L' := [(1, .slice ao2 files.length cp2), (6, .slice ao5 s2.1.length cp5), (7, .slice ao6 s2.2.1.length cp6), (9, .pointer (some ⟨w1.heap.size, 0, none⟩)), (13, .slice ao1 p_l.length cp1), (14, .int .i64 ((p_l.length : Nat) : Int)), (15, .int .i64 s2.2.2), (20, .int .u64 ((gt p_l s2.2.2).1)), (22, .int .i64 ((gt p_l s2.2.2).2.1)), (24, .bool ((gt p_l s2.2.2).2.2.1)), (26, strV ((gt p_l s2.2.2).2.2.2.1))]) hf (by kernel_rfl)
      refine st tbOk 1 [1, 6, 7, 9, 13, 14, 15, 20, 22, 24, 26, 27] (L' := [(1, .slice ao2 files.length cp2), (6, .slice ao5 s2.1.length cp5), (7, .slice ao6 s2.2.1.length cp6), (9, .pointer (some ⟨w1.heap.size, 0, none⟩)), (13, .slice ao1 p_l.length cp1), (14, .int .i64 ((p_l.length : Nat) : Int)), (15, .int .i64 s2.2.2), (20, .int .u64 ((gt p_l s2.2.2).1)), (22, .int .i64 ((gt p_l s2.2.2).2.1)), (24, .bool ((gt p_l s2.2.2).2.2.1)), (26, strV ((gt p_l s2.2.2).2.2.2.1)), (27, .pointer (some ⟨w1.heap.size, 4, none⟩))]) hf (by kernel_rfl) ?_
      clear hf; clear a; intro a hf
      refine ldC tbOk (T := 23) (hs.cbx 0 rfl) (LeH.refl _) 4 (.int .u64 ((gt p_l s2.2.2).2.2.2.2.1)) hf (by kernel_rfl) (by kernel_rfl) (by kernel_rfl) (by kernel_rfl) ?_
      clear hf; clear a; intro a hf
      replace hf := Fr.keep (ks := [1, 6, 7, 9, 13, 14, 15, 20, 22, 24, 26, 28]) (L' := [(1, .slice ao2 files.length cp2), (6, .slice ao5 s2.1.length cp5), (7, .slice ao6 s2.2.1.length cp6), (9, .pointer (some ⟨w1.heap.size, 0, none⟩)), (13, .slice ao1 p_l.length cp1), (14, .int .i64 ((p_l.length : Nat) : Int)), (15, .int .i64 s2.2.2), (20, .int .u64 ((gt p_l s2.2.2).1)), (22, .int .i64 ((gt p_l s2.2.2).2.1)), (24, .bool ((gt p_l s2.2.2).2.2.1)), (26, strV ((gt p_l s2.2.2).2.2.2.1)), (28, .int .u64 ((gt p_l s2.2.2).2.2.2.2.1))]) hf (by kernel_rfl)
      refine st tbOk 1 [1, 6, 7, 9, 13, 14, 15, 29] (L' := [(1, .slice ao2 files.length cp2), (6, .slice ao5 s2.1.length cp5), (7, .slice ao6 s2.2.1.length cp6), (9, .pointer (some ⟨w1.heap.size, 0, none⟩)), (13, .slice ao1 p_l.length cp1), (14, .int .i64 ((p_l.length : Nat) : Int)), (15, .int .i64 s2.2.2), (29, .agg #[.int .u64 ((gt p_l s2.2.2).1), .int .i64 ((gt p_l s2.2.2).2.1), .bool ((gt p_l s2.2.2).2.2.1), strV ((gt p_l s2.2.2).2.2.2.1), .int .u64 ((gt p_l s2.2.2).2.2.2.2.1), .bool false, .int .u32 0])]) hf (by kernel_rfl) ?_
      clear hf; clear a; intro a hf
      refine al tbOk i58 [.int .u64 0, .int .i64 0, .bool false, strV [], .int .u64 0, .bool false, .int .u32 0] rfl (by kernel_rfl) hf (by kernel_rfl) (by kernel_rfl) ?_
      clear hf; clear a; intro w4 a hb hx _ hf
      replace hs : Sep w F R w4 F2 [.box w3.heap.size 58 [.int .u64 0, .int .i64 0, .bool false, strV [], .int .u64 0, .bool false, .int .u32 0], .box w1.heap.size 56 [.int .u64 ((gt p_l s2.2.2).1), .int .i64 ((gt p_l s2.2.2).2.1), .bool ((gt p_l s2.2.2).2.2.1), strV ((gt p_l s2.2.2).2.2.2.1), .int .u64 ((gt p_l s2.2.2).2.2.2.2.1), .slice ao7 ((gt p_l s2.2.2).2.2.2.2.2).length cp7], .ro (tI .u8) (.slice ao7 ((gt p_l s2.2.2).2.2.2.2.2).length cp7) ((gt p_l s2.2.2).2.2.2.2.2), .row 58 ty57 (.slice ao5 s2.1.length cp5) s2.1, .row 5 (tI .u8) (.slice ao6 s2.2.1.length cp6) s2.2.1, .ro ty55 (.slice ao1 p_l.length cp1) p_l, .ro ty60 (.slice ao2 files.length cp2) files] := hs.newBox hb hx
      clear hb hx
      replace hf := Fr.keep (ks := [1, 6, 7, 9, 10, 13, 14, 15, 29]) (L' := [(1, .slice ao2 files.length cp2), (6, .slice ao5 s2.1.length cp5), (7, .slice ao6 s2.2.1.length cp6), (9, .pointer (some ⟨w1.heap.size, 0, none⟩)), (10, .pointer (some ⟨w3.heap.size, 0, none⟩)), (13, .slice ao1 p_l.length cp1), (14, .int .i64 ((p_l.length : Nat) : Int)), (15, .int .i64 s2.2.2), (29, .agg #[.int .u64 ((gt p_l s2.2.2).1), .int .i64 ((gt p_l s2.2.2).2.1), .bool ((gt p_l s2.2.2).2.2.1), strV ((gt p_l s2.2.2).2.2.2.1), .int .u64 ((gt p_l s2.2.2).2.2.2.2.1), .bool false, .int .u32 0])]) hf (by kernel_rfl)
      refine stB tbOk i58 (hs.bx 0 rfl) 0 [.int .u64 ((gt p_l s2.2.2).1), .int .i64 ((gt p_l s2.2.2).2.1), .bool ((gt p_l s2.2.2).2.2.1), strV ((gt p_l s2.2.2).2.2.2.1), .int .u64 ((gt p_l s2.2.2).2.2.2.2.1), .bool false, .int .u32 0] [.int .u64 ((gt p_l s2.2.2).1), .int .i64 ((gt p_l s2.2.2).2.1), .bool ((gt p_l s2.2.2).2.2.1), strV ((gt p_l s2.2.2).2.2.2.1), .int .u64 ((gt p_l s2.2.2).2.2.2.2.1), .bool false, .int .u32 0] (v := .agg #[.int .u64 ((gt p_l s2.2.2).1), .int .i64 ((gt p_l s2.2.2).2.1), .bool ((gt p_l s2.2.2).2.2.1), strV ((gt p_l s2.2.2).2.2.2.1), .int .u64 ((gt p_l s2.2.2).2.2.2.2.1), .bool false, .int .u32 0]) rfl rfl (by kernel_rfl) (by kernel_rfl) (by kernel_rfl) (by kernel_rfl) hf (by kernel_rfl) (by kernel_rfl) (by kernel_rfl) ?_
      clear hf; clear a; intro w5 a hb hg _ hf
      replace hs : Sep w F R w5 F2 [.box w3.heap.size 58 [.int .u64 ((gt p_l s2.2.2).1), .int .i64 ((gt p_l s2.2.2).2.1), .bool ((gt p_l s2.2.2).2.2.1), strV ((gt p_l s2.2.2).2.2.2.1), .int .u64 ((gt p_l s2.2.2).2.2.2.2.1), .bool false, .int .u32 0], .box w1.heap.size 56 [.int .u64 ((gt p_l s2.2.2).1), .int .i64 ((gt p_l s2.2.2).2.1), .bool ((gt p_l s2.2.2).2.2.1), strV ((gt p_l s2.2.2).2.2.2.1), .int .u64 ((gt p_l s2.2.2).2.2.2.2.1), .slice ao7 ((gt p_l s2.2.2).2.2.2.2.2).length cp7], .ro (tI .u8) (.slice ao7 ((gt p_l s2.2.2).2.2.2.2.2).length cp7) ((gt p_l s2.2.2).2.2.2.2.2), .row 58 ty57 (.slice ao5 s2.1.length cp5) s2.1, .row 5 (tI .u8) (.slice ao6 s2.2.1.length cp6) s2.2.1, .ro ty55 (.slice ao1 p_l.length cp1) p_l, .ro ty60 (.slice ao2 files.length cp2) files] := hs.updBox 0 rfl hb hg
      clear hb hg
      replace hf := Fr.keep (ks := [1, 6, 7, 9, 10, 13, 14, 15]) (L' := [(1, .slice ao2 files.length cp2), (6, .slice ao5 s2.1.length cp5), (7, .slice ao6 s2.2.1.length cp6), (9, .pointer (some ⟨w1.heap.size, 0, none⟩)), (10, .pointer (some ⟨w3.heap.size, 0, none⟩)), (13, .slice ao1 p_l.length cp1), (14, .int .i64 ((p_l.length : Nat) : Int)), (15, .int .i64 s2.2.2)]) hf (by kernel_rfl)
      refine wpList_nil ?_
      refine sq ?_
      refine sq ?_
      refine reg ?_
      refine st tbOk 1 [1, 6, 7, 9, 10, 13, 14, 15, 31] (L' := [(1, .slice ao2 files.length cp2), (6, .slice ao5 s2.1.length cp5), (7, .slice ao6 s2.2.1.length cp6), (9, .pointer (some ⟨w1.heap.size, 0, none⟩)), (10, .pointer (some ⟨w3.heap.size, 0, none⟩)), (13, .slice ao1 p_l.length cp1), (14, .int .i64 ((p_l.length : Nat) : Int)), (15, .int .i64 s2.2.2), (31, .pointer (some ⟨w1.heap.size, 3, none⟩))]) hf (by kernel_rfl) ?_
      clear hf; clear a; intro a hf
      refine ldC tbOk (T := 9) (hs.cbx 1 rfl) (LeH.refl _) 3 (strV ((gt p_l s2.2.2).2.2.2.1)) hf (by kernel_rfl) (by kernel_rfl) (by kernel_rfl) (by kernel_rfl) ?_
      clear hf; clear a; intro a hf
      replace hf := Fr.keep (ks := [1, 6, 7, 9, 10, 13, 14, 15, 32]) (L' := [(1, .slice ao2 files.length cp2), (6, .slice ao5 s2.1.length cp5), (7, .slice ao6 s2.2.1.length cp6), (9, .pointer (some ⟨w1.heap.size, 0, none⟩)), (10, .pointer (some ⟨w3.heap.size, 0, none⟩)), (13, .slice ao1 p_l.length cp1), (14, .int .i64 ((p_l.length : Nat) : Int)), (15, .int .i64 s2.2.2), (32, strV ((gt p_l s2.2.2).2.2.2.1))]) hf (by kernel_rfl)
      refine st tbOk 1 [1, 6, 7, 9, 10, 13, 14, 15, 32, 33] (L' := [(1, .slice ao2 files.length cp2), (6, .slice ao5 s2.1.length cp5), (7, .slice ao6 s2.2.1.length cp6), (9, .pointer (some ⟨w1.heap.size, 0, none⟩)), (10, .pointer (some ⟨w3.heap.size, 0, none⟩)), (13, .slice ao1 p_l.length cp1), (14, .int .i64 ((p_l.length : Nat) : Int)), (15, .int .i64 s2.2.2), (32, strV ((gt p_l s2.2.2).2.2.2.1)), (33, .pointer (some ⟨w1.heap.size, 4, none⟩))]) hf (by kernel_rfl) ?_
      clear hf; clear a; intro a hf
      refine ldC tbOk (T := 23) (hs.cbx 1 rfl) (LeH.refl _) 4 (.int .u64 ((gt p_l s2.2.2).2.2.2.2.1)) hf (by kernel_rfl) (by kernel_rfl) (by kernel_rfl) (by kernel_rfl) ?_
      clear hf; clear a; intro a hf
      replace hf := Fr.keep (ks := [1, 6, 7, 9, 10, 13, 14, 15, 32, 34]) (L' := [(1, .slice ao2 files.length cp2), (6, .slice ao5 s2.1.length cp5), (7, .slice ao6 s2.2.1.length cp6), (9, .pointer (some ⟨w1.heap.size, 0, none⟩)), (10, .pointer (some ⟨w3.heap.size, 0, none⟩)), (13, .slice ao1 p_l.length cp1), (14, .int .i64 ((p_l.length : Nat) : Int)), (15, .int .i64 s2.2.2), (32, strV ((gt p_l s2.2.2).2.2.2.1)), (34, .int .u64 ((gt p_l s2.2.2).2.2.2.2.1))]) hf (by kernel_rfl)
      refine st tbOk 1 [1, 6, 7, 9, 10, 13, 14, 15, 32, 34, 35] (L' := [(1, .slice ao2 files.length cp2), (6, .slice ao5 s2.1.length cp5), (7, .slice ao6 s2.2.1.length cp6), (9, .pointer (some ⟨w1.heap.size, 0, none⟩)), (10, .pointer (some ⟨w3.heap.size, 0, none⟩)), (13, .slice ao1 p_l.length cp1), (14, .int .i64 ((p_l.length : Nat) : Int)), (15, .int .i64 s2.2.2), (32, strV ((gt p_l s2.2.2).2.2.2.1)), (34, .int .u64 ((gt p_l s2.2.2).2.2.2.2.1)), (35, .slice ao2 files.length cp2)]) hf (by kernel_rfl) ?_
      clear hf; clear a; intro a hf
      have hT := of_bd hS; clear hS; obtain ⟨z1, hz1, hS⟩ := hT
      refine clV ent15 (vs := [strV ((gt p_l s2.2.2).2.2.2.1), .int .u64 ((gt p_l s2.2.2).2.2.2.2.1), .slice ao2 files.length cp2]) (caps := []) hf (by kernel_rfl) (by kernel_rfl) (by kernel_rfl) (by kernel_rfl) (dedup_Origin_ok (file := (gt p_l s2.2.2).2.2.2.1) (off := (gt p_l s2.2.2).2.2.2.2.1) (files := files) (hs.enter [6] rfl rfl) hz1) ?_
      clear hf; clear a; intro v w6 a hT hf; obtain ⟨ao8, cp8, F3, rfl, hr⟩ := hT
      replace hs : Sep w F R w6 F3 [.row 5 (tI .u8) (.slice ao8 z1.1.length cp8) z1.1, .box w3.heap.size 58 [.int .u64 ((gt p_l s2.2.2).1), .int .i64 ((gt p_l s2.2.2).2.1), .bool ((gt p_l s2.2.2).2.2.1), strV ((gt p_l s2.2.2).2.2.2.1), .int .u64 ((gt p_l s2.2.2).2.2.2.2.1), .bool false, .int .u32 0], .box w1.heap.size 56 [.int .u64 ((gt p_l s2.2.2).1), .int .i64 ((gt p_l s2.2.2).2.1), .bool ((gt p_l s2.2.2).2.2.1), strV ((gt p_l s2.2.2).2.2.2.1), .int .u64 ((gt p_l s2.2.2).2.2.2.2.1), .slice ao7 ((gt p_l s2.2.2).2.2.2.2.2).length cp7], .ro (tI .u8) (.slice ao7 ((gt p_l s2.2.2).2.2.2.2.2).length cp7) ((gt p_l s2.2.2).2.2.2.2.2), .row 58 ty57 (.slice ao5 s2.1.length cp5) s2.1, .row 5 (tI .u8) (.slice ao6 s2.2.1.length cp6) s2.2.1, .ro ty55 (.slice ao1 p_l.length cp1) p_l, .ro ty60 (.slice ao2 files.length cp2) files] := hs.back [6] [0, 1, 2, 3, 4, 5, 6] rfl rfl rfl rfl hr
      clear hr
      replace hf := Fr.keep (ks := [1, 6, 7, 9, 10, 13, 14, 15, 36]) (L' := [(1, .slice ao2 files.length cp2), (6, .slice ao5 s2.1.length cp5), (7, .slice ao6 s2.2.1.length cp6), (9, .pointer (some ⟨w1.heap.size, 0, none⟩)), (10, .pointer (some ⟨w3.heap.size, 0, none⟩)), (13, .slice ao1 p_l.length cp1), (14, .int .i64 ((p_l.length : Nat) : Int)), (15, .int .i64 s2.2.2), (36, .tuple #[.slice ao8 z1.1.length cp8, .bool z1.2])]) hf (by kernel_rfl)
      refine st tbOk 5 [1, 6, 7, 9, 10, 11, 12, 13, 14, 15] (L' := [(1, .slice ao2 files.length cp2), (6, .slice ao5 s2.1.length cp5), (7, .slice ao6 s2.2.1.length cp6), (9, .pointer (some ⟨w1.heap.size, 0, none⟩)), (10, .pointer (some ⟨w3.heap.size, 0, none⟩)), (11, .slice ao8 z1.1.length cp8), (12, .bool z1.2), (13, .slice ao1 p_l.length cp1), (14, .int .i64 ((p_l.length : Nat) : Int)), (15, .int .i64 s2.2.2)]) hf (by kernel_rfl) ?_
      clear hf; clear a; intro a hf
      refine wpList_nil ?_
      refine sq ?_
      refine ctj (fun (s3 : Bool) (a : Act) (w' : World) => ∃ (F4 : SH), Sep w F R w' F4 [.row 5 (tI .u8) (.slice ao8 z1.1.length cp8) z1.1, .box w3.heap.size 58 [.int .u64 ((gt p_l s2.2.2).1), .int .i64 ((gt p_l s2.2.2).2.1), .bool ((gt p_l s2.2.2).2.2.1), strV ((gt p_l s2.2.2).2.2.2.1), .int .u64 ((gt p_l s2.2.2).2.2.2.2.1), .bool false, .int .u32 0], .box w1.heap.size 56 [.int .u64 ((gt p_l s2.2.2).1), .int .i64 ((gt p_l s2.2.2).2.1), .bool ((gt p_l s2.2.2).2.2.1), strV ((gt p_l s2.2.2).2.2.2.1), .int .u64 ((gt p_l s2.2.2).2.2.2.2.1), .slice ao7 ((gt p_l s2.2.2).2.2.2.2.2).length cp7], .ro (tI .u8) (.slice ao7 ((gt p_l s2.2.2).2.2.2.2.2).length cp7) ((gt p_l s2.2.2).2.2.2.2.2), .row 58 ty57 (.slice ao5 s2.1.length cp5) s2.1, .row 5 (tI .u8) (.slice ao6 s2.2.1.length cp6) s2.2.1, .ro ty55 (.slice ao1 p_l.length cp1) p_l, .ro ty60 (.slice ao2 files.length cp2) files] ∧ Fr 61 [(1, .slice ao2 files.length cp2), (6, .slice ao5 s2.1.length cp5), (7, .slice ao6 s2.2.1.length cp6), (9, .pointer (some ⟨w1.heap.size, 0, none⟩)), (10, .pointer (some ⟨w3.heap.size, 0, none⟩)), (11, .slice ao8 z1.1.length cp8), (13, .slice ao1 p_l.length cp1), (14, .int .i64 ((p_l.length : Nat) : Int)), (15, .int .i64 s2.2.2), (45, .bool s3)] a) hS ?_ ?_
      · clear hS hf hs; clear a; intro s3 a w8 hM hS
        obtain ⟨F4, hs, hf⟩ := hM
        refine ctj (fun (s4 : (List Int) × (Int × Int × Bool × (List UInt8) × Int × Bool × Int)) (a : Act) (w' : World) => ∃ (ao9 : Option Addr) (cp9 : Nat) (F6 : SH), Sep w F R w' F6 [.row 5 (tI .u8) (.slice ao9 s4.1.length cp9) s4.1, .box w3.heap.size 58 [.int .u64 s4.2.1, .int .i64 s4.2.2.1, .bool s4.2.2.2.1, strV s4.2.2.2.2.1, .int .u64 s4.2.2.2.2.2.1, .bool s4.2.2.2.2.2.2.1, .int .u32 s4.2.2.2.2.2.2.2], .row 58 ty57 (.slice ao5 s2.1.length cp5) s2.1, .ro ty55 (.slice ao1 p_l.length cp1) p_l, .ro ty60 (.slice ao2 files.length cp2) files] ∧ Fr 61 [(1, .slice ao2 files.length cp2), (6, .slice ao5 s2.1.length cp5), (7, .slice ao9 s4.1.length cp9), (10, .pointer (some ⟨w3.heap.size, 0, none⟩)), (13, .slice ao1 p_l.length cp1), (14, .int .i64 ((p_l.length : Nat) : Int)), (15, .int .i64 s2.2.2)] a) hS ?_ ?_
        · clear hS hf hs; clear a; intro s4 a w13 hM hS
          obtain ⟨ao9, cp9, F6, hs, hf⟩ := hM
          refine reg ?_
          refine st tbOk 1 [1, 7, 10, 13, 14, 15, 54] (L' := [(1, .slice ao2 files.length cp2), (7, .slice ao9 s4.1.length cp9), (10, .pointer (some ⟨w3.heap.size, 0, none⟩)), (13, .slice ao1 p_l.length cp1), (14, .int .i64 ((p_l.length : Nat) : Int)), (15, .int .i64 s2.2.2), (54, .slice ao5 s2.1.length cp5)]) hf (by kernel_rfl) ?_
          clear hf; clear a; intro a hf
          refine ldC tbOk (T := 58) (hs.cbx 1 rfl) (LeH.refl _) 0 (.agg #[.int .u64 s4.2.1, .int .i64 s4.2.2.1, .bool s4.2.2.2.1, strV s4.2.2.2.2.1, .int .u64 s4.2.2.2.2.2.1, .bool s4.2.2.2.2.2.2.1, .int .u32 s4.2.2.2.2.2.2.2]) hf (by kernel_rfl) (by kernel_rfl) (by kernel_rfl) (by kernel_rfl) ?_
          clear hf; clear a; intro a hf
          replace hs : Sep w F R w13 F6 [.row 5 (tI .u8) (.slice ao9 s4.1.length cp9) s4.1, .row 58 ty57 (.slice ao5 s2.1.length cp5) s2.1, .ro ty55 (.slice ao1 p_l.length cp1) p_l, .ro ty60 (.slice ao2 files.length cp2) files] := hs.sel [0, 2, 3, 4] rfl rfl
          replace hf := Fr.keep (ks := [1, 7, 13, 14, 15, 54, 55]) (L' := [(1, .slice ao2 files.length cp2), (7, .slice ao9 s4.1.length cp9), (13, .slice ao1 p_l.length cp1), (14, .int .i64 ((p_l.length : Nat) : Int)), (15, .int .i64 s2.2.2), (54, .slice ao5 s2.1.length cp5), (55, .agg #[.int .u64 s4.2.1, .int .i64 s4.2.2.1, .bool s4.2.2.2.1, strV s4.2.2.2.2.1, .int .u64 s4.2.2.2.2.2.1, .bool s4.2.2.2.2.2.2.1, .int .u32 s4.2.2.2.2.2.2.2])]) hf (by kernel_rfl)
          refine bsR tbOk u36 i58 rfl (t := ty57) (vs := [(0, .agg #[.int .u64 s4.2.1, .int .i64 s4.2.2.1, .bool s4.2.2.2.1, strV s4.2.2.2.2.1, .int .u64 s4.2.2.2.2.2.1, .bool s4.2.2.2.2.2.2.1, .int .u32 s4.2.2.2.2.2.2.2])]) (cells := #[.int .u64 s4.2.1, .int .i64 s4.2.2.1, .bool s4.2.2.2.1, strV s4.2.2.2.2.1, .int .u64 s4.2.2.2.2.2.1, .bool s4.2.2.2.2.2.2.1, .int .u32 s4.2.2.2.2.2.2.2]) ([(s4.2.1, s4.2.2.1, s4.2.2.2.1, s4.2.2.2.2.1, s4.2.2.2.2.2.1, s4.2.2.2.2.2.2.1, s4.2.2.2.2.2.2.2)] : List (Int × Int × Bool × (List UInt8) × Int × Bool × Int)) hs.le hf (by kernel_rfl) (by kernel_rfl) (by kernel_rfl) rfl (by kernel_rfl) (reps_flat _) rfl ?_
          clear hf; clear a; intro w14 a ho hx hf
          replace hs : Sep w F R w14 F6 [.row 58 ty57 (.slice (some ⟨w13.heap.size, 0, none⟩) ([(s4.2.1, s4.2.2.1, s4.2.2.2.1, s4.2.2.2.2.1, s4.2.2.2.2.2.1, s4.2.2.2.2.2.2.1, s4.2.2.2.2.2.2.2)] : List (Int × Int × Bool × (List UInt8) × Int × Bool × Int)).length ([(s4.2.1, s4.2.2.1, s4.2.2.2.1, s4.2.2.2.2.1, s4.2.2.2.2.2.1, s4.2.2.2.2.2.2.1, s4.2.2.2.2.2.2.2)] : List (Int × Int × Bool × (List UInt8) × Int × Bool × Int)).length) ([(s4.2.1, s4.2.2.1, s4.2.2.2.1, s4.2.2.2.2.1, s4.2.2.2.2.2.1, s4.2.2.2.2.2.2.1, s4.2.2.2.2.2.2.2)] : List (Int × Int × Bool × (List UInt8) × Int × Bool × Int)), .row 5 (tI .u8) (.slice ao9 s4.1.length cp9) s4.1, .row 58 ty57 (.slice ao5 s2.1.length cp5) s2.1, .ro ty55 (.slice ao1 p_l.length cp1) p_l, .ro ty60 (.slice ao2 files.length cp2) files] := hs.newRow ho hx
          clear ho hx
          replace hf := Fr.keep (ks := [1, 7, 13, 14, 15, 54, 56]) (L' := [(1, .slice ao2 files.length cp2), (7, .slice ao9 s4.1.length cp9), (13, .slice ao1 p_l.length cp1), (14, .int .i64 ((p_l.length : Nat) : Int)), (15, .int .i64 s2.2.2), (54, .slice ao5 s2.1.length cp5), (56, .slice (some ⟨w13.heap.size, 0, none⟩) ([(s4.2.1, s4.2.2.1, s4.2.2.2.1, s4.2.2.2.2.1, s4.2.2.2.2.2.1, s4.2.2.2.2.2.2.1, s4.2.2.2.2.2.2.2)] : List (Int × Int × Bool × (List UInt8) × Int × Bool × Int)).length ([(s4.2.1, s4.2.2.1, s4.2.2.2.1, s4.2.2.2.2.1, s4.2.2.2.2.2.1, s4.2.2.2.2.2.2.1, s4.2.2.2.2.2.2.2)] : List (Int × Int × Bool × (List UInt8) × Int × Bool × Int)).length)]) hf (by kernel_rfl)
          have hT := of_gd hS; clear hS; obtain ⟨hc3, hS⟩ := hT
          refine apR tbOk u36 i58 rfl rfl rfl rfl hs.le (hs.own 2 rfl) (hs.raW 0 rfl) hc3 hf (by kernel_rfl) (by kernel_rfl) (by kernel_rfl) (by kernel_rfl) ?_
          clear hf; clear a; intro ao11 cp11 w15 a ho hg hl hf
          replace hs : Sep w F R w15 F6 [.row 58 ty57 (.slice (some ⟨w13.heap.size, 0, none⟩) ([(s4.2.1, s4.2.2.1, s4.2.2.2.1, s4.2.2.2.2.1, s4.2.2.2.2.2.1, s4.2.2.2.2.2.2.1, s4.2.2.2.2.2.2.2)] : List (Int × Int × Bool × (List UInt8) × Int × Bool × Int)).length ([(s4.2.1, s4.2.2.1, s4.2.2.2.1, s4.2.2.2.2.1, s4.2.2.2.2.2.1, s4.2.2.2.2.2.2.1, s4.2.2.2.2.2.2.2)] : List (Int × Int × Bool × (List UInt8) × Int × Bool × Int)).length) ([(s4.2.1, s4.2.2.1, s4.2.2.2.1, s4.2.2.2.2.1, s4.2.2.2.2.2.1, s4.2.2.2.2.2.2.1, s4.2.2.2.2.2.2.2)] : List (Int × Int × Bool × (List UInt8) × Int × Bool × Int)), .row 5 (tI .u8) (.slice ao9 s4.1.length cp9) s4.1, .row 58 ty57 (.slice ao11 (s2.1 ++ ([(s4.2.1, s4.2.2.1, s4.2.2.2.1, s4.2.2.2.2.1, s4.2.2.2.2.2.1, s4.2.2.2.2.2.2.1, s4.2.2.2.2.2.2.2)] : List (Int × Int × Bool × (List UInt8) × Int × Bool × Int))).length cp11) (s2.1 ++ ([(s4.2.1, s4.2.2.1, s4.2.2.2.1, s4.2.2.2.2.1, s4.2.2.2.2.2.1, s4.2.2.2.2.2.2.1, s4.2.2.2.2.2.2.2)] : List (Int × Int × Bool × (List UInt8) × Int × Bool × Int))), .ro ty55 (.slice ao1 p_l.length cp1) p_l, .ro ty60 (.slice ao2 files.length cp2) files] := hs.updRow 2 rfl ho hg hl
          clear ho hg hl
          replace hs : Sep w F R w15 F6 [.row 5 (tI .u8) (.slice ao9 s4.1.length cp9) s4.1, .row 58 ty57 (.slice ao11 (s2.1 ++ ([(s4.2.1, s4.2.2.1, s4.2.2.2.1, s4.2.2.2.2.1, s4.2.2.2.2.2.1, s4.2.2.2.2.2.2.1, s4.2.2.2.2.2.2.2)] : List (Int × Int × Bool × (List UInt8) × Int × Bool × Int))).length cp11) (s2.1 ++ ([(s4.2.1, s4.2.2.1, s4.2.2.2.1, s4.2.2.2.2.1, s4.2.2.2.2.2.1, s4.2.2.2.2.2.2.1, s4.2.2.2.2.2.2.2)] : List (Int × Int × Bool × (List UInt8) × Int × Bool × Int))), .ro ty55 (.slice ao1 p_l.length cp1) p_l, .ro ty60 (.slice ao2 files.length cp2) files] := hs.sel [1, 2, 3, 4] rfl rfl
          replace hf := Fr.keep (ks := [1, 7, 13, 14, 15, 57]) (L' := [(1, .slice ao2 files.length cp2), (7, .slice ao9 s4.1.length cp9), (13, .slice ao1 p_l.length cp1), (14, .int .i64 ((p_l.length : Nat) : Int)), (15, .int .i64 s2.2.2), (57, .slice ao11 (s2.1 ++ ([(s4.2.1, s4.2.2.1, s4.2.2.2.1, s4.2.2.2.2.1, s4.2.2.2.2.2.1, s4.2.2.2.2.2.2.1, s4.2.2.2.2.2.2.2)] : List (Int × Int × Bool × (List UInt8) × Int × Bool × Int))).length cp11)]) hf (by kernel_rfl)
          refine st tbOk 1 [1, 6, 7, 13, 14, 15] (L' := [(1, .slice ao2 files.length cp2), (6, .slice ao11 (s2.1 ++ ([(s4.2.1, s4.2.2.1, s4.2.2.2.1, s4.2.2.2.2.1, s4.2.2.2.2.2.1, s4.2.2.2.2.2.2.1, s4.2.2.2.2.2.2.2)] : List (Int × Int × Bool × (List UInt8) × Int × Bool × Int))).length cp11), (7, .slice ao9 s4.1.length cp9), (13, .slice ao1 p_l.length cp1), (14, .int .i64 ((p_l.length : Nat) : Int)), (15, .int .i64 s2.2.2)]) hf (by kernel_rfl) ?_
          clear hf; clear a; intro a hf
          refine wpList_nil ?_
          refine reg ?_
          refine st tbOk 2 [1, 6, 7, 13, 14, 15] (L' := [(1, .slice ao2 files.length cp2), (6, .slice ao11 (s2.1 ++ ([(s4.2.1, s4.2.2.1, s4.2.2.2.1, s4.2.2.2.2.1, s4.2.2.2.2.2.1, s4.2.2.2.2.2.2.1, s4.2.2.2.2.2.2.2)] : List (Int × Int × Bool × (List UInt8) × Int × Bool × Int))).length cp11), (7, .slice ao9 s4.1.length cp9), (13, .slice ao1 p_l.length cp1), (14, .int .i64 ((p_l.length : Nat) : Int)), (15, .int .i64 (IntKind.i64.wrap (s2.2.2 + 1)))]) hf (by kernel_rfl) ?_
          clear hf; clear a; intro a hf
          refine wpList_nil ?_
          exact hK2 ((s2.1 ++ ([(s4.2.1, s4.2.2.1, s4.2.2.2.1, s4.2.2.2.2.1, s4.2.2.2.2.2.1, s4.2.2.2.2.2.2.1, s4.2.2.2.2.2.2.2)] : List (Int × Int × Bool × (List UInt8) × Int × Bool × Int))), s4.1, IntKind.i64.wrap (s2.2.2 + 1)) _ _ ⟨ao11, cp11, ao9, cp9, _, hs.sel [1, 0, 2, 3] rfl rfl, hf.keep (ks := [1, 6, 7, 13, 14, 15]) (by kernel_rfl)⟩ hS
        · clear hS; intro KK4 k3 hK4 hS
          refine cnd (b := s3) hf (by kernel_rfl) (fun hb3 => ?_) (fun hb3 => ?_)
          · replace hS := of_t hb3 hS
            refine reg ?_
            refine st tbOk 1 [1, 6, 7, 10, 13, 14, 15, 46] (L' := [(1, .slice ao2 files.length cp2), (6, .slice ao5 s2.1.length cp5), (7, .slice ao6 s2.2.1.length cp6), (10, .pointer (some ⟨w3.heap.size, 0, none⟩)), (13, .slice ao1 p_l.length cp1), (14, .int .i64 ((p_l.length : Nat) : Int)), (15, .int .i64 s2.2.2), (46, .slice ao8 z1.1.length cp8)]) hf (by kernel_rfl) ?_
            clear hf; clear a; intro a hf
            have hT := of_bd hS; clear hS; obtain ⟨z3, hz3, hS⟩ := hT
            refine clV ent17 (vs := [.slice ao8 z1.1.length cp8]) (caps := []) hf (by kernel_rfl) (by kernel_rfl) (by kernel_rfl) (by kernel_rfl) (dedup_Sum_ok (b := z1.1) (hs.lend [0] [] rfl rfl rfl rfl rfl) hz3) ?_
            clear hf; clear a; intro v w9 a hT hf; obtain ⟨F7, rfl, hr⟩ := hT
            replace hs : Sep w F R w9 F4 [.row 5 (tI .u8) (.slice ao8 z1.1.length cp8) z1.1, .box w3.heap.size 58 [.int .u64 ((gt p_l s2.2.2).1), .int .i64 ((gt p_l s2.2.2).2.1), .bool ((gt p_l s2.2.2).2.2.1), strV ((gt p_l s2.2.2).2.2.2.1), .int .u64 ((gt p_l s2.2.2).2.2.2.2.1), .bool false, .int .u32 0], .box w1.heap.size 56 [.int .u64 ((gt p_l s2.2.2).1), .int .i64 ((gt p_l s2.2.2).2.1), .bool ((gt p_l s2.2.2).2.2.1), strV ((gt p_l s2.2.2).2.2.2.1), .int .u64 ((gt p_l s2.2.2).2.2.2.2.1), .slice ao7 ((gt p_l s2.2.2).2.2.2.2.2).length cp7], .ro (tI .u8) (.slice ao7 ((gt p_l s2.2.2).2.2.2.2.2).length cp7) ((gt p_l s2.2.2).2.2.2.2.2), .row 58 ty57 (.slice ao5 s2.1.length cp5) s2.1, .row 5 (tI .u8) (.slice ao6 s2.2.1.length cp6) s2.2.1, .ro ty55 (.slice ao1 p_l.length cp1) p_l, .ro ty60 (.slice ao2 files.length cp2) files] := hs.backL [0] [] [0, 1, 2, 3, 4, 5, 6, 7] rfl rfl rfl rfl rfl rfl hr trivial
            clear hr
            replace hs : Sep w F R w9 F4 [.box w3.heap.size 58 [.int .u64 ((gt p_l s2.2.2).1), .int .i64 ((gt p_l s2.2.2).2.1), .bool ((gt p_l s2.2.2).2.2.1), strV ((gt p_l s2.2.2).2.2.2.1), .int .u64 ((gt p_l s2.2.2).2.2.2.2.1), .bool false, .int .u32 0], .row 58 ty57 (.slice ao5 s2.1.length cp5) s2.1, .row 5 (tI .u8) (.slice ao6 s2.2.1.length cp6) s2.2.1, .ro ty55 (.slice ao1 p_l.length cp1) p_l, .ro ty60 (.slice ao2 files.length cp2) files] := hs.sel [1, 4, 5, 6, 7] rfl rfl
            replace hf := Fr.keep (ks := [1, 6, 7, 10, 13, 14, 15, 47]) (L' := [(1, .slice ao2 files.length cp2), (6, .slice ao5 s2.1.length cp5), (7, .slice ao6 s2.2.1.length cp6), (10, .pointer (some ⟨w3.heap.size, 0, none⟩)), (13, .slice ao1 p_l.length cp1), (14, .int .i64 ((p_l.length : Nat) : Int)), (15, .int .i64 s2.2.2), (47, .int .u32 z3)]) hf (by kernel_rfl)
            refine st tbOk 1 [1, 6, 7, 10, 13, 14, 15, 47, 48] (L' := [(1, .slice ao2 files.length cp2), (6, .slice ao5 s2.1.length cp5), (7, .slice ao6 s2.2.1.length cp6), (10, .pointer (some ⟨w3.heap.size, 0, none⟩)), (13, .slice ao1 p_l.length cp1), (14, .int .i64 ((p_l.length : Nat) : Int)), (15, .int .i64 s2.2.2), (47, .int .u32 z3), (48, .pointer (some ⟨w3.heap.size, 6, none⟩))]) hf (by kernel_rfl) ?_
            clear hf; clear a; intro a hf
            refine stB tbOk i31 (hs.bx 0 rfl) 6 [.int .u32 z3] [.int .u64 ((gt p_l s2.2.2).1), .int .i64 ((gt p_l s2.2.2).2.1), .bool ((gt p_l s2.2.2).2.2.1), strV ((gt p_l s2.2.2).2.2.2.1), .int .u64 ((gt p_l s2.2.2).2.2.2.2.1), .bool false, .int .u32 z3] (v := .int .u32 z3) rfl rfl (by kernel_rfl) (by kernel_rfl) (by kernel_rfl) (by kernel_rfl) hf (by kernel_rfl) (by kernel_rfl) (by kernel_rfl) ?_
            clear hf; clear a; intro w10 a hb hg _ hf
            replace hs : Sep w F R w10 F4 [.box w3.heap.size 58 [.int .u64 ((gt p_l s2.2.2).1), .int .i64 ((gt p_l s2.2.2).2.1), .bool ((gt p_l s2.2.2).2.2.1), strV ((gt p_l s2.2.2).2.2.2.1), .int .u64 ((gt p_l s2.2.2).2.2.2.2.1), .bool false, .int .u32 z3], .row 58 ty57 (.slice ao5 s2.1.length cp5) s2.1, .row 5 (tI .u8) (.slice ao6 s2.2.1.length cp6) s2.2.1, .ro ty55 (.slice ao1 p_l.length cp1) p_l, .ro ty60 (.slice ao2 files.length cp2) files] := hs.updBox 0 rfl hb hg
            clear hb hg
            replace hf := Fr.keep (ks := [1, 6, 7, 10, 13, 14, 15]) (L' := [(1, .slice ao2 files.length cp2), (6, .slice ao5 s2.1.length cp5), (7, .slice ao6 s2.2.1.length cp6), (10, .pointer (some ⟨w3.heap.size, 0, none⟩)), (13, .slice ao1 p_l.length cp1), (14, .int .i64 ((p_l.length : Nat) : Int)), (15, .int .i64 s2.2.2)]) hf (by kernel_rfl)
            refine wpList_nil ?_
            exact hK4 (s2.2.1, ((gt p_l s2.2.2).1, (gt p_l s2.2.2).2.1, (gt p_l s2.2.2).2.2.1, (gt p_l s2.2.2).2.2.2.1, (gt p_l s2.2.2).2.2.2.2.1, false, z3)) _ _ ⟨ao6, cp6, _, hs.sel [2, 0, 1, 3, 4] rfl rfl, hf.keep (ks := [1, 6, 7, 10, 13, 14, 15]) (by kernel_rfl)⟩ hS
          · replace hS := of_f hb3 hS
            refine sq ?_
            refine reg ?_
            refine st tbOk 1 [1, 6, 7, 9, 10, 13, 14, 15, 49] (L' := [(1, .slice ao2 files.length cp2), (6, .slice ao5 s2.1.length cp5), (7, .slice ao6 s2.2.1.length cp6), (9, .pointer (some ⟨w1.heap.size, 0, none⟩)), (10, .pointer (some ⟨w3.heap.size, 0, none⟩)), (13, .slice ao1 p_l.length cp1), (14, .int .i64 ((p_l.length : Nat) : Int)), (15, .int .i64 s2.2.2), (49, .pointer (some ⟨w3.heap.size, 5, none⟩))]) hf (by kernel_rfl) ?_
            clear hf; clear a; intro a hf
            refine stB tbOk i4 (hs.bx 1 rfl) 5 [.bool true] [.int .u64 ((gt p_l s2.2.2).1), .int .i64 ((gt p_l s2.2.2).2.1), .bool ((gt p_l s2.2.2).2.2.1), strV ((gt p_l s2.2.2).2.2.2.1), .int .u64 ((gt p_l s2.2.2).2.2.2.2.1), .bool true, .int .u32 0] (v := .bool true) rfl rfl (by kernel_rfl) (by kernel_rfl) (by kernel_rfl) (by kernel_rfl) hf (by kernel_rfl) (by kernel_rfl) (by kernel_rfl) ?_
            clear hf; clear a; intro w11 a hb hg _ hf
            replace hs : Sep w F R w11 F4 [.row 5 (tI .u8) (.slice ao8 z1.1.length cp8) z1.1, .box w3.heap.size 58 [.int .u64 ((gt p_l s2.2.2).1), .int .i64 ((gt p_l s2.2.2).2.1), .bool ((gt p_l s2.2.2).2.2.1), strV ((gt p_l s2.2.2).2.2.2.1), .int .u64 ((gt p_l s2.2.2).2.2.2.2.1), .bool true, .int .u32 0], .box w1.heap.size 56 [.int .u64 ((gt p_l s2.2.2).1), .int .i64 ((gt p_l s2.2.2).2.1), .bool ((gt p_l s2.2.2).2.2.1), strV ((gt p_l s2.2.2).2.2.2.1), .int .u64 ((gt p_l s2.2.2).2.2.2.2.1), .slice ao7 ((gt p_l s2.2.2).2.2.2.2.2).length cp7], .ro (tI .u8) (.slice ao7 ((gt p_l s2.2.2).2.2.2.2.2).length cp7) ((gt p_l s2.2.2).2.2.2.2.2), .row 58 ty57 (.slice ao5 s2.1.length cp5) s2.1, .row 5 (tI .u8) (.slice ao6 s2.2.1.length cp6) s2.2.1, .ro ty55 (.slice ao1 p_l.length cp1) p_l, .ro ty60 (.slice ao2 files.length cp2) files] := hs.updBox 1 rfl hb hg
            clear hb hg
            replace hs : Sep w F R w11 F4 [.box w3.heap.size 58 [.int .u64 ((gt p_l s2.2.2).1), .int .i64 ((gt p_l s2.2.2).2.1), .bool ((gt p_l s2.2.2).2.2.1), strV ((gt p_l s2.2.2).2.2.2.1), .int .u64 ((gt p_l s2.2.2).2.2.2.2.1), .bool true, .int .u32 0], .box w1.heap.size 56 [.int .u64 ((gt p_l s2.2.2).1), .int .i64 ((gt p_l s2.2.2).2.1), .bool ((gt p_l s2.2.2).2.2.1), strV ((gt p_l s2.2.2).2.2.2.1), .int .u64 ((gt p_l s2.2.2).2.2.2.2.1), .slice ao7 ((gt p_l s2.2.2).2.2.2.2.2).length cp7], .ro (tI .u8) (.slice ao7 ((gt p_l s2.2.2).2.2.2.2.2).length cp7) ((gt p_l s2.2.2).2.2.2.2.2), .row 58 ty57 (.slice ao5 s2.1.length cp5) s2.1, .row 5 (tI .u8) (.slice ao6 s2.2.1.length cp6) s2.2.1, .ro ty55 (.slice ao1 p_l.length cp1) p_l, .ro ty60 (.slice ao2 files.length cp2) files] := hs.sel [1, 2, 3, 4, 5, 6, 7] rfl rfl
            replace hf := Fr.keep (ks := [1, 6, 7, 9, 10, 13, 14, 15]) (L' := [(1, .slice ao2 files.length cp2), (6, .slice ao5 s2.1.length cp5), (7, .slice ao6 s2.2.1.length cp6), (9, .pointer (some ⟨w1.heap.size, 0, none⟩)), (10, .pointer (some ⟨w3.heap.size, 0, none⟩)), (13, .slice ao1 p_l.length cp1), (14, .int .i64 ((p_l.length : Nat) : Int)), (15, .int .i64 s2.2.2)]) hf (by kernel_rfl)
            refine wpList_nil ?_
            refine reg ?_
            refine st tbOk 2 [1, 6, 10, 13, 14, 15, 50, 51] (L' := [(1, .slice ao2 files.length cp2), (6, .slice ao5 s2.1.length cp5), (10, .pointer (some ⟨w3.heap.size, 0, none⟩)), (13, .slice ao1 p_l.length cp1), (14, .int .i64 ((p_l.length : Nat) : Int)), (15, .int .i64 s2.2.2), (50, .slice ao6 s2.2.1.length cp6), (51, .pointer (some ⟨w1.heap.size, 5, none⟩))]) hf (by kernel_rfl) ?_
            clear hf; clear a; intro a hf
            refine ldC tbOk (T := 22) (hs.cbx 1 rfl) (LeH.refl _) 5 (.slice ao7 ((gt p_l s2.2.2).2.2.2.2.2).length cp7) hf (by kernel_rfl) (by kernel_rfl) (by kernel_rfl) (by kernel_rfl) ?_
            clear hf; clear a; intro a hf
            replace hs : Sep w F R w11 F4 [.box w3.heap.size 58 [.int .u64 ((gt p_l s2.2.2).1), .int .i64 ((gt p_l s2.2.2).2.1), .bool ((gt p_l s2.2.2).2.2.1), strV ((gt p_l s2.2.2).2.2.2.1), .int .u64 ((gt p_l s2.2.2).2.2.2.2.1), .bool true, .int .u32 0], .ro (tI .u8) (.slice ao7 ((gt p_l s2.2.2).2.2.2.2.2).length cp7) ((gt p_l s2.2.2).2.2.2.2.2), .row 58 ty57 (.slice ao5 s2.1.length cp5) s2.1, .row 5 (tI .u8) (.slice ao6 s2.2.1.length cp6) s2.2.1, .ro ty55 (.slice ao1 p_l.length cp1) p_l, .ro ty60 (.slice ao2 files.length cp2) files] := hs.sel [0, 2, 3, 4, 5, 6] rfl rfl
            replace hf := Fr.keep (ks := [1, 6, 10, 13, 14, 15, 50, 52]) (L' := [(1, .slice ao2 files.length cp2), (6, .slice ao5 s2.1.length cp5), (10, .pointer (some ⟨w3.heap.size, 0, none⟩)), (13, .slice ao1 p_l.length cp1), (14, .int .i64 ((p_l.length : Nat) : Int)), (15, .int .i64 s2.2.2), (50, .slice ao6 s2.2.1.length cp6), (52, .slice ao7 ((gt p_l s2.2.2).2.2.2.2.2).length cp7)]) hf (by kernel_rfl)
            have hT := of_gd hS; clear hS; obtain ⟨hc2, hS⟩ := hT
            refine apR tbOk u22 i5 rfl rfl rfl rfl hs.le (hs.own 3 rfl) (hs.raR 1 rfl) hc2 hf (by kernel_rfl) (by kernel_rfl) (by kernel_rfl) (by kernel_rfl) ?_
            clear hf; clear a; intro ao10 cp10 w12 a ho hg hl hf
            replace hs : Sep w F R w12 F4 [.box w3.heap.size 58 [.int .u64 ((gt p_l s2.2.2).1), .int .i64 ((gt p_l s2.2.2).2.1), .bool ((gt p_l s2.2.2).2.2.1), strV ((gt p_l s2.2.2).2.2.2.1), .int .u64 ((gt p_l s2.2.2).2.2.2.2.1), .bool true, .int .u32 0], .ro (tI .u8) (.slice ao7 ((gt p_l s2.2.2).2.2.2.2.2).length cp7) ((gt p_l s2.2.2).2.2.2.2.2), .row 58 ty57 (.slice ao5 s2.1.length cp5) s2.1, .row 5 (tI .u8) (.slice ao10 (s2.2.1 ++ ((gt p_l s2.2.2).2.2.2.2.2)).length cp10) (s2.2.1 ++ ((gt p_l s2.2.2).2.2.2.2.2)), .ro ty55 (.slice ao1 p_l.length cp1) p_l, .ro ty60 (.slice ao2 files.length cp2) files] := hs.updRow 3 rfl ho hg hl
            clear ho hg hl
            replace hs : Sep w F R w12 F4 [.box w3.heap.size 58 [.int .u64 ((gt p_l s2.2.2).1), .int .i64 ((gt p_l s2.2.2).2.1), .bool ((gt p_l s2.2.2).2.2.1), strV ((gt p_l s2.2.2).2.2.2.1), .int .u64 ((gt p_l s2.2.2).2.2.2.2.1), .bool true, .int .u32 0], .row 58 ty57 (.slice ao5 s2.1.length cp5) s2.1, .row 5 (tI .u8) (.slice ao10 (s2.2.1 ++ ((gt p_l s2.2.2).2.2.2.2.2)).length cp10) (s2.2.1 ++ ((gt p_l s2.2.2).2.2.2.2.2)), .ro ty55 (.slice ao1 p_l.length cp1) p_l, .ro ty60 (.slice ao2 files.length cp2) files] := hs.sel [0, 2, 3, 4, 5] rfl rfl
            replace hf := Fr.keep (ks := [1, 6, 10, 13, 14, 15, 53]) (L' := [(1, .slice ao2 files.length cp2), (6, .slice ao5 s2.1.length cp5), (10, .pointer (some ⟨w3.heap.size, 0, none⟩)), (13, .slice ao1 p_l.length cp1), (14, .int .i64 ((p_l.length : Nat) : Int)), (15, .int .i64 s2.2.2), (53, .slice ao10 (s2.2.1 ++ ((gt p_l s2.2.2).2.2.2.2.2)).length cp10)]) hf (by kernel_rfl)
            refine st tbOk 1 [1, 6, 7, 10, 13, 14, 15] (L' := [(1, .slice ao2 files.length cp2), (6, .slice ao5 s2.1.length cp5), (7, .slice ao10 (s2.2.1 ++ ((gt p_l s2.2.2).2.2.2.2.2)).length cp10), (10, .pointer (some ⟨w3.heap.size, 0, none⟩)), (13, .slice ao1 p_l.length cp1), (14, .int .i64 ((p_l.length : Nat) : Int)), (15, .int .i64 s2.2.2)]) hf (by kernel_rfl) ?_
            clear hf; clear a; intro a hf
            refine wpList_nil ?_
            exact hK4 ((s2.2.1 ++ ((gt p_l s2.2.2).2.2.2.2.2)), ((gt p_l s2.2.2).1, (gt p_l s2.2.2).2.1, (gt p_l s2.2.2).2.2.1, (gt p_l s2.2.2).2.2.2.1, (gt p_l s2.2.2).2.2.2.2.1, true, 0)) _ _ ⟨ao10, cp10, _, hs.sel [2, 0, 1, 3, 4] rfl rfl, hf.keep (ks := [1, 6, 7, 10, 13, 14, 15]) (by kernel_rfl)⟩ hS
      · clear hS; intro KK3 k2 hK3 hS
        refine reg ?_
        refine st tbOk 2 [1, 6, 7, 9, 10, 11, 13, 14, 15, 40] (L' := [(1, .slice ao2 files.length cp2), (6, .slice ao5 s2.1.length cp5), (7, .slice ao6 s2.2.1.length cp6), (9, .pointer (some ⟨w1.heap.size, 0, none⟩)), (10, .pointer (some ⟨w3.heap.size, 0, none⟩)), (11, .slice ao8 z1.1.length cp8), (13, .slice ao1 p_l.length cp1), (14, .int .i64 ((p_l.length : Nat) : Int)), (15, .int .i64 s2.2.2), (40, .bool z1.2)]) hf (by kernel_rfl) ?_
        clear hf; clear a; intro a hf
        rcases Bool.eq_false_or_eq_true (z1.2) with hb2 | hb2
        · replace hS := of_t hb2 hS
          replace hf := Fr.cast (L' := [(1, .slice ao2 files.length cp2), (6, .slice ao5 s2.1.length cp5), (7, .slice ao6 s2.2.1.length cp6), (9, .pointer (some ⟨w1.heap.size, 0, none⟩)), (10, .pointer (some ⟨w3.heap.size, 0, none⟩)), (11, .slice ao8 z1.1.length cp8), (13, .slice ao1 p_l.length cp1), (14, .int .i64 ((p_l.length : Nat) : Int)), (15, .int .i64 s2.2.2), (40, .bool true)]) hf (by rw [hb2])
          refine st tbOk 2 [1, 6, 7, 9, 10, 11, 13, 14, 15, 40, 41, 42] (L' := [(1, .slice ao2 files.length cp2), (6, .slice ao5 s2.1.length cp5), (7, .slice ao6 s2.2.1.length cp6), (9, .pointer (some ⟨w1.heap.size, 0, none⟩)), (10, .pointer (some ⟨w3.heap.size, 0, none⟩)), (11, .slice ao8 z1.1.length cp8), (13, .slice ao1 p_l.length cp1), (14, .int .i64 ((p_l.length : Nat) : Int)), (15, .int .i64 s2.2.2), (40, .bool true), (41, .slice ao8 z1.1.length cp8), (42, .pointer (some ⟨w1.heap.size, 5, none⟩))]) hf (by kernel_rfl) ?_
          clear hf; clear a; intro a hf
          refine ldC tbOk (T := 22) (hs.cbx 2 rfl) (LeH.refl _) 5 (.slice ao7 ((gt p_l s2.2.2).2.2.2.2.2).length cp7) hf (by kernel_rfl) (by kernel_rfl) (by kernel_rfl) (by kernel_rfl) ?_
          clear hf; clear a; intro a hf
          replace hf := Fr.keep (ks := [1, 6, 7, 9, 10, 11, 13, 14, 15, 40, 41, 43]) (L' := [(1, .slice ao2 files.length cp2), (6, .slice ao5 s2.1.length cp5), (7, .slice ao6 s2.2.1.length cp6), (9, .pointer (some ⟨w1.heap.size, 0, none⟩)), (10, .pointer (some ⟨w3.heap.size, 0, none⟩)), (11, .slice ao8 z1.1.length cp8), (13, .slice ao1 p_l.length cp1), (14, .int .i64 ((p_l.length : Nat) : Int)), (15, .int .i64 s2.2.2), (40, .bool true), (41, .slice ao8 z1.1.length cp8), (43, .slice ao7 ((gt p_l s2.2.2).2.2.2.2.2).length cp7)]) hf (by kernel_rfl)
          have hT := of_bd hS; clear hS; obtain ⟨z2, hz2, hS⟩ := hT
          refine clV ent38 (vs := [.slice ao8 z1.1.length cp8, .slice ao7 ((gt p_l s2.2.2).2.2.2.2.2).length cp7]) (caps := []) hf (by kernel_rfl) (by kernel_rfl) (by kernel_rfl) (by kernel_rfl) (slices_Equal_byte_byte_ok (p_s1 := z1.1) (p_s2 := (gt p_l s2.2.2).2.2.2.2.2) (hs.lend [0, 3] [] rfl rfl rfl rfl rfl) hz2) ?_
          clear hf; clear a; intro v w7 a hT hf; obtain ⟨F5, rfl, hr⟩ := hT
          replace hs : Sep w F R w7 F3 [.row 5 (tI .u8) (.slice ao8 z1.1.length cp8) z1.1, .box w3.heap.size 58 [.int .u64 ((gt p_l s2.2.2).1), .int .i64 ((gt p_l s2.2.2).2.1), .bool ((gt p_l s2.2.2).2.2.1), strV ((gt p_l s2.2.2).2.2.2.1), .int .u64 ((gt p_l s2.2.2).2.2.2.2.1), .bool false, .int .u32 0], .box w1.heap.size 56 [.int .u64 ((gt p_l s2.2.2).1), .int .i64 ((gt p_l s2.2.2).2.1), .bool ((gt p_l s2.2.2).2.2.1), strV ((gt p_l s2.2.2).2.2.2.1), .int .u64 ((gt p_l s2.2.2).2.2.2.2.1), .slice ao7 ((gt p_l s2.2.2).2.2.2.2.2).length cp7], .ro (tI .u8) (.slice ao7 ((gt p_l s2.2.2).2.2.2.2.2).length cp7) ((gt p_l s2.2.2).2.2.2.2.2), .row 58 ty57 (.slice ao5 s2.1.length cp5) s2.1, .row 5 (tI .u8) (.slice ao6 s2.2.1.length cp6) s2.2.1, .ro ty55 (.slice ao1 p_l.length cp1) p_l, .ro ty60 (.slice ao2 files.length cp2) files] := hs.backL [0, 3] [] [0, 1, 2, 3, 4, 5, 6, 7] rfl rfl rfl rfl rfl rfl hr trivial
          clear hr
          replace hf := Fr.keep (ks := [1, 6, 7, 9, 10, 11, 13, 14, 15, 40, 44]) (L' := [(1, .slice ao2 files.length cp2), (6, .slice ao5 s2.1.length cp5), (7, .slice ao6 s2.2.1.length cp6), (9, .pointer (some ⟨w1.heap.size, 0, none⟩)), (10, .pointer (some ⟨w3.heap.size, 0, none⟩)), (11, .slice ao8 z1.1.length cp8), (13, .slice ao1 p_l.length cp1), (14, .int .i64 ((p_l.length : Nat) : Int)), (15, .int .i64 s2.2.2), (40, .bool true), (44, .bool z2)]) hf (by kernel_rfl)
          refine st tbOk 1 [1, 6, 7, 9, 10, 11, 13, 14, 15, 45] (L' := [(1, .slice ao2 files.length cp2), (6, .slice ao5 s2.1.length cp5), (7, .slice ao6 s2.2.1.length cp6), (9, .pointer (some ⟨w1.heap.size, 0, none⟩)), (10, .pointer (some ⟨w3.heap.size, 0, none⟩)), (11, .slice ao8 z1.1.length cp8), (13, .slice ao1 p_l.length cp1), (14, .int .i64 ((p_l.length : Nat) : Int)), (15, .int .i64 s2.2.2), (45, .bool z2)]) hf (by kernel_rfl) ?_
          clear hf; clear a; intro a hf
          refine wpList_nil ?_
          exact hK3 z2 _ _ ⟨_, hs.sel [0, 1, 2, 3, 4, 5, 6, 7] rfl rfl, hf.keep (ks := [1, 6, 7, 9, 10, 11, 13, 14, 15, 45]) (by kernel_rfl)⟩ hS
        · replace hS := of_f hb2 hS
          replace hf := Fr.cast (L' := [(1, .slice ao2 files.length cp2), (6, .slice ao5 s2.1.length cp5), (7, .slice ao6 s2.2.1.length cp6), (9, .pointer (some ⟨w1.heap.size, 0, none⟩)), (10, .pointer (some ⟨w3.heap.size, 0, none⟩)), (11, .slice ao8 z1.1.length cp8), (13, .slice ao1 p_l.length cp1), (14, .int .i64 ((p_l.length : Nat) : Int)), (15, .int .i64 s2.2.2), (40, .bool false)]) hf (by rw [hb2])
          refine st tbOk 5 [1, 6, 7, 9, 10, 11, 13, 14, 15, 45] (L' := [(1, .slice ao2 files.length cp2), (6, .slice ao5 s2.1.length cp5), (7, .slice ao6 s2.2.1.length cp6), (9, .pointer (some ⟨w1.heap.size, 0, none⟩)), (10, .pointer (some ⟨w3.heap.size, 0, none⟩)), (11, .slice ao8 z1.1.length cp8), (13, .slice ao1 p_l.length cp1), (14, .int .i64 ((p_l.length : Nat) : Int)), (15, .int .i64 s2.2.2), (45, .bool false)]) hf (by kernel_rfl) ?_
          clear hf; clear a; intro a hf
          refine wpList_nil ?_
          exact hK3 false _ _ ⟨_, hs.sel [0, 1, 2, 3, 4, 5, 6, 7] rfl rfl, hf.keep (ks := [1, 6, 7, 9, 10, 11, 13, 14, 15, 45]) (by kernel_rfl)⟩ hS
    · replace hS := of_f hb1 hS
      refine wp_exit ?_
      exact hK1 (s2.1, s2.2.1) _ _ ⟨ao5, cp5, ao6, cp6, _, hs.sel [0, 1] rfl rfl, hf.keep (ks := [6, 7]) (by kernel_rfl)⟩ hS

set_option maxHeartbeats 4000000 in
theorem dedup_Join_1_b_ok {w : World} {F : SH} {p_x : Int × Int × Bool × (List UInt8) × Int × Bool × Int} {q_1 : List ((List UInt8) × (List Int))} {q_2 : List Int} {ao1 : Option Addr} {cp1 : Nat} {b1 : Nat} {ao2 : Option Addr} {cp2 : Nat} {b2 : Nat} (hs : Sep w F (blks [.ro ty60 (.slice ao1 q_1.length cp1) q_1, .ro (tI .u8) (.slice ao2 q_2.length cp2) q_2, .box b1 24 [.slice ao1 q_1.length cp1], .box b2 22 [.slice ao2 q_2.length cp2]]) w F [.ro ty60 (.slice ao1 q_1.length cp1) q_1, .ro (tI .u8) (.slice ao2 q_2.length cp2) q_2, .box b1 24 [.slice ao1 q_1.length cp1], .box b2 22 [.slice ao2 q_2.length cp2]]) {r : (List Int) × Int × (List ((List UInt8) × (List Int))) × (List Int)} (hS : dedup_Join_1_b p_x q_1 q_2 = some r) :
    Calls Try.prog 39 [.agg #[.int .u64 p_x.1, .int .i64 p_x.2.1, .bool p_x.2.2.1, strV p_x.2.2.2.1, .int .u64 p_x.2.2.2.2.1, .bool p_x.2.2.2.2.2.1, .int .u32 p_x.2.2.2.2.2.2], .pointer (some ⟨b1, 0, none⟩), .pointer (some ⟨b2, 0, none⟩)].toArray w (Gives (fun u w' => ∃ (ao7 : Option Addr) (cp7 : Nat) (ao8 : Option Addr) (cp8 : Nat) (ao9 : Option Addr) (cp9 : Nat) (F' : SH), u = .tuple #[.slice ao7 r.1.length cp7, .int .i64 r.2.1] ∧ Sep w F (blks [.ro ty60 (.slice ao1 q_1.length cp1) q_1, .ro (tI .u8) (.slice ao2 q_2.length cp2) q_2, .box b1 24 [.slice ao1 q_1.length cp1], .box b2 22 [.slice ao2 q_2.length cp2]]) w' F' [.row 5 (tI .u8) (.slice ao7 r.1.length cp7) r.1, .box b1 24 [.slice ao8 r.2.2.1.length cp8], .ro ty60 (.slice ao8 r.2.2.1.length cp8) r.2.2.1, .box b2 22 [.slice ao9 r.2.2.2.length cp9], .ro (tI .u8) (.slice ao9 r.2.2.2.length cp9) r.2.2.2])) := by
  generalize (blks [.ro ty60 (.slice ao1 q_1.length cp1) q_1, .ro (tI .u8) (.slice ao2 q_2.length cp2) q_2, .box b1 24 [.slice ao1 q_1.length cp1], .box b2 22 [.slice ao2 q_2.length cp2]]) = R at hs ⊢
  unfold dedup_Join_1_b at hS
  refine fn_ok (vs := [.agg #[.int .u64 p_x.1, .int .i64 p_x.2.1, .bool p_x.2.2.1, strV p_x.2.2.2.1, .int .u64 p_x.2.2.2.2.1, .bool p_x.2.2.2.2.2.1, .int .u32 p_x.2.2.2.2.2.2], .pointer (some ⟨b1, 0, none⟩), .pointer (some ⟨b2, 0, none⟩)]) Try.func39 rfl 45 Try.ntmps39 (Nat.le_of_ble_eq_true rfl) ?_
  intro a hf
  replace hf := Fr.cast (L' := [(0, .agg #[.int .u64 p_x.1, .int .i64 p_x.2.1, .bool p_x.2.2.1, strV p_x.2.2.2.1, .int .u64 p_x.2.2.2.2.1, .bool p_x.2.2.2.2.2.1, .int .u32 p_x.2.2.2.2.2.2]), (1, .pointer (some ⟨b1, 0, none⟩)), (2, .pointer (some ⟨b2, 0, none⟩))]) hf (by kernel_rfl)
  refine sq ?_
  refine reg ?_
  refine bx (T := 58) [.int .u64 p_x.1, .int .i64 p_x.2.1, .bool p_x.2.2.1, strV p_x.2.2.2.1, .int .u64 p_x.2.2.2.2.1, .bool p_x.2.2.2.2.2.1, .int .u32 p_x.2.2.2.2.2.2] (v := .agg #[.int .u64 p_x.1, .int .i64 p_x.2.1, .bool p_x.2.2.1, strV p_x.2.2.2.1, .int .u64 p_x.2.2.2.2.1, .bool p_x.2.2.2.2.2.1, .int .u32 p_x.2.2.2.2.2.2]) rfl (by kernel_rfl) hf (by kernel_rfl) (by kernel_rfl) (by kernel_rfl) ?_
  clear hf; clear a; intro w1 a hb hx _ hf
  replace hs : Sep w F R w1 F [.box w.heap.size 58 [.int .u64 p_x.1, .int .i64 p_x.2.1, .bool p_x.2.2.1, strV p_x.2.2.2.1, .int .u64 p_x.2.2.2.2.1, .bool p_x.2.2.2.2.2.1, .int .u32 p_x.2.2.2.2.2.2], .ro ty60 (.slice ao1 q_1.length cp1) q_1, .ro (tI .u8) (.slice ao2 q_2.length cp2) q_2, .box b1 24 [.slice ao1 q_1.length cp1], .box b2 22 [.slice ao2 q_2.length cp2]] := hs.newBox hb hx
  clear hb hx
  replace hf := Fr.keep (ks := [1, 2, 3]) (L' := [(1, .pointer (some ⟨b1, 0, none⟩)), (2, .pointer (some ⟨b2, 0, none⟩)), (3, .pointer (some ⟨w.heap.size, 0, none⟩))]) hf (by kernel_rfl)
  refine st tbOk 2 [1, 2, 3] (L' := [(1, .pointer (some ⟨b1, 0, none⟩)), (2, .pointer (some ⟨b2, 0, none⟩)), (3, .pointer (some ⟨w.heap.size, 0, none⟩))]) hf (by kernel_rfl) ?_
  clear hf; clear a; intro a hf
  refine wpList_nil ?_
  refine sq ?_
  refine sq ?_
  refine reg ?_
  refine st tbOk 1 [1, 2, 3, 9] (L' := [(1, .pointer (some ⟨b1, 0, none⟩)), (2, .pointer (some ⟨b2, 0, none⟩)), (3, .pointer (some ⟨w.heap.size, 0, none⟩)), (9, .pointer (some ⟨w.heap.size, 5, none⟩))]) hf (by kernel_rfl) ?_
  clear hf; clear a; intro a hf
  refine ldC tbOk (T := 4) (hs.cbx 0 rfl) (LeH.refl _) 5 (.bool p_x.2.2.2.2.2.1) hf (by kernel_rfl) (by kernel_rfl) (by kernel_rfl) (by kernel_rfl) ?_
  clear hf; clear a; intro a hf
  replace hf := Fr.keep (ks := [1, 2, 3, 10]) (L' := [(1, .pointer (some ⟨b1, 0, none⟩)), (2, .pointer (some ⟨b2, 0, none⟩)), (3, .pointer (some ⟨w.heap.size, 0, none⟩)), (10, .bool p_x.2.2.2.2.2.1)]) hf (by kernel_rfl)
  refine st tbOk 1 [1, 2, 3, 11] (L' := [(1, .pointer (some ⟨b1, 0, none⟩)), (2, .pointer (some ⟨b2, 0, none⟩)), (3, .pointer (some ⟨w.heap.size, 0, none⟩)), (11, .bool (!p_x.2.2.2.2.2.1))]) hf (by kernel_rfl) ?_
  clear hf; clear a; intro a hf
  refine wpList_nil ?_
  refine cnd (b := !p_x.2.2.2.2.2.1) hf (by kernel_rfl) (fun hb1 => ?_) (fun hb1 => ?_)
  · replace hS := of_t hb1 hS
    refine sq ?_
    refine reg ?_
    refine st tbOk 1 [1, 3, 13] (L' := [(1, .pointer (some ⟨b1, 0, none⟩)), (3, .pointer (some ⟨w.heap.size, 0, none⟩)), (13, .pointer (some ⟨w.heap.size, 3, none⟩))]) hf (by kernel_rfl) ?_
    clear hf; clear a; intro a hf
    refine ldC tbOk (T := 9) (hs.cbx 0 rfl) (LeH.refl _) 3 (strV p_x.2.2.2.1) hf (by kernel_rfl) (by kernel_rfl) (by kernel_rfl) (by kernel_rfl) ?_
    clear hf; clear a; intro a hf
    replace hf := Fr.keep (ks := [1, 3, 14]) (L' := [(1, .pointer (some ⟨b1, 0, none⟩)), (3, .pointer (some ⟨w.heap.size, 0, none⟩)), (14, strV p_x.2.2.2.1)]) hf (by kernel_rfl)
    refine st tbOk 1 [1, 3, 14, 15] (L' := [(1, .pointer (some ⟨b1, 0, none⟩)), (3, .pointer (some ⟨w.heap.size, 0, none⟩)), (14, strV p_x.2.2.2.1), (15, .pointer (some ⟨w.heap.size, 4, none⟩))]) hf (by kernel_rfl) ?_
    clear hf; clear a; intro a hf
    refine ldC tbOk (T := 23) (hs.cbx 0 rfl) (LeH.refl _) 4 (.int .u64 p_x.2.2.2.2.1) hf (by kernel_rfl) (by kernel_rfl) (by kernel_rfl) (by kernel_rfl) ?_
    clear hf; clear a; intro a hf
    replace hf := Fr.keep (ks := [1, 3, 14, 16]) (L' := [(1, .pointer (some ⟨b1, 0, none⟩)), (3, .pointer (some ⟨w.heap.size, 0, none⟩)), (14, strV p_x.2.2.2.1), (16, .int .u64 p_x.2.2.2.2.1)]) hf (by kernel_rfl)
    refine ldC tbOk (T := 24) (hs.cbx 3 rfl) (LeH.refl _) 0 (.slice ao1 q_1.length cp1) hf (by kernel_rfl) (by kernel_rfl) (by kernel_rfl) (by kernel_rfl) ?_
    clear hf; clear a; intro a hf
    replace hf := Fr.keep (ks := [3, 14, 16, 17]) (L' := [(3, .pointer (some ⟨w.heap.size, 0, none⟩)), (14, strV p_x.2.2.2.1), (16, .int .u64 p_x.2.2.2.2.1), (17, .slice ao1 q_1.length cp1)]) hf (by kernel_rfl)
    have hT := of_bd hS; clear hS; obtain ⟨z1, hz1, hS⟩ := hT
    refine clV ent15 (vs := [strV p_x.2.2.2.1, .int .u64 p_x.2.2.2.2.1, .slice ao1 q_1.length cp1]) (caps := []) hf (by kernel_rfl) (by kernel_rfl) (by kernel_rfl) (by kernel_rfl) (dedup_Origin_ok (file := p_x.2.2.2.1) (off := p_x.2.2.2.2.1) (files := q_1) (hs.enter [1] rfl rfl) hz1) ?_
    clear hf; clear a; intro v w2 a hT hf; obtain ⟨ao3, cp3, F1, rfl, hr⟩ := hT
    replace hs : Sep w F R w2 F1 [.row 5 (tI .u8) (.slice ao3 z1.1.length cp3) z1.1, .box w.heap.size 58 [.int .u64 p_x.1, .int .i64 p_x.2.1, .bool p_x.2.2.1, strV p_x.2.2.2.1, .int .u64 p_x.2.2.2.2.1, .bool p_x.2.2.2.2.2.1, .int .u32 p_x.2.2.2.2.2.2], .ro ty60 (.slice ao1 q_1.length cp1) q_1, .ro (tI .u8) (.slice ao2 q_2.length cp2) q_2, .box b1 24 [.slice ao1 q_1.length cp1], .box b2 22 [.slice ao2 q_2.length cp2]] := hs.back [1] [0, 1, 2, 3, 4] rfl rfl rfl rfl hr
    clear hr
    replace hf := Fr.keep (ks := [3, 18]) (L' := [(3, .pointer (some ⟨w.heap.size, 0, none⟩)), (18, .tuple #[.slice ao3 z1.1.length cp3, .bool z1.2])]) hf (by kernel_rfl)
    refine st tbOk 5 [3, 6, 7] (L' := [(3, .pointer (some ⟨w.heap.size, 0, none⟩)), (6, .slice ao3 z1.1.length cp3), (7, .bool z1.2)]) hf (by kernel_rfl) ?_
    clear hf; clear a; intro a hf
    refine wpList_nil ?_
    refine sq ?_
    refine sq ?_
    refine ctj (fun (s1 : Bool) (a : Act) (w' : World) => ∃ (F2 : SH), Sep w F R w' F2 [.row 5 (tI .u8) (.slice ao3 z1.1.length cp3) z1.1, .ro ty60 (.slice ao1 q_1.length cp1) q_1, .ro (tI .u8) (.slice ao2 q_2.length cp2) q_2, .box b1 24 [.slice ao1 q_1.length cp1], .box b2 22 [.slice ao2 q_2.length cp2]] ∧ Fr 45 [(6, .slice ao3 z1.1.length cp3), (29, .bool s1)] a) hS ?_ ?_
    · clear hS hf hs; clear a; intro s1 a w5 hM hS
      obtain ⟨F2, hs, hf⟩ := hM
      refine cnd (b := s1) hf (by kernel_rfl) (fun hb3 => ?_) (fun hb3 => ?_)
      · replace hS := of_t hb3 hS
        refine sq ?_
        refine reg ?_
        refine st tbOk 2 [4, 5] (L' := [(4, .slice none 0 0), (5, .int .i64 61)]) hf (by kernel_rfl) ?_
        clear hf; clear a; intro a hf
        refine wpList_nil ?_
        have hr := Option.some.inj hS; subst hr
        refine wp_ret ?_
        replace hs : Sep w F R w5 F2 [.row 5 (tI .u8) (.slice none 0 0) ([] : List Int), .row 5 (tI .u8) (.slice ao3 z1.1.length cp3) z1.1, .ro ty60 (.slice ao1 q_1.length cp1) q_1, .ro (tI .u8) (.slice ao2 q_2.length cp2) q_2, .box b1 24 [.slice ao1 q_1.length cp1], .box b2 22 [.slice ao2 q_2.length cp2]] := hs.addNil 5 (tI .u8)
        exact ret_ok hf (vs := [.slice none 0 0, .int .i64 61]) (by kernel_rfl) ⟨none, 0, ao1, cp1, ao2, cp2, _, rfl, hs.sel [0, 4, 2, 5, 3] rfl rfl⟩
      · replace hS := of_f hb3 hS
        refine wp_skip ?_
        refine sq ?_
        refine reg ?_
        refine st tbOk 3 [4, 5] (L' := [(4, .slice ao3 z1.1.length cp3), (5, .int .i64 0)]) hf (by kernel_rfl) ?_
        clear hf; clear a; intro a hf
        refine wpList_nil ?_
        have hr := Option.some.inj hS; subst hr
        refine wp_ret ?_
        exact ret_ok hf (vs := [.slice ao3 z1.1.length cp3, .int .i64 0]) (by kernel_rfl) ⟨ao3, cp3, ao1, cp1, ao2, cp2, _, rfl, hs.sel [0, 3, 1, 4, 2] rfl rfl⟩
    · clear hS; intro KK1 k1 hK1 hS
      refine regQ mixed (by kernel_rfl) ?_
      refine stQ tbOk 3 [3, 6, 23] (L' := [(3, .pointer (some ⟨w.heap.size, 0, none⟩)), (6, .slice ao3 z1.1.length cp3), (23, .bool (!z1.2))]) hf (by kernel_rfl) ?_
      clear hf; clear a; intro a hf
      rcases Bool.eq_false_or_eq_true (!z1.2) with hb2 | hb2
      · replace hS := of_t hb2 hS
        replace hf := Fr.cast (L' := [(3, .pointer (some ⟨w.heap.size, 0, none⟩)), (6, .slice ao3 z1.1.length cp3), (23, .bool true)]) hf (by rw [hb2])
        refine stQ tbOk 6 [6, 29] (L' := [(6, .slice ao3 z1.1.length cp3), (29, .bool true)]) hf (by kernel_rfl) ?_
        clear hf; clear a; intro a hf
        refine wpQuiet_nil ?_
        intro w3 hx
        replace hs : Sep w F R w3 F1 [.row 5 (tI .u8) (.slice ao3 z1.1.length cp3) z1.1, .box w.heap.size 58 [.int .u64 p_x.1, .int .i64 p_x.2.1, .bool p_x.2.2.1, strV p_x.2.2.2.1, .int .u64 p_x.2.2.2.2.1, .bool p_x.2.2.2.2.2.1, .int .u32 p_x.2.2.2.2.2.2], .ro ty60 (.slice ao1 q_1.length cp1) q_1, .ro (tI .u8) (.slice ao2 q_2.length cp2) q_2, .box b1 24 [.slice ao1 q_1.length cp1], .box b2 22 [.slice ao2 q_2.length cp2]] := hs.ext hx
        clear hx
        exact hK1 true _ _ ⟨_, hs.sel [0, 2, 3, 4, 5] rfl rfl, hf.keep (ks := [6, 29]) (by kernel_rfl)⟩ hS
      · replace hS := of_f hb2 hS
        replace hf := Fr.cast (L' := [(3, .pointer (some ⟨w.heap.size, 0, none⟩)), (6, .slice ao3 z1.1.length cp3), (23, .bool false)]) hf (by rw [hb2])
        refine stQ tbOk 1 [3, 6, 23, 24] (L' := [(3, .pointer (some ⟨w.heap.size, 0, none⟩)), (6, .slice ao3 z1.1.length cp3), (23, .bool false), (24, .slice ao3 z1.1.length cp3)]) hf (by kernel_rfl) ?_
        clear hf; clear a; intro a hf
        have hT := of_bd hS; clear hS; obtain ⟨z2, hz2, hS⟩ := hT
        refine clVQ ent17 (vs := [.slice ao3 z1.1.length cp3]) (caps := []) hf (by kernel_rfl) (by kernel_rfl) (by kernel_rfl) (by kernel_rfl) (.int .u32 z2) (fun wq hq => (dedup_Sum_ok (b := z1.1) (hs.lendQ hq [0] rfl rfl) hz2).mono fun _ _ h => Gives.mono (fun _ ⟨_, e, h⟩ => ⟨e, h.ex (pers_blks rfl)⟩) h) ?_
        clear hf; clear a; intro a hf
        replace hf := Fr.keep (ks := [3, 6, 23, 25]) (L' := [(3, .pointer (some ⟨w.heap.size, 0, none⟩)), (6, .slice ao3 z1.1.length cp3), (23, .bool false), (25, .int .u32 z2)]) hf (by kernel_rfl)
        refine stQ tbOk 1 [6, 23, 25, 26] (L' := [(6, .slice ao3 z1.1.length cp3), (23, .bool false), (25, .int .u32 z2), (26, .pointer (some ⟨w.heap.size, 6, none⟩))]) hf (by kernel_rfl) ?_
        clear hf; clear a; intro a hf
        refine ldCQ tbOk (T := 31) (hs.cbx 1 rfl) (LeH.refl _) 6 (.int .u32 p_x.2.2.2.2.2.2) hf (by kernel_rfl) (by kernel_rfl) (by kernel_rfl) (by kernel_rfl) ?_
        clear hf; clear a; intro a hf
        replace hs : Sep w F R w2 F1 [.row 5 (tI .u8) (.slice ao3 z1.1.length cp3) z1.1, .ro ty60 (.slice ao1 q_1.length cp1) q_1, .ro (tI .u8) (.slice ao2 q_2.length cp2) q_2, .box b1 24 [.slice ao1 q_1.length cp1], .box b2 22 [.slice ao2 q_2.length cp2]] := hs.sel [0, 2, 3, 4, 5] rfl rfl
        replace hf := Fr.keep (ks := [6, 23, 25, 27]) (L' := [(6, .slice ao3 z1.1.length cp3), (23, .bool false), (25, .int .u32 z2), (27, .int .u32 p_x.2.2.2.2.2.2)]) hf (by kernel_rfl)
        refine stQ tbOk 2 [6, 29] (L' := [(6, .slice ao3 z1.1.length cp3), (29, .bool (z2 != p_x.2.2.2.2.2.2))]) hf (by kernel_rfl) ?_
        clear hf; clear a; intro a hf
        refine wpQuiet_nil ?_
        intro w4 hx
        replace hs : Sep w F R w4 F1 [.row 5 (tI .u8) (.slice ao3 z1.1.length cp3) z1.1, .ro ty60 (.slice ao1 q_1.length cp1) q_1, .ro (tI .u8) (.slice ao2 q_2.length cp2) q_2, .box b1 24 [.slice ao1 q_1.length cp1], .box b2 22 [.slice ao2 q_2.length cp2]] := hs.ext hx
        clear hx
        exact hK1 (z2 != p_x.2.2.2.2.2.2) _ _ ⟨_, hs.sel [0, 1, 2, 3, 4] rfl rfl, hf.keep (ks := [6, 29]) (by kernel_rfl)⟩ hS
  · replace hS := of_f hb1 hS
    refine wp_skip ?_
    refine sq ?_
    refine sq ?_
    refine ctj (fun (s2 : Bool) (a : Act) (w' : World) => ∃ (F3 : SH), Sep w F R w' F3 [.ro ty60 (.slice ao1 q_1.length cp1) q_1, .ro (tI .u8) (.slice ao2 q_2.length cp2) q_2, .box b1 24 [.slice ao1 q_1.length cp1], .box b2 22 [.slice ao2 q_2.length cp2]] ∧ Fr 45 [(2, .pointer (some ⟨b2, 0, none⟩)), (38, .bool s2)] a) hS ?_ ?_
    · clear hS hf hs; clear a; intro s2 a w6 hM hS
      obtain ⟨F3, hs, hf⟩ := hM
      refine cnd (b := s2) hf (by kernel_rfl) (fun hb5 => ?_) (fun hb5 => ?_)
      · replace hS := of_t hb5 hS
        refine sq ?_
        refine reg ?_
        refine st tbOk 2 [4, 5] (L' := [(4, .slice none 0 0), (5, .int .i64 60)]) hf (by kernel_rfl) ?_
        clear hf; clear a; intro a hf
        refine wpList_nil ?_
        have hr := Option.some.inj hS; subst hr
        refine wp_ret ?_
        replace hs : Sep w F R w6 F3 [.row 5 (tI .u8) (.slice none 0 0) ([] : List Int), .ro ty60 (.slice ao1 q_1.length cp1) q_1, .ro (tI .u8) (.slice ao2 q_2.length cp2) q_2, .box b1 24 [.slice ao1 q_1.length cp1], .box b2 22 [.slice ao2 q_2.length cp2]] := hs.addNil 5 (tI .u8)
        exact ret_ok hf (vs := [.slice none 0 0, .int .i64 60]) (by kernel_rfl) ⟨none, 0, ao1, cp1, ao2, cp2, _, rfl, hs.sel [0, 3, 1, 4, 2] rfl rfl⟩
      · replace hS := of_f hb5 hS
        refine wp_skip ?_
        refine sq ?_
        refine reg ?_
        refine ldC tbOk (T := 22) (hs.cbx 3 rfl) (LeH.refl _) 0 (.slice ao2 q_2.length cp2) hf (by kernel_rfl) (by kernel_rfl) (by kernel_rfl) (by kernel_rfl) ?_
        clear hf; clear a; intro a hf
        replace hf := Fr.keep (ks := [2, 39]) (L' := [(2, .pointer (some ⟨b2, 0, none⟩)), (39, .slice ao2 q_2.length cp2)]) hf (by kernel_rfl)
        have hT := of_gd hS; clear hS; obtain ⟨hc1, hS⟩ := hT
        refine sl tbOk u22 i5 rfl (hs.ro 1 rfl) (lo := 0) (hi := 256) (m := 0) hc1 (.inl ⟨rfl, rfl⟩) (.inr ⟨_, .i64, rfl, by kernel_rfl⟩) (.inl rfl) hf (by kernel_rfl) (by kernel_rfl) (by kernel_rfl) ?_
        clear hf; clear a; intro ao4 cp4 a hr1 hf
        replace hs : Sep w F R w6 F3 [.ro (tI .u8) (.slice ao4 (cutL q_2 0 256).length cp4) (cutL q_2 0 256), .ro ty60 (.slice ao1 q_1.length cp1) q_1, .ro (tI .u8) (.slice ao2 q_2.length cp2) q_2, .box b1 24 [.slice ao1 q_1.length cp1], .box b2 22 [.slice ao2 q_2.length cp2]] := hs.addRo hr1
        replace hf := Fr.keep (ks := [2, 40]) (L' := [(2, .pointer (some ⟨b2, 0, none⟩)), (40, .slice ao4 (cutL q_2 0 256).length cp4)]) hf (by kernel_rfl)
        have hT := of_bd hS; clear hS; obtain ⟨z3, hz3, hS⟩ := hT
        refine clV ent40 (vs := [.slice ao4 (cutL q_2 0 256).length cp4]) (caps := []) hf (by kernel_rfl) (by kernel_rfl) (by kernel_rfl) (by kernel_rfl) (slices_Clone_byte_byte_ok (s := (cutL q_2 0 256)) (hs.enter [0] rfl rfl) hz3) ?_
        clear hf; clear a; intro v w7 a hT hf; obtain ⟨ao5, cp5, F4, rfl, hr⟩ := hT
        replace hs : Sep w F R w7 F4 [.row 5 (tI .u8) (.slice ao5 z3.length cp5) z3, .ro (tI .u8) (.slice ao4 (cutL q_2 0 256).length cp4) (cutL q_2 0 256), .ro ty60 (.slice ao1 q_1.length cp1) q_1, .ro (tI .u8) (.slice ao2 q_2.length cp2) q_2, .box b1 24 [.slice ao1 q_1.length cp1], .box b2 22 [.slice ao2 q_2.length cp2]] := hs.back [0] [0, 1, 2, 3, 4] rfl rfl rfl rfl hr
        clear hr
        replace hs : Sep w F R w7 F4 [.row 5 (tI .u8) (.slice ao5 z3.length cp5) z3, .ro ty60 (.slice ao1 q_1.length cp1) q_1, .ro (tI .u8) (.slice ao2 q_2.length cp2) q_2, .box b1 24 [.slice ao1 q_1.length cp1], .box b2 22 [.slice ao2 q_2.length cp2]] := hs.sel [0, 2, 3, 4, 5] rfl rfl
        replace hf := Fr.keep (ks := [2, 41]) (L' := [(2, .pointer (some ⟨b2, 0, none⟩)), (41, .slice ao5 z3.length cp5)]) hf (by kernel_rfl)
        refine st tbOk 1 [2, 8] (L' := [(2, .pointer (some ⟨b2, 0, none⟩)), (8, .slice ao5 z3.length cp5)]) hf (by kernel_rfl) ?_
        clear hf; clear a; intro a hf
        refine wpList_nil ?_
        refine sq ?_
        refine reg ?_
        refine ldC tbOk (T := 22) (hs.cbx 4 rfl) (LeH.refl _) 0 (.slice ao2 q_2.length cp2) hf (by kernel_rfl) (by kernel_rfl) (by kernel_rfl) (by kernel_rfl) ?_
        clear hf; clear a; intro a hf
        replace hf := Fr.keep (ks := [2, 8, 42]) (L' := [(2, .pointer (some ⟨b2, 0, none⟩)), (8, .slice ao5 z3.length cp5), (42, .slice ao2 q_2.length cp2)]) hf (by kernel_rfl)
        have hT := of_gd hS; clear hS; obtain ⟨hc2, hS⟩ := hT
        refine sl tbOk u22 i5 rfl (hs.ro 2 rfl) (lo := 256) (hi := ((q_2.length : Nat) : Int)) (m := 0) hc2 (.inr ⟨_, .i64, rfl, by kernel_rfl⟩) (.inl ⟨rfl, rfl⟩) (.inl rfl) hf (by kernel_rfl) (by kernel_rfl) (by kernel_rfl) ?_
        clear hf; clear a; intro ao6 cp6 a hr2 hf
        replace hs : Sep w F R w7 F4 [.ro (tI .u8) (.slice ao6 (cutL q_2 256 ((q_2.length : Nat) : Int)).length cp6) (cutL q_2 256 ((q_2.length : Nat) : Int)), .row 5 (tI .u8) (.slice ao5 z3.length cp5) z3, .ro ty60 (.slice ao1 q_1.length cp1) q_1, .ro (tI .u8) (.slice ao2 q_2.length cp2) q_2, .box b1 24 [.slice ao1 q_1.length cp1], .box b2 22 [.slice ao2 q_2.length cp2]] := hs.addRo hr2
        replace hf := Fr.keep (ks := [2, 8, 43]) (L' := [(2, .pointer (some ⟨b2, 0, none⟩)), (8, .slice ao5 z3.length cp5), (43, .slice ao6 (cutL q_2 256 ((q_2.length : Nat) : Int)).length cp6)]) hf (by kernel_rfl)
        refine stB tbOk i22 (hs.bx 5 rfl) 0 [.slice ao6 (cutL q_2 256 ((q_2.length : Nat) : Int)).length cp6] [.slice ao6 (cutL q_2 256 ((q_2.length : Nat) : Int)).length cp6] (v := .slice ao6 (cutL q_2 256 ((q_2.length : Nat) : Int)).length cp6) rfl rfl (by kernel_rfl) (by kernel_rfl) (by kernel_rfl) (by kernel_rfl) hf (by kernel_rfl) (by kernel_rfl) (by kernel_rfl) ?_
        clear hf; clear a; intro w8 a hb hg _ hf
        replace hs : Sep w F R w8 F4 [.ro (tI .u8) (.slice ao6 (cutL q_2 256 ((q_2.length : Nat) : Int)).length cp6) (cutL q_2 256 ((q_2.length : Nat) : Int)), .row 5 (tI .u8) (.slice ao5 z3.length cp5) z3, .ro ty60 (.slice ao1 q_1.length cp1) q_1, .ro (tI .u8) (.slice ao2 q_2.length cp2) q_2, .box b1 24 [.slice ao1 q_1.length cp1], .box b2 22 [.slice ao6 (cutL q_2 256 ((q_2.length : Nat) : Int)).length cp6]] := hs.updBox 5 rfl hb hg
        clear hb hg
        replace hs : Sep w F R w8 F4 [.ro (tI .u8) (.slice ao6 (cutL q_2 256 ((q_2.length : Nat) : Int)).length cp6) (cutL q_2 256 ((q_2.length : Nat) : Int)), .row 5 (tI .u8) (.slice ao5 z3.length cp5) z3, .ro ty60 (.slice ao1 q_1.length cp1) q_1, .box b1 24 [.slice ao1 q_1.length cp1], .box b2 22 [.slice ao6 (cutL q_2 256 ((q_2.length : Nat) : Int)).length cp6]] := hs.sel [0, 1, 2, 4, 5] rfl rfl
        replace hf := Fr.keep (ks := [8]) (L' := [(8, .slice ao5 z3.length cp5)]) hf (by kernel_rfl)
        refine wpList_nil ?_
        refine sq ?_
        refine reg ?_
        refine st tbOk 3 [4, 5] (L' := [(4, .slice ao5 z3.length cp5), (5, .int .i64 0)]) hf (by kernel_rfl) ?_
        clear hf; clear a; intro a hf
        refine wpList_nil ?_
        have hr := Option.some.inj hS; subst hr
        refine wp_ret ?_
        exact ret_ok hf (vs := [.slice ao5 z3.length cp5, .int .i64 0]) (by kernel_rfl) ⟨ao5, cp5, ao1, cp1, ao6, cp6, _, rfl, hs.sel [1, 3, 2, 4, 0] rfl rfl⟩
    · clear hS; intro KK2 k2 hK2 hS
      refine reg ?_
      refine ldC tbOk (T := 22) (hs.cbx 4 rfl) (LeH.refl _) 0 (.slice ao2 q_2.length cp2) hf (by kernel_rfl) (by kernel_rfl) (by kernel_rfl) (by kernel_rfl) ?_
      clear hf; clear a; intro a hf
      replace hf := Fr.keep (ks := [2, 3, 31]) (L' := [(2, .pointer (some ⟨b2, 0, none⟩)), (3, .pointer (some ⟨w.heap.size, 0, none⟩)), (31, .slice ao2 q_2.length cp2)]) hf (by kernel_rfl)
      refine st tbOk 3 [2, 3, 34] (L' := [(2, .pointer (some ⟨b2, 0, none⟩)), (3, .pointer (some ⟨w.heap.size, 0, none⟩)), (34, .bool (decide (((q_2.length : Nat) : Int) < 256)))]) hf (by kernel_rfl) ?_
      clear hf; clear a; intro a hf
      rcases Bool.eq_false_or_eq_true (decide (((q_2.length : Nat) : Int) < 256)) with hb4 | hb4
      · replace hS := of_t hb4 hS
        replace hf := Fr.cast (L' := [(2, .pointer (some ⟨b2, 0, none⟩)), (3, .pointer (some ⟨w.heap.size, 0, none⟩)), (34, .bool true)]) hf (by rw [hb4])
        refine st tbOk 4 [2, 38] (L' := [(2, .pointer (some ⟨b2, 0, none⟩)), (38, .bool true)]) hf (by kernel_rfl) ?_
        clear hf; clear a; intro a hf
        refine wpList_nil ?_
        exact hK2 true _ _ ⟨_, hs.sel [1, 2, 3, 4] rfl rfl, hf.keep (ks := [2, 38]) (by kernel_rfl)⟩ hS
      · replace hS := of_f hb4 hS
        replace hf := Fr.cast (L' := [(2, .pointer (some ⟨b2, 0, none⟩)), (3, .pointer (some ⟨w.heap.size, 0, none⟩)), (34, .bool false)]) hf (by rw [hb4])
        refine st tbOk 1 [2, 34, 35] (L' := [(2, .pointer (some ⟨b2, 0, none⟩)), (34, .bool false), (35, .pointer (some ⟨w.heap.size, 6, none⟩))]) hf (by kernel_rfl) ?_
        clear hf; clear a; intro a hf
        refine ldC tbOk (T := 31) (hs.cbx 0 rfl) (LeH.refl _) 6 (.int .u32 p_x.2.2.2.2.2.2) hf (by kernel_rfl) (by kernel_rfl) (by kernel_rfl) (by kernel_rfl) ?_
        clear hf; clear a; intro a hf
        replace hs : Sep w F R w1 F [.ro ty60 (.slice ao1 q_1.length cp1) q_1, .ro (tI .u8) (.slice ao2 q_2.length cp2) q_2, .box b1 24 [.slice ao1 q_1.length cp1], .box b2 22 [.slice ao2 q_2.length cp2]] := hs.sel [1, 2, 3, 4] rfl rfl
        replace hf := Fr.keep (ks := [2, 34, 36]) (L' := [(2, .pointer (some ⟨b2, 0, none⟩)), (34, .bool false), (36, .int .u32 p_x.2.2.2.2.2.2)]) hf (by kernel_rfl)
        refine st tbOk 2 [2, 38] (L' := [(2, .pointer (some ⟨b2, 0, none⟩)), (38, .bool (p_x.2.2.2.2.2.2 != 0))]) hf (by kernel_rfl) ?_
        clear hf; clear a; intro a hf
        refine wpList_nil ?_
        exact hK2 (p_x.2.2.2.2.2.2 != 0) _ _ ⟨_, hs.sel [0, 1, 2, 3] rfl rfl, hf.keep (ks := [2, 38]) (by kernel_rfl)⟩ hS

set_option maxHeartbeats 4000000 in
theorem dedup_Join_ok {w : World} {F : SH} {p_l : List (Int × Int × Bool × (List UInt8) × Int × Bool × Int)} {kept : List Int} {files : List ((List UInt8) × (List Int))} {ao1 : Option Addr} {cp1 : Nat} {ao2 : Option Addr} {cp2 : Nat} {ao3 : Option Addr} {cp3 : Nat} (hs : Sep w F (blks [.ro ty57 (.slice ao1 p_l.length cp1) p_l, .ro (tI .u8) (.slice ao2 kept.length cp2) kept, .ro ty60 (.slice ao3 files.length cp3) files]) w F [.ro ty57 (.slice ao1 p_l.length cp1) p_l, .ro (tI .u8) (.slice ao2 kept.length cp2) kept, .ro ty60 (.slice ao3 files.length cp3) files]) {r : (List (Int × Int × Bool × (List UInt8) × Int × (List Int))) × Int} (hS : dedup_Join p_l kept files = some r) :
    Calls Try.prog 23 [.slice ao1 p_l.length cp1, .slice ao2 kept.length cp2, .slice ao3 files.length cp3].toArray w (Gives (fun u w' => ∃ (ao13 : Option Addr) (cp13 : Nat) (F' : SH), u = .tuple #[.slice ao13 r.1.length cp13, .int .i64 r.2] ∧ Sep w F (blks [.ro ty57 (.slice ao1 p_l.length cp1) p_l, .ro (tI .u8) (.slice ao2 kept.length cp2) kept, .ro ty60 (.slice ao3 files.length cp3) files]) w' F' [.row 56 ty55 (.slice ao13 r.1.length cp13) r.1])) := by
  generalize (blks [.ro ty57 (.slice ao1 p_l.length cp1) p_l, .ro (tI .u8) (.slice ao2 kept.length cp2) kept, .ro ty60 (.slice ao3 files.length cp3) files]) = R at hs ⊢
  unfold dedup_Join at hS
  refine fn_ok (vs := [.slice ao1 p_l.length cp1, .slice ao2 kept.length cp2, .slice ao3 files.length cp3]) Try.func23 rfl 50 Try.ntmps23 (Nat.le_of_ble_eq_true rfl) ?_
  intro a hf
  replace hf := Fr.cast (L' := [(0, .slice ao1 p_l.length cp1), (1, .slice ao2 kept.length cp2), (2, .slice ao3 files.length cp3)]) hf (by kernel_rfl)
  refine sq ?_
  refine reg ?_
  refine bx (T := 22) [.slice ao2 kept.length cp2] (v := .slice ao2 kept.length cp2) rfl (by kernel_rfl) hf (by kernel_rfl) (by kernel_rfl) (by kernel_rfl) ?_
  clear hf; clear a; intro w1 a hb hx _ hf
  replace hs : Sep w F R w1 F [.box w.heap.size 22 [.slice ao2 kept.length cp2], .ro ty57 (.slice ao1 p_l.length cp1) p_l, .ro (tI .u8) (.slice ao2 kept.length cp2) kept, .ro ty60 (.slice ao3 files.length cp3) files] := hs.newBox hb hx
  clear hb hx
  replace hf := Fr.keep (ks := [0, 2, 4]) (L' := [(0, .slice ao1 p_l.length cp1), (2, .slice ao3 files.length cp3), (4, .pointer (some ⟨w.heap.size, 0, none⟩))]) hf (by kernel_rfl)
  refine bx (T := 24) [.slice ao3 files.length cp3] (v := .slice ao3 files.length cp3) rfl (by kernel_rfl) hf (by kernel_rfl) (by kernel_rfl) (by kernel_rfl) ?_
  clear hf; clear a; intro w2 a hb hx _ hf
  replace hs : Sep w F R w2 F [.box w1.heap.size 24 [.slice ao3 files.length cp3], .box w.heap.size 22 [.slice ao2 kept.length cp2], .ro ty57 (.slice ao1 p_l.length cp1) p_l, .ro (tI .u8) (.slice ao2 kept.length cp2) kept, .ro ty60 (.slice ao3 files.length cp3) files] := hs.newBox hb hx
  clear hb hx
  replace hf := Fr.keep (ks := [0, 4, 5]) (L' := [(0, .slice ao1 p_l.length cp1), (4, .pointer (some ⟨w.heap.size, 0, none⟩)), (5, .pointer (some ⟨w1.heap.size, 0, none⟩))]) hf (by kernel_rfl)
  refine st tbOk 2 [0, 4, 5] (L' := [(0, .slice ao1 p_l.length cp1), (4, .pointer (some ⟨w.heap.size, 0, none⟩)), (5, .pointer (some ⟨w1.heap.size, 0, none⟩))]) hf (by kernel_rfl) ?_
  clear hf; clear a; intro a hf
  refine wpList_nil ?_
  refine sq ?_
  refine reg ?_
  refine st tbOk 1 [0, 4, 5, 8] (L' := [(0, .slice ao1 p_l.length cp1), (4, .pointer (some ⟨w.heap.size, 0, none⟩)), (5, .pointer (some ⟨w1.heap.size, 0, none⟩)), (8, .slice none 0 0)]) hf (by kernel_rfl) ?_
  clear hf; clear a; intro a hf
  refine wpList_nil ?_
  refine sq ?_
  refine reg ?_
  refine st tbOk 2 [0, 4, 8, 9] (L' := [(0, .slice ao1 p_l.length cp1), (4, .pointer (some ⟨w.heap.size, 0, none⟩)), (8, .slice none 0 0), (9, .func (.func 39) #[] #[.pointer (some ⟨w1.heap.size, 0, none⟩), .pointer (some ⟨w.heap.size, 0, none⟩)])]) hf (by kernel_rfl) ?_
  clear hf; clear a; intro a hf
  refine wpList_nil ?_
  refine sq ?_
  refine sq ?_
  refine reg ?_
  refine st tbOk 3 [4, 8, 9, 15, 16, 17] (L' := [(4, .pointer (some ⟨w.heap.size, 0, none⟩)), (8, .slice none 0 0), (9, .func (.func 39) #[] #[.pointer (some ⟨w1.heap.size, 0, none⟩), .pointer (some ⟨w.heap.size, 0, none⟩)]), (15, .slice ao1 p_l.length cp1), (16, .int .i64 ((p_l.length : Nat) : Int)), (17, .int .i64 0)]) hf (by kernel_rfl) ?_
  clear hf; clear a; intro a hf
  refine wpList_nil ?_
  refine ctj (fun (s1 : (List (Int × Int × Bool × (List UInt8) × Int × (List Int))) × (List Int)) (a : Act) (w' : World) => ∃ (ao4 : Option Addr) (cp4 : Nat) (ao5 : Option Addr) (cp5 : Nat) (F1 : SH), Sep w F R w' F1 [.row 56 ty55 (.slice ao4 s1.1.length cp4) s1.1, .ro (tI .u8) (.slice ao5 s1.2.length cp5) s1.2, .box w.heap.size 22 [.slice ao5 s1.2.length cp5]] ∧ Fr 50 [(4, .pointer (some ⟨w.heap.size, 0, none⟩)), (8, .slice ao4 s1.1.length cp4)] a) hS ?_ ?_
  · clear hS hf hs; clear a; intro s1 a w9 hM hS
    obtain ⟨ao4, cp4, ao5, cp5, F1, hs, hf⟩ := hM
    refine sq ?_
    refine sq ?_
    refine reg ?_
    refine ldC tbOk (T := 22) (hs.cbx 2 rfl) (LeH.refl _) 0 (.slice ao5 s1.2.length cp5) hf (by kernel_rfl) (by kernel_rfl) (by kernel_rfl) (by kernel_rfl) ?_
    clear hf; clear a; intro a hf
    replace hs : Sep w F R w9 F1 [.row 56 ty55 (.slice ao4 s1.1.length cp4) s1.1, .ro (tI .u8) (.slice ao5 s1.2.length cp5) s1.2] := hs.sel [0, 1] rfl rfl
    replace hf := Fr.keep (ks := [8, 46]) (L' := [(8, .slice ao4 s1.1.length cp4), (46, .slice ao5 s1.2.length cp5)]) hf (by kernel_rfl)
    refine st tbOk 2 [8, 48] (L' := [(8, .slice ao4 s1.1.length cp4), (48, .bool (decide (((s1.2.length : Nat) : Int) > 0)))]) hf (by kernel_rfl) ?_
    clear hf; clear a; intro a hf
    refine wpList_nil ?_
    refine cnd (b := decide (((s1.2.length : Nat) : Int) > 0)) hf (by kernel_rfl) (fun hb3 => ?_) (fun hb3 => ?_)
    · replace hS := of_t hb3 hS
      refine sq ?_
      refine reg ?_
      refine st tbOk 2 [6, 7] (L' := [(6, .slice none 0 0), (7, .int .i64 60)]) hf (by kernel_rfl) ?_
      clear hf; clear a; intro a hf
      refine wpList_nil ?_
      have hr := Option.some.inj hS; subst hr
      refine wp_ret ?_
      replace hs : Sep w F R w9 F1 [.row 56 ty55 (.slice none 0 0) ([] : List (Int × Int × Bool × (List UInt8) × Int × (List Int))), .row 56 ty55 (.slice ao4 s1.1.length cp4) s1.1, .ro (tI .u8) (.slice ao5 s1.2.length cp5) s1.2] := hs.addNil 56 ty55
      exact ret_ok hf (vs := [.slice none 0 0, .int .i64 60]) (by kernel_rfl) ⟨none, 0, _, rfl, hs.sel [0] rfl rfl⟩
    · replace hS := of_f hb3 hS
      refine wp_skip ?_
      refine sq ?_
      refine reg ?_
      refine st tbOk 3 [6, 7] (L' := [(6, .slice ao4 s1.1.length cp4), (7, .int .i64 0)]) hf (by kernel_rfl) ?_
      clear hf; clear a; intro a hf
      refine wpList_nil ?_
      have hr := Option.some.inj hS; subst hr
      refine wp_ret ?_
      exact ret_ok hf (vs := [.slice ao4 s1.1.length cp4, .int .i64 0]) (by kernel_rfl) ⟨ao4, cp4, _, rfl, hs.sel [0] rfl rfl⟩
  · clear hS; intro KK1 k1 hK1 hS
    refine blk ?_
    replace hs : Sep w F R w2 F [.row 56 ty55 (.slice none 0 0) ([] : List (Int × Int × Bool × (List UInt8) × Int × (List Int))), .box w1.heap.size 24 [.slice ao3 files.length cp3], .box w.heap.size 22 [.slice ao2 kept.length cp2], .ro ty57 (.slice ao1 p_l.length cp1) p_l, .ro (tI .u8) (.slice ao2 kept.length cp2) kept, .ro ty60 (.slice ao3 files.length cp3) files] := hs.addNil 56 ty55
    refine lp (st := ([], 0, files, kept)) (fun (s2 : (List (Int × Int × Bool × (List UInt8) × Int × (List Int))) × Int × (List ((List UInt8) × (List Int))) × (List Int)) (a : Act) (w' : World) => ∃ (ao6 : Option Addr) (cp6 : Nat) (ao7 : Option Addr) (cp7 : Nat) (ao8 : Option Addr) (cp8 : Nat) (F2 : SH), Sep w F R w' F2 [.row 56 ty55 (.slice ao6 s2.1.length cp6) s2.1, .ro ty60 (.slice ao7 s2.2.2.1.length cp7) s2.2.2.1, .box w1.heap.size 24 [.slice ao7 s2.2.2.1.length cp7], .ro (tI .u8) (.slice ao8 s2.2.2.2.length cp8) s2.2.2.2, .box w.heap.size 22 [.slice ao8 s2.2.2.2.length cp8], .ro ty57 (.slice ao1 p_l.length cp1) p_l] ∧ Fr 50 [(4, .pointer (some ⟨w.heap.size, 0, none⟩)), (8, .slice ao6 s2.1.length cp6), (9, .func (.func 39) #[] #[.pointer (some ⟨w1.heap.size, 0, none⟩), .pointer (some ⟨w.heap.size, 0, none⟩)]), (15, .slice ao1 p_l.length cp1), (16, .int .i64 ((p_l.length : Nat) : Int)), (17, .int .i64 s2.2.1)] a) ?_ ⟨none, 0, ao3, cp3, ao2, cp2, _, hs.sel [0, 5, 1, 4, 2, 3] rfl rfl, hf.keep (ks := [4, 8, 9, 15, 16, 17]) (by kernel_rfl)⟩ hS
    clear hS hf hs; clear a
    intro rec1 KK2 hK2 s2 a w3 hM hS
    obtain ⟨ao6, cp6, ao7, cp7, ao8, cp8, F2, hs, hf⟩ := hM
    refine sq ?_
    refine reg ?_
    refine st tbOk 1 [4, 8, 9, 15, 16, 17, 18] (L' := [(4, .pointer (some ⟨w.heap.size, 0, none⟩)), (8, .slice ao6 s2.1.length cp6), (9, .func (.func 39) #[] #[.pointer (some ⟨w1.heap.size, 0, none⟩), .pointer (some ⟨w.heap.size, 0, none⟩)]), (15, .slice ao1 p_l.length cp1), (16, .int .i64 ((p_l.length : Nat) : Int)), (17, .int .i64 s2.2.1), (18, .bool (decide (s2.2.1 < ((p_l.length : Nat) : Int))))]) hf (by kernel_rfl) ?_
    clear hf; clear a; intro a hf
    refine wpList_nil ?_
    refine sq ?_
    refine cnd (b := decide (s2.2.1 < ((p_l.length : Nat) : Int))) hf (by kernel_rfl) (fun hb1 => ?_) (fun hb1 => ?_)
    · replace hS := of_t hb1 hS
      refine wp_skip ?_
      refine sq ?_
      refine blk ?_
      refine sq ?_
      refine reg ?_
      have hT := of_gd hS; clear hS; obtain ⟨hc1, hS⟩ := hT
      refine ixR tbOk u36 i58 rfl rfl ((hs.ro 5 rfl).ra (LeH.refl _)) (k := .i64) (n := s2.2.1) hc1 hf (by kernel_rfl) (by kernel_rfl) (by kernel_rfl) (by kernel_rfl) ?_
      clear hf; clear a; intro pb1 po1 c1 a hp1 hr1 hf
      obtain rfl : c1 = [.int .u64 ((gt p_l s2.2.1).1), .int .i64 ((gt p_l s2.2.1).2.1), .bool ((gt p_l s2.2.1).2.2.1), strV ((gt p_l s2.2.1).2.2.2.1), .int .u64 ((gt p_l s2.2.1).2.2.2.2.1), .bool ((gt p_l s2.2.1).2.2.2.2.2.1), .int .u32 ((gt p_l s2.2.1).2.2.2.2.2.2)] := hr1
      replace hs : Sep w F R w3 F2 [.cel pb1 po1 [.int .u64 ((gt p_l s2.2.1).1), .int .i64 ((gt p_l s2.2.1).2.1), .bool ((gt p_l s2.2.1).2.2.1), strV ((gt p_l s2.2.1).2.2.2.1), .int .u64 ((gt p_l s2.2.1).2.2.2.2.1), .bool ((gt p_l s2.2.1).2.2.2.2.2.1), .int .u32 ((gt p_l s2.2.1).2.2.2.2.2.2)], .row 56 ty55 (.slice ao6 s2.1.length cp6) s2.1, .ro ty60 (.slice ao7 s2.2.2.1.length cp7) s2.2.2.1, .box w1.heap.size 24 [.slice ao7 s2.2.2.1.length cp7], .ro (tI .u8) (.slice ao8 s2.2.2.2.length cp8) s2.2.2.2, .box w.heap.size 22 [.slice ao8 s2.2.2.2.length cp8], .ro ty57 (.slice ao1 p_l.length cp1) p_l] := hs.addCel hp1
      replace hf := Fr.keep (ks := [4, 8, 9, 15, 16, 17, 19]) (L' := [(4, .pointer (some ⟨w.heap.size, 0, none⟩)), (8, .slice ao6 s2.1.length cp6), (9, .func (.func 39) #[] #[.pointer (some ⟨w1.heap.size, 0, none⟩), .pointer (some ⟨w.heap.size, 0, none⟩)]), (15, .slice ao1 p_l.length cp1), (16, .int .i64 ((p_l.length : Nat) : Int)), (17, .int .i64 s2.2.1), (19, .pointer (some ⟨pb1, po1, none⟩))]) hf (by kernel_rfl)
      refine ldC tbOk (T := 58) (hs.ccel 0 rfl) (LeH.refl _) 0 (.agg #[.int .u64 ((gt p_l s2.2.1).1), .int .i64 ((gt p_l s2.2.1).2.1), .bool ((gt p_l s2.2.1).2.2.1), strV ((gt p_l s2.2.1).2.2.2.1), .int .u64 ((gt p_l s2.2.1).2.2.2.2.1), .bool ((gt p_l s2.2.1).2.2.2.2.2.1), .int .u32 ((gt p_l s2.2.1).2.2.2.2.2.2)]) hf (by kernel_rfl) (by kernel_rfl) (by kernel_rfl) (by kernel_rfl) ?_
      clear hf; clear a; intro a hf
      replace hs : Sep w F R w3 F2 [.row 56 ty55 (.slice ao6 s2.1.length cp6) s2.1, .ro ty60 (.slice ao7 s2.2.2.1.length cp7) s2.2.2.1, .box w1.heap.size 24 [.slice ao7 s2.2.2.1.length cp7], .ro (tI .u8) (.slice ao8 s2.2.2.2.length cp8) s2.2.2.2, .box w.heap.size 22 [.slice ao8 s2.2.2.2.length cp8], .ro ty57 (.slice ao1 p_l.length cp1) p_l] := hs.sel [1, 2, 3, 4, 5, 6] rfl rfl
      replace hf := Fr.keep (ks := [4, 8, 9, 15, 16, 17, 20]) (L' := [(4, .pointer (some ⟨w.heap.size, 0, none⟩)), (8, .slice ao6 s2.1.length cp6), (9, .func (.func 39) #[] #[.pointer (some ⟨w1.heap.size, 0, none⟩), .pointer (some ⟨w.heap.size, 0, none⟩)]), (15, .slice ao1 p_l.length cp1), (16, .int .i64 ((p_l.length : Nat) : Int)), (17, .int .i64 s2.2.1), (20, .agg #[.int .u64 ((gt p_l s2.2.1).1), .int .i64 ((gt p_l s2.2.1).2.1), .bool ((gt p_l s2.2.1).2.2.1), strV ((gt p_l s2.2.1).2.2.2.1), .int .u64 ((gt p_l s2.2.1).2.2.2.2.1), .bool ((gt p_l s2.2.1).2.2.2.2.2.1), .int .u32 ((gt p_l s2.2.1).2.2.2.2.2.2)])]) hf (by kernel_rfl)
      refine al tbOk i58 [.int .u64 0, .int .i64 0, .bool false, strV [], .int .u64 0, .bool false, .int .u32 0] rfl (by kernel_rfl) hf (by kernel_rfl) (by kernel_rfl) ?_
      clear hf; clear a; intro w4 a hb hx _ hf
      replace hs : Sep w F R w4 F2 [.box w3.heap.size 58 [.int .u64 0, .int .i64 0, .bool false, strV [], .int .u64 0, .bool false, .int .u32 0], .row 56 ty55 (.slice ao6 s2.1.length cp6) s2.1, .ro ty60 (.slice ao7 s2.2.2.1.length cp7) s2.2.2.1, .box w1.heap.size 24 [.slice ao7 s2.2.2.1.length cp7], .ro (tI .u8) (.slice ao8 s2.2.2.2.length cp8) s2.2.2.2, .box w.heap.size 22 [.slice ao8 s2.2.2.2.length cp8], .ro ty57 (.slice ao1 p_l.length cp1) p_l] := hs.newBox hb hx
      clear hb hx
      replace hf := Fr.keep (ks := [4, 8, 9, 11, 15, 16, 17, 20]) (L' := [(4, .pointer (some ⟨w.heap.size, 0, none⟩)), (8, .slice ao6 s2.1.length cp6), (9, .func (.func 39) #[] #[.pointer (some ⟨w1.heap.size, 0, none⟩), .pointer (some ⟨w.heap.size, 0, none⟩)]), (11, .pointer (some ⟨w3.heap.size, 0, none⟩)), (15, .slice ao1 p_l.length cp1), (16, .int .i64 ((p_l.length : Nat) : Int)), (17, .int .i64 s2.2.1), (20, .agg #[.int .u64 ((gt p_l s2.2.1).1), .int .i64 ((gt p_l s2.2.1).2.1), .bool ((gt p_l s2.2.1).2.2.1), strV ((gt p_l s2.2.1).2.2.2.1), .int .u64 ((gt p_l s2.2.1).2.2.2.2.1), .bool ((gt p_l s2.2.1).2.2.2.2.2.1), .int .u32 ((gt p_l s2.2.1).2.2.2.2.2.2)])]) hf (by kernel_rfl)
      refine stB tbOk i58 (hs.bx 0 rfl) 0 [.int .u64 ((gt p_l s2.2.1).1), .int .i64 ((gt p_l s2.2.1).2.1), .bool ((gt p_l s2.2.1).2.2.1), strV ((gt p_l s2.2.1).2.2.2.1), .int .u64 ((gt p_l s2.2.1).2.2.2.2.1), .bool ((gt p_l s2.2.1).2.2.2.2.2.1), .int .u32 ((gt p_l s2.2.1).2.2.2.2.2.2)] [.int .u64 ((gt p_l s2.2.1).1), .int .i64 ((gt p_l s2.2.1).2.1), .bool ((gt p_l s2.2.1).2.2.1), strV ((gt p_l s2.2.1).2.2.2.1), .int .u64 ((gt p_l s2.2.1).2.2.2.2.1), .bool ((gt p_l s2.2.1).2.2.2.2.2.1), .int .u32 ((gt p_l s2.2.1).2.2.2.2.2.2)] (v := .agg #[.int .u64 ((gt p_l s2.2.1).1), .int .i64 ((gt p_l s2.2.1).2.1), .bool ((gt p_l s2.2.1).2.2.1), strV ((gt p_l s2.2.1).2.2.2.1), .int .u64 ((gt p_l s2.2.1).2.2.2.2.1), .bool ((gt p_l s2.2.1).2.2.2.2.2.1), .int .u32 ((gt p_l s2.2.1).2.2.2.2.2.2)]) rfl rfl (by kernel_rfl) (by kernel_rfl) (by kernel_rfl) (by kernel_rfl) hf (by kernel_rfl) (by kernel_rfl) (by kernel_rfl) ?_
      clear hf; clear a; intro w5 a hb hg _ hf
      replace hs : Sep w F R w5 F2 [.box w3.heap.size 58 [.int .u64 ((gt p_l s2.2.1).1), .int .i64 ((gt p_l s2.2.1).2.1), .bool ((gt p_l s2.2.1).2.2.1), strV ((gt p_l s2.2.1).2.2.2.1), .int .u64 ((gt p_l s2.2.1).2.2.2.2.1), .bool ((gt p_l s2.2.1).2.2.2.2.2.1), .int .u32 ((gt p_l s2.2.1).2.2.2.2.2.2)], .row 56 ty55 (.slice ao6 s2.1.length cp6) s2.1, .ro ty60 (.slice ao7 s2.2.2.1.length cp7) s2.2.2.1, .box w1.heap.size 24 [.slice ao7 s2.2.2.1.length cp7], .ro (tI .u8) (.slice ao8 s2.2.2.2.length cp8) s2.2.2.2, .box w.heap.size 22 [.slice ao8 s2.2.2.2.length cp8], .ro ty57 (.slice ao1 p_l.length cp1) p_l] := hs.updBox 0 rfl hb hg
      clear hb hg
      replace hf := Fr.keep (ks := [4, 8, 9, 11, 15, 16, 17]) (L' := [(4, .pointer (some ⟨w.heap.size, 0, none⟩)), (8, .slice ao6 s2.1.length cp6), (9, .func (.func 39) #[] #[.pointer (some ⟨w1.heap.size, 0, none⟩), .pointer (some ⟨w.heap.size, 0, none⟩)]), (11, .pointer (some ⟨w3.heap.size, 0, none⟩)), (15, .slice ao1 p_l.length cp1), (16, .int .i64 ((p_l.length : Nat) : Int)), (17, .int .i64 s2.2.1)]) hf (by kernel_rfl)
      refine wpList_nil ?_
      refine sq ?_
      refine reg ?_
      refine st tbOk 1 [4, 8, 9, 11, 15, 16, 17, 22] (L' := [(4, .pointer (some ⟨w.heap.size, 0, none⟩)), (8, .slice ao6 s2.1.length cp6), (9, .func (.func 39) #[] #[.pointer (some ⟨w1.heap.size, 0, none⟩), .pointer (some ⟨w.heap.size, 0, none⟩)]), (11, .pointer (some ⟨w3.heap.size, 0, none⟩)), (15, .slice ao1 p_l.length cp1), (16, .int .i64 ((p_l.length : Nat) : Int)), (17, .int .i64 s2.2.1), (22, .func (.func 39) #[] #[.pointer (some ⟨w1.heap.size, 0, none⟩), .pointer (some ⟨w.heap.size, 0, none⟩)])]) hf (by kernel_rfl) ?_
      clear hf; clear a; intro a hf
      refine ldC tbOk (T := 58) (hs.cbx 0 rfl) (LeH.refl _) 0 (.agg #[.int .u64 ((gt p_l s2.2.1).1), .int .i64 ((gt p_l s2.2.1).2.1), .bool ((gt p_l s2.2.1).2.2.1), strV ((gt p_l s2.2.1).2.2.2.1), .int .u64 ((gt p_l s2.2.1).2.2.2.2.1), .bool ((gt p_l s2.2.1).2.2.2.2.2.1), .int .u32 ((gt p_l s2.2.1).2.2.2.2.2.2)]) hf (by kernel_rfl) (by kernel_rfl) (by kernel_rfl) (by kernel_rfl) ?_
      clear hf; clear a; intro a hf
      replace hf := Fr.keep (ks := [4, 8, 9, 11, 15, 16, 17, 22, 23]) (L' := [(4, .pointer (some ⟨w.heap.size, 0, none⟩)), (8, .slice ao6 s2.1.length cp6), (9, .func (.func 39) #[] #[.pointer (some ⟨w1.heap.size, 0, none⟩), .pointer (some ⟨w.heap.size, 0, none⟩)]), (11, .pointer (some ⟨w3.heap.size, 0, none⟩)), (15, .slice ao1 p_l.length cp1), (16, .int .i64 ((p_l.length : Nat) : Int)), (17, .int .i64 s2.2.1), (22, .func (.func 39) #[] #[.pointer (some ⟨w1.heap.size, 0, none⟩), .pointer (some ⟨w.heap.size, 0, none⟩)]), (23, .agg #[.int .u64 ((gt p_l s2.2.1).1), .int .i64 ((gt p_l s2.2.1).2.1), .bool ((gt p_l s2.2.1).2.2.1), strV ((gt p_l s2.2.1).2.2.2.1), .int .u64 ((gt p_l s2.2.1).2.2.2.2.1), .bool ((gt p_l s2.2.1).2.2.2.2.2.1), .int .u32 ((gt p_l s2.2.1).2.2.2.2.2.2)])]) hf (by kernel_rfl)
      have hT := of_bd hS; clear hS; obtain ⟨z1, hz1, hS⟩ := hT
      refine clV ent39 (vs := [.agg #[.int .u64 ((gt p_l s2.2.1).1), .int .i64 ((gt p_l s2.2.1).2.1), .bool ((gt p_l s2.2.1).2.2.1), strV ((gt p_l s2.2.1).2.2.2.1), .int .u64 ((gt p_l s2.2.1).2.2.2.2.1), .bool ((gt p_l s2.2.1).2.2.2.2.2.1), .int .u32 ((gt p_l s2.2.1).2.2.2.2.2.2)]]) (caps := [.pointer (some ⟨w1.heap.size, 0, none⟩), .pointer (some ⟨w.heap.size, 0, none⟩)]) hf (by kernel_rfl) (by kernel_rfl) (by kernel_rfl) (by kernel_rfl) (dedup_Join_1_b_ok (p_x := ((gt p_l s2.2.1).1, (gt p_l s2.2.1).2.1, (gt p_l s2.2.1).2.2.1, (gt p_l s2.2.1).2.2.2.1, (gt p_l s2.2.1).2.2.2.2.1, (gt p_l s2.2.1).2.2.2.2.2.1, (gt p_l s2.2.1).2.2.2.2.2.2)) (q_1 := s2.2.2.1) (q_2 := s2.2.2.2) (hs.enter [2, 4, 3, 5] rfl rfl) hz1) ?_
      clear hf; clear a; intro v w6 a hT hf; obtain ⟨ao9, cp9, ao10, cp10, ao11, cp11, F3, rfl, hr⟩ := hT
      replace hs : Sep w F R w6 F3 [.row 5 (tI .u8) (.slice ao9 z1.1.length cp9) z1.1, .box w1.heap.size 24 [.slice ao10 z1.2.2.1.length cp10], .ro ty60 (.slice ao10 z1.2.2.1.length cp10) z1.2.2.1, .box w.heap.size 22 [.slice ao11 z1.2.2.2.length cp11], .ro (tI .u8) (.slice ao11 z1.2.2.2.length cp11) z1.2.2.2, .box w3.heap.size 58 [.int .u64 ((gt p_l s2.2.1).1), .int .i64 ((gt p_l s2.2.1).2.1), .bool ((gt p_l s2.2.1).2.2.1), strV ((gt p_l s2.2.1).2.2.2.1), .int .u64 ((gt p_l s2.2.1).2.2.2.2.1), .bool ((gt p_l s2.2.1).2.2.2.2.2.1), .int .u32 ((gt p_l s2.2.1).2.2.2.2.2.2)], .row 56 ty55 (.slice ao6 s2.1.length cp6) s2.1, .ro ty60 (.slice ao7 s2.2.2.1.length cp7) s2.2.2.1, .ro (tI .u8) (.slice ao8 s2.2.2.2.length cp8) s2.2.2.2, .ro ty57 (.slice ao1 p_l.length cp1) p_l] := hs.back [2, 4, 3, 5] [0, 1, 2, 4, 6] rfl rfl rfl rfl hr
      clear hr
      replace hs : Sep w F R w6 F3 [.row 5 (tI .u8) (.slice ao9 z1.1.length cp9) z1.1, .box w1.heap.size 24 [.slice ao10 z1.2.2.1.length cp10], .ro ty60 (.slice ao10 z1.2.2.1.length cp10) z1.2.2.1, .box w.heap.size 22 [.slice ao11 z1.2.2.2.length cp11], .ro (tI .u8) (.slice ao11 z1.2.2.2.length cp11) z1.2.2.2, .box w3.heap.size 58 [.int .u64 ((gt p_l s2.2.1).1), .int .i64 ((gt p_l s2.2.1).2.1), .bool ((gt p_l s2.2.1).2.2.1), strV ((gt p_l s2.2.1).2.2.2.1), .int .u64 ((gt p_l s2.2.1).2.2.2.2.1), .bool ((gt p_l s2.2.1).2.2.2.2.2.1), .int .u32 ((gt p_l s2.2.1).2.2.2.2.2.2)], .row 56 ty55 (.slice ao6 s2.1.length cp6) s2.1, .ro ty57 (.slice ao1 p_l.length cp1) p_l] := hs.sel [0, 1, 2, 3, 4, 5, 6, 9] rfl rfl
      replace hf := Fr.keep (ks := [4, 8, 9, 11, 15, 16, 17, 24]) (L' := [(4, .pointer (some ⟨w.heap.size, 0, none⟩)), (8, .slice ao6 s2.1.length cp6), (9, .func (.func 39) #[] #[.pointer (some ⟨w1.heap.size, 0, none⟩), .pointer (some ⟨w.heap.size, 0, none⟩)]), (11, .pointer (some ⟨w3.heap.size, 0, none⟩)), (15, .slice ao1 p_l.length cp1), (16, .int .i64 ((p_l.length : Nat) : Int)), (17, .int .i64 s2.2.1), (24, .tuple #[.slice ao9 z1.1.length cp9, .int .i64 z1.2.1])]) hf (by kernel_rfl)
      refine st tbOk 5 [4, 8, 9, 11, 12, 13, 15, 16, 17] (L' := [(4, .pointer (some ⟨w.heap.size, 0, none⟩)), (8, .slice ao6 s2.1.length cp6), (9, .func (.func 39) #[] #[.pointer (some ⟨w1.heap.size, 0, none⟩), .pointer (some ⟨w.heap.size, 0, none⟩)]), (11, .pointer (some ⟨w3.heap.size, 0, none⟩)), (12, .slice ao9 z1.1.length cp9), (13, .int .i64 z1.2.1), (15, .slice ao1 p_l.length cp1), (16, .int .i64 ((p_l.length : Nat) : Int)), (17, .int .i64 s2.2.1)]) hf (by kernel_rfl) ?_
      clear hf; clear a; intro a hf
      refine wpList_nil ?_
      refine sq ?_
      refine sq ?_
      refine reg ?_
      refine st tbOk 2 [4, 8, 9, 11, 12, 13, 15, 16, 17, 28] (L' := [(4, .pointer (some ⟨w.heap.size, 0, none⟩)), (8, .slice ao6 s2.1.length cp6), (9, .func (.func 39) #[] #[.pointer (some ⟨w1.heap.size, 0, none⟩), .pointer (some ⟨w.heap.size, 0, none⟩)]), (11, .pointer (some ⟨w3.heap.size, 0, none⟩)), (12, .slice ao9 z1.1.length cp9), (13, .int .i64 z1.2.1), (15, .slice ao1 p_l.length cp1), (16, .int .i64 ((p_l.length : Nat) : Int)), (17, .int .i64 s2.2.1), (28, .bool (z1.2.1 != 0))]) hf (by kernel_rfl) ?_
      clear hf; clear a; intro a hf
      refine wpList_nil ?_
      refine cnd (b := z1.2.1 != 0) hf (by kernel_rfl) (fun hb2 => ?_) (fun hb2 => ?_)
      · replace hS := of_t hb2 hS
        refine sq ?_
        refine reg ?_
        refine st tbOk 3 [6, 7] (L' := [(6, .slice none 0 0), (7, .int .i64 z1.2.1)]) hf (by kernel_rfl) ?_
        clear hf; clear a; intro a hf
        refine wpList_nil ?_
        have hr := Option.some.inj hS; subst hr
        refine wp_ret ?_
        replace hs : Sep w F R w6 F3 [.row 56 ty55 (.slice none 0 0) ([] : List (Int × Int × Bool × (List UInt8) × Int × (List Int))), .row 5 (tI .u8) (.slice ao9 z1.1.length cp9) z1.1, .box w1.heap.size 24 [.slice ao10 z1.2.2.1.length cp10], .ro ty60 (.slice ao10 z1.2.2.1.length cp10) z1.2.2.1, .box w.heap.size 22 [.slice ao11 z1.2.2.2.length cp11], .ro (tI .u8) (.slice ao11 z1.2.2.2.length cp11) z1.2.2.2, .box w3.heap.size 58 [.int .u64 ((gt p_l s2.2.1).1), .int .i64 ((gt p_l s2.2.1).2.1), .bool ((gt p_l s2.2.1).2.2.1), strV ((gt p_l s2.2.1).2.2.2.1), .int .u64 ((gt p_l s2.2.1).2.2.2.2.1), .bool ((gt p_l s2.2.1).2.2.2.2.2.1), .int .u32 ((gt p_l s2.2.1).2.2.2.2.2.2)], .row 56 ty55 (.slice ao6 s2.1.length cp6) s2.1, .ro ty57 (.slice ao1 p_l.length cp1) p_l] := hs.addNil 56 ty55
        exact ret_ok hf (vs := [.slice none 0 0, .int .i64 z1.2.1]) (by kernel_rfl) ⟨none, 0, _, rfl, hs.sel [0] rfl rfl⟩
      · replace hS := of_f hb2 hS
        refine wp_skip ?_
        refine reg ?_
        refine st tbOk 2 [4, 9, 11, 12, 15, 16, 17, 30, 31] (L' := [(4, .pointer (some ⟨w.heap.size, 0, none⟩)), (9, .func (.func 39) #[] #[.pointer (some ⟨w1.heap.size, 0, none⟩), .pointer (some ⟨w.heap.size, 0, none⟩)]), (11, .pointer (some ⟨w3.heap.size, 0, none⟩)), (12, .slice ao9 z1.1.length cp9), (15, .slice ao1 p_l.length cp1), (16, .int .i64 ((p_l.length : Nat) : Int)), (17, .int .i64 s2.2.1), (30, .slice ao6 s2.1.length cp6), (31, .pointer (some ⟨w3.heap.size, 0, none⟩))]) hf (by kernel_rfl) ?_
        clear hf; clear a; intro a hf
        refine ldC tbOk (T := 23) (hs.cbx 5 rfl) (LeH.refl _) 0 (.int .u64 ((gt p_l s2.2.1).1)) hf (by kernel_rfl) (by kernel_rfl) (by kernel_rfl) (by kernel_rfl) ?_
        clear hf; clear a; intro a hf
        replace hf := Fr.keep (ks := [4, 9, 11, 12, 15, 16, 17, 30, 32]) (L' := [(4, .pointer (some ⟨w.heap.size, 0, none⟩)), (9, .func (.func 39) #[] #[.pointer (some ⟨w1.heap.size, 0, none⟩), .pointer (some ⟨w.heap.size, 0, none⟩)]), (11, .pointer (some ⟨w3.heap.size, 0, none⟩)), (12, .slice ao9 z1.1.length cp9), (15, .slice ao1 p_l.length cp1), (16, .int .i64 ((p_l.length : Nat) : Int)), (17, .int .i64 s2.2.1), (30, .slice ao6 s2.1.length cp6), (32, .int .u64 ((gt p_l s2.2.1).1))]) hf (by kernel_rfl)
        refine st tbOk 1 [4, 9, 11, 12, 15, 16, 17, 30, 32, 33] (L' := [(4, .pointer (some ⟨w.heap.size, 0, none⟩)), (9, .func (.func 39) #[] #[.pointer (some ⟨w1.heap.size, 0, none⟩), .pointer (some ⟨w.heap.size, 0, none⟩)]), (11, .pointer (some ⟨w3.heap.size, 0, none⟩)), (12, .slice ao9 z1.1.length cp9), (15, .slice ao1 p_l.length cp1), (16, .int .i64 ((p_l.length : Nat) : Int)), (17, .int .i64 s2.2.1), (30, .slice ao6 s2.1.length cp6), (32, .int .u64 ((gt p_l s2.2.1).1)), (33, .pointer (some ⟨w3.heap.size, 1, none⟩))]) hf (by kernel_rfl) ?_
        clear hf; clear a; intro a hf
        refine ldC tbOk (T := 3) (hs.cbx 5 rfl) (LeH.refl _) 1 (.int .i64 ((gt p_l s2.2.1).2.1)) hf (by kernel_rfl) (by kernel_rfl) (by kernel_rfl) (by kernel_rfl) ?_
        clear hf; clear a; intro a hf
        replace hf := Fr.keep (ks := [4, 9, 11, 12, 15, 16, 17, 30, 32, 34]) (L' := [(4, .pointer (some ⟨w.heap.size, 0, none⟩)), (9, .func (.func 39) #[] #[.pointer (some ⟨w1.heap.size, 0, none⟩), .pointer (some ⟨w.heap.size, 0, none⟩)]), (11, .pointer (some ⟨w3.heap.size, 0, none⟩)), (12, .slice ao9 z1.1.length cp9), (15, .slice ao1 p_l.length cp1), (16, .int .i64 ((p_l.length : Nat) : Int)), (17, .int .i64 s2.2.1), (30, .slice ao6 s2.1.length cp6), (32, .int .u64 ((gt p_l s2.2.1).1)), (34, .int .i64 ((gt p_l s2.2.1).2.1))]) hf (by kernel_rfl)
        refine st tbOk 1 [4, 9, 11, 12, 15, 16, 17, 30, 32, 34, 35] (L' := [(4, .pointer (some ⟨w.heap.size, 0, none⟩)), (9, .func (.func 39) #[] #[.pointer (some ⟨w1.heap.size, 0, none⟩), .pointer (some ⟨w.heap.size, 0, none⟩)]), (11, .pointer (some ⟨w3.heap.size, 0, none⟩)), (12, .slice ao9 z1.1.length cp9), (15, .slice ao1 p_l.length cp1), (16, .int .i64 ((p_l.length : Nat) : Int)), (17, .int .i64 s2.2.1), (30, .slice ao6 s2.1.length cp6), (32, .int .u64 ((gt p_l s2.2.1).1)), (34, .int .i64 ((gt p_l s2.2.1).2.1)), (35, .pointer (some ⟨w3.heap.size, 2, none⟩))]) hf (by kernel_rfl) ?_
        clear hf; clear a; intro a hf
        refine ldC tbOk (T := 4) (hs.cbx 5 rfl) (LeH.refl _) 2 (.bool ((gt p_l s2.2.1).2.2.1)) hf (by kernel_rfl) (by kernel_rfl) (by kernel_rfl) (by kernel_rfl) ?_
        clear hf; clear a; intro a hf
        replace hf := Fr.keep (ks := [4, 9, 11, 12, 15, 16, 17, 30, 32, 34, 36]) (L' := [(4, .pointer (some ⟨w.heap.size, 0, none⟩)), (9, .func (.func 39) #[] #[.pointer (some ⟨w1.heap.size, 0, none⟩), .pointer (some ⟨w.heap.size, 0, none⟩)]), (11, .pointer (some ⟨w3.heap.size, 0, none⟩)), (12, .slice ao9 z1.1.length cp9), (15, .slice ao1 p_l.length cp1), (16, .int .i64 ((p_l.length : Nat) : Int)), (17, .int .i64 s2.2.1), (30, .slice ao6 s2.1.length cp6), (32, .int .u64 ((gt p_l s2.2.1).1)), (34, .int .i64 ((gt p_l s2.2.1).2.1)), (36, .bool ((gt p_l s2.2.1).2.2.1))]) hf (by kernel_rfl)
        refine st tbOk 1 [4, 9, 11, 12, 15, 16, 17, 30, 32, 34, 36, 37] (L' := [(4, .pointer (some ⟨w.heap.size, 0, none⟩)), (9, .func (.func 39) #[] #[.pointer (some ⟨w1.heap.size, 0, none⟩), .pointer (some ⟨w.heap.size, 0, none⟩)]), (11, .pointer (some ⟨w3.heap.size, 0, none⟩)), (12, .slice ao9 z1.1.length cp9), (15, .slice ao1 p_l.length cp1), (16, .int .i64 ((p_l.length : Nat) : Int)), (17, .int .i64 s2.2.1), (30, .slice ao6 s2.1.length cp6), (32, .int .u64 ((gt p_l s2.2.1).1)), (34, .int .i64 ((gt p_l s2.2.1).2.1)), (36, .bool ((gt p_l s2.2.1).2.2.1)), (37, .pointer (some ⟨w3.heap.size, 3, none⟩))]) hf (by kernel_rfl) ?_
        clear hf; clear a; intro a hf
        refine ldC tbOk (T := 9) (hs.cbx 5 rfl) (LeH.refl _) 3 (strV ((gt p_l s2.2.1).2.2.2.1)) hf (by kernel_rfl) (by kernel_rfl) (by kernel_rfl) (by kernel_rfl) ?_
        clear hf; clear a; intro a hf
        replace hf := Fr.keep (ks := [4, 9, 11, 12, 15, 16, 17, 30, 32, 34, 36, 38]) (L' := [(4, .pointer (some ⟨w.heap.size, 0, none⟩)), (9, .func (.func 39) #[] #[.pointer (some ⟨w1.heap.size, 0, none⟩), .pointer (some ⟨w.heap.size, 0, none⟩)]), (11, .pointer (some ⟨w3.heap.size, 0, none⟩)), (12, .slice ao9 z1.1.length cp9), (15, .slice ao1 p_l.length cp1), (16, .int .i64 ((p_l.length : Nat) : Int)), (17, .int .i64 s2.2.1), (30, .slice ao6 s2.1.length cp6), (32, .int .u64 ((gt p_l s2.2.1).1)), (34, .int .i64 ((gt p_l s2.2.1).2.1)), (36, .bool ((gt p_l s2.2.1).2.2.1)), (38, strV ((gt p_l s2.2.1).2.2.2.1))]) hf (by kernel_rfl)
        refine st tbOk 1 [4, 9, 12, 15, 16, 17, 30, 32, 34, 36, 38, 39] (L' := [(4, .pointer (some ⟨w.heap.size, 0, none⟩)), (9, .func (.func 39) #[] #[.pointer (some ⟨w1.heap.size, 0, none⟩), .pointer (some ⟨w.heap.size, 0, none⟩)]), (12, .slice ao9 z1.1.length cp9), (15, .slice ao1 p_l.length cp1), (16, .int .i64 ((p_l.length : Nat) : Int)), (17, .int .i64 s2.2.1), (30, .slice ao6 s2.1.length cp6), (32, .int .u64 ((gt p_l s2.2.1).1)), (34, .int .i64 ((gt p_l s2.2.1).2.1)), (36, .bool ((gt p_l s2.2.1).2.2.1)), (38, strV ((gt p_l s2.2.1).2.2.2.1)), (39, .pointer (some ⟨w3.heap.size, 4, none⟩))]) hf (by kernel_rfl) ?_
        clear hf; clear a; intro a hf
        refine ldC tbOk (T := 23) (hs.cbx 5 rfl) (LeH.refl _) 4 (.int .u64 ((gt p_l s2.2.1).2.2.2.2.1)) hf (by kernel_rfl) (by kernel_rfl) (by kernel_rfl) (by kernel_rfl) ?_
        clear hf; clear a; intro a hf
        replace hs : Sep w F R w6 F3 [.row 5 (tI .u8) (.slice ao9 z1.1.length cp9) z1.1, .box w1.heap.size 24 [.slice ao10 z1.2.2.1.length cp10], .ro ty60 (.slice ao10 z1.2.2.1.length cp10) z1.2.2.1, .box w.heap.size 22 [.slice ao11 z1.2.2.2.length cp11], .ro (tI .u8) (.slice ao11 z1.2.2.2.length cp11) z1.2.2.2, .row 56 ty55 (.slice ao6 s2.1.length cp6) s2.1, .ro ty57 (.slice ao1 p_l.length cp1) p_l] := hs.sel [0, 1, 2, 3, 4, 6, 7] rfl rfl
        replace hf := Fr.keep (ks := [4, 9, 12, 15, 16, 17, 30, 32, 34, 36, 38, 40]) (L' := [(4, .pointer (some ⟨w.heap.size, 0, none⟩)), (9, .func (.func 39) #[] #[.pointer (some ⟨w1.heap.size, 0, none⟩), .pointer (some ⟨w.heap.size, 0, none⟩)]), (12, .slice ao9 z1.1.length cp9), (15, .slice ao1 p_l.length cp1), (16, .int .i64 ((p_l.length : Nat) : Int)), (17, .int .i64 s2.2.1), (30, .slice ao6 s2.1.length cp6), (32, .int .u64 ((gt p_l s2.2.1).1)), (34, .int .i64 ((gt p_l s2.2.1).2.1)), (36, .bool ((gt p_l s2.2.1).2.2.1)), (38, strV ((gt p_l s2.2.1).2.2.2.1)), (40, .int .u64 ((gt p_l s2.2.1).2.2.2.2.1))]) hf (by kernel_rfl)
        refine st tbOk 2 [4, 9, 15, 16, 17, 30, 42] (L' := [(4, .pointer (some ⟨w.heap.size, 0, none⟩)), (9, .func (.func 39) #[] #[.pointer (some ⟨w1.heap.size, 0, none⟩), .pointer (some ⟨w.heap.size, 0, none⟩)]), (15, .slice ao1 p_l.length cp1), (16, .int .i64 ((p_l.length : Nat) : Int)), (17, .int .i64 s2.2.1), (30, .slice ao6 s2.1.length cp6), (42, .agg #[.int .u64 ((gt p_l s2.2.1).1), .int .i64 ((gt p_l s2.2.1).2.1), .bool ((gt p_l s2.2.1).2.2.1), strV ((gt p_l s2.2.1).2.2.2.1), .int .u64 ((gt p_l s2.2.1).2.2.2.2.1), .slice ao9 z1.1.length cp9])]) hf (by kernel_rfl) ?_
        clear hf; clear a; intro a hf
        obtain ⟨F4, _, hs⟩ := hs.frz 0 rfl
        replace hs : Sep w F R w6 F4 [.ro (tI .u8) (.slice ao9 z1.1.length cp9) z1.1, .box w1.heap.size 24 [.slice ao10 z1.2.2.1.length cp10], .ro ty60 (.slice ao10 z1.2.2.1.length cp10) z1.2.2.1, .box w.heap.size 22 [.slice ao11 z1.2.2.2.length cp11], .ro (tI .u8) (.slice ao11 z1.2.2.2.length cp11) z1.2.2.2, .row 56 ty55 (.slice ao6 s2.1.length cp6) s2.1, .ro ty57 (.slice ao1 p_l.length cp1) p_l] := hs
        refine bsR tbOk u35 i56 rfl (t := ty55) (vs := [(0, .agg #[.int .u64 ((gt p_l s2.2.1).1), .int .i64 ((gt p_l s2.2.1).2.1), .bool ((gt p_l s2.2.1).2.2.1), strV ((gt p_l s2.2.1).2.2.2.1), .int .u64 ((gt p_l s2.2.1).2.2.2.2.1), .slice ao9 z1.1.length cp9])]) (cells := #[.int .u64 ((gt p_l s2.2.1).1), .int .i64 ((gt p_l s2.2.1).2.1), .bool ((gt p_l s2.2.1).2.2.1), strV ((gt p_l s2.2.1).2.2.2.1), .int .u64 ((gt p_l s2.2.1).2.2.2.2.1), .slice ao9 z1.1.length cp9]) ([((gt p_l s2.2.1).1, (gt p_l s2.2.1).2.1, (gt p_l s2.2.1).2.2.1, (gt p_l s2.2.1).2.2.2.1, (gt p_l s2.2.1).2.2.2.2.1, z1.1)] : List (Int × Int × Bool × (List UInt8) × Int × (List Int))) hs.le hf (by kernel_rfl) (by kernel_rfl) (by kernel_rfl) rfl (by kernel_rfl) ⟨_, _, rfl, ⟨ao9, cp9, rfl, hs.ro 0 rfl⟩, rfl⟩ rfl ?_
        clear hf; clear a; intro w7 a ho hx hf
        replace hs : Sep w F R w7 F4 [.row 56 ty55 (.slice (some ⟨w6.heap.size, 0, none⟩) ([((gt p_l s2.2.1).1, (gt p_l s2.2.1).2.1, (gt p_l s2.2.1).2.2.1, (gt p_l s2.2.1).2.2.2.1, (gt p_l s2.2.1).2.2.2.2.1, z1.1)] : List (Int × Int × Bool × (List UInt8) × Int × (List Int))).length ([((gt p_l s2.2.1).1, (gt p_l s2.2.1).2.1, (gt p_l s2.2.1).2.2.1, (gt p_l s2.2.1).2.2.2.1, (gt p_l s2.2.1).2.2.2.2.1, z1.1)] : List (Int × Int × Bool × (List UInt8) × Int × (List Int))).length) ([((gt p_l s2.2.1).1, (gt p_l s2.2.1).2.1, (gt p_l s2.2.1).2.2.1, (gt p_l s2.2.1).2.2.2.1, (gt p_l s2.2.1).2.2.2.2.1, z1.1)] : List (Int × Int × Bool × (List UInt8) × Int × (List Int))), .ro (tI .u8) (.slice ao9 z1.1.length cp9) z1.1, .box w1.heap.size 24 [.slice ao10 z1.2.2.1.length cp10], .ro ty60 (.slice ao10 z1.2.2.1.length cp10) z1.2.2.1, .box w.heap.size 22 [.slice ao11 z1.2.2.2.length cp11], .ro (tI .u8) (.slice ao11 z1.2.2.2.length cp11) z1.2.2.2, .row 56 ty55 (.slice ao6 s2.1.length cp6) s2.1, .ro ty57 (.slice ao1 p_l.length cp1) p_l] := hs.newRow ho hx
        clear ho hx
        replace hs : Sep w F R w7 F4 [.row 56 ty55 (.slice (some ⟨w6.heap.size, 0, none⟩) ([((gt p_l s2.2.1).1, (gt p_l s2.2.1).2.1, (gt p_l s2.2.1).2.2.1, (gt p_l s2.2.1).2.2.2.1, (gt p_l s2.2.1).2.2.2.2.1, z1.1)] : List (Int × Int × Bool × (List UInt8) × Int × (List Int))).length ([((gt p_l s2.2.1).1, (gt p_l s2.2.1).2.1, (gt p_l s2.2.1).2.2.1, (gt p_l s2.2.1).2.2.2.1, (gt p_l s2.2.1).2.2.2.2.1, z1.1)] : List (Int × Int × Bool × (List UInt8) × Int × (List Int))).length) ([((gt p_l s2.2.1).1, (gt p_l s2.2.1).2.1, (gt p_l s2.2.1).2.2.1, (gt p_l s2.2.1).2.2.2.1, (gt p_l s2.2.1).2.2.2.2.1, z1.1)] : List (Int × Int × Bool × (List UInt8) × Int × (List Int))), .box w1.heap.size 24 [.slice ao10 z1.2.2.1.length cp10], .ro ty60 (.slice ao10 z1.2.2.1.length cp10) z1.2.2.1, .box w.heap.size 22 [.slice ao11 z1.2.2.2.length cp11], .ro (tI .u8) (.slice ao11 z1.2.2.2.length cp11) z1.2.2.2, .row 56 ty55 (.slice ao6 s2.1.length cp6) s2.1, .ro ty57 (.slice ao1 p_l.length cp1) p_l] := hs.sel [0, 2, 3, 4, 5, 6, 7] rfl rfl
        replace hf := Fr.keep (ks := [4, 9, 15, 16, 17, 30, 43]) (L' := [(4, .pointer (some ⟨w.heap.size, 0, none⟩)), (9, .func (.func 39) #[] #[.pointer (some ⟨w1.heap.size, 0, none⟩), .pointer (some ⟨w.heap.size, 0, none⟩)]), (15, .slice ao1 p_l.length cp1), (16, .int .i64 ((p_l.length : Nat) : Int)), (17, .int .i64 s2.2.1), (30, .slice ao6 s2.1.length cp6), (43, .slice (some ⟨w6.heap.size, 0, none⟩) ([((gt p_l s2.2.1).1, (gt p_l s2.2.1).2.1, (gt p_l s2.2.1).2.2.1, (gt p_l s2.2.1).2.2.2.1, (gt p_l s2.2.1).2.2.2.2.1, z1.1)] : List (Int × Int × Bool × (List UInt8) × Int × (List Int))).length ([((gt p_l s2.2.1).1, (gt p_l s2.2.1).2.1, (gt p_l s2.2.1).2.2.1, (gt p_l s2.2.1).2.2.2.1, (gt p_l s2.2.1).2.2.2.2.1, z1.1)] : List (Int × Int × Bool × (List UInt8) × Int × (List Int))).length)]) hf (by kernel_rfl)
        have hT := of_gd hS; clear hS; obtain ⟨hc2, hS⟩ := hT
        refine apR tbOk u35 i56 rfl rfl rfl rfl hs.le (hs.own 5 rfl) (hs.raW 0 rfl) hc2 hf (by kernel_rfl) (by kernel_rfl) (by kernel_rfl) (by kernel_rfl) ?_
        clear hf; clear a; intro ao12 cp12 w8 a ho hg hl hf
        replace hs : Sep w F R w8 F4 [.row 56 ty55 (.slice (some ⟨w6.heap.size, 0, none⟩) ([((gt p_l s2.2.1).1, (gt p_l s2.2.1).2.1, (gt p_l s2.2.1).2.2.1, (gt p_l s2.2.1).2.2.2.1, (gt p_l s2.2.1).2.2.2.2.1, z1.1)] : List (Int × Int × Bool × (List UInt8) × Int × (List Int))).length ([((gt p_l s2.2.1).1, (gt p_l s2.2.1).2.1, (gt p_l s2.2.1).2.2.1, (gt p_l s2.2.1).2.2.2.1, (gt p_l s2.2.1).2.2.2.2.1, z1.1)] : List (Int × Int × Bool × (List UInt8) × Int × (List Int))).length) ([((gt p_l s2.2.1).1, (gt p_l s2.2.1).2.1, (gt p_l s2.2.1).2.2.1, (gt p_l s2.2.1).2.2.2.1, (gt p_l s2.2.1).2.2.2.2.1, z1.1)] : List (Int × Int × Bool × (List UInt8) × Int × (List Int))), .box w1.heap.size 24 [.slice ao10 z1.2.2.1.length cp10], .ro ty60 (.slice ao10 z1.2.2.1.length cp10) z1.2.2.1, .box w.heap.size 22 [.slice ao11 z1.2.2.2.length cp11], .ro (tI .u8) (.slice ao11 z1.2.2.2.length cp11) z1.2.2.2, .row 56 ty55 (.slice ao12 (s2.1 ++ ([((gt p_l s2.2.1).1, (gt p_l s2.2.1).2.1, (gt p_l s2.2.1).2.2.1, (gt p_l s2.2.1).2.2.2.1, (gt p_l s2.2.1).2.2.2.2.1, z1.1)] : List (Int × Int × Bool × (List UInt8) × Int × (List Int)))).length cp12) (s2.1 ++ ([((gt p_l s2.2.1).1, (gt p_l s2.2.1).2.1, (gt p_l s2.2.1).2.2.1, (gt p_l s2.2.1).2.2.2.1, (gt p_l s2.2.1).2.2.2.2.1, z1.1)] : List (Int × Int × Bool × (List UInt8) × Int × (List Int)))), .ro ty57 (.slice ao1 p_l.length cp1) p_l] := hs.updRow 5 rfl ho hg hl
        clear ho hg hl
        replace hs : Sep w F R w8 F4 [.box w1.heap.size 24 [.slice ao10 z1.2.2.1.length cp10], .ro ty60 (.slice ao10 z1.2.2.1.length cp10) z1.2.2.1, .box w.heap.size 22 [.slice ao11 z1.2.2.2.length cp11], .ro (tI .u8) (.slice ao11 z1.2.2.2.length cp11) z1.2.2.2, .row 56 ty55 (.slice ao12 (s2.1 ++ ([((gt p_l s2.2.1).1, (gt p_l s2.2.1).2.1, (gt p_l s2.2.1).2.2.1, (gt p_l s2.2.1).2.2.2.1, (gt p_l s2.2.1).2.2.2.2.1, z1.1)] : List (Int × Int × Bool × (List UInt8) × Int × (List Int)))).length cp12) (s2.1 ++ ([((gt p_l s2.2.1).1, (gt p_l s2.2.1).2.1, (gt p_l s2.2.1).2.2.1, (gt p_l s2.2.1).2.2.2.1, (gt p_l s2.2.1).2.2.2.2.1, z1.1)] : List (Int × Int × Bool × (List UInt8) × Int × (List Int)))), .ro ty57 (.slice ao1 p_l.length cp1) p_l] := hs.sel [1, 2, 3, 4, 5, 6] rfl rfl
        replace hf := Fr.keep (ks := [4, 9, 15, 16, 17, 44]) (L' := [(4, .pointer (some ⟨w.heap.size, 0, none⟩)), (9, .func (.func 39) #[] #[.pointer (some ⟨w1.heap.size, 0, none⟩), .pointer (some ⟨w.heap.size, 0, none⟩)]), (15, .slice ao1 p_l.length cp1), (16, .int .i64 ((p_l.length : Nat) : Int)), (17, .int .i64 s2.2.1), (44, .slice ao12 (s2.1 ++ ([((gt p_l s2.2.1).1, (gt p_l s2.2.1).2.1, (gt p_l s2.2.1).2.2.1, (gt p_l s2.2.1).2.2.2.1, (gt p_l s2.2.1).2.2.2.2.1, z1.1)] : List (Int × Int × Bool × (List UInt8) × Int × (List Int)))).length cp12)]) hf (by kernel_rfl)
        refine st tbOk 1 [4, 8, 9, 15, 16, 17] (L' := [(4, .pointer (some ⟨w.heap.size, 0, none⟩)), (8, .slice ao12 (s2.1 ++ ([((gt p_l s2.2.1).1, (gt p_l s2.2.1).2.1, (gt p_l s2.2.1).2.2.1, (gt p_l s2.2.1).2.2.2.1, (gt p_l s2.2.1).2.2.2.2.1, z1.1)] : List (Int × Int × Bool × (List UInt8) × Int × (List Int)))).length cp12), (9, .func (.func 39) #[] #[.pointer (some ⟨w1.heap.size, 0, none⟩), .pointer (some ⟨w.heap.size, 0, none⟩)]), (15, .slice ao1 p_l.length cp1), (16, .int .i64 ((p_l.length : Nat) : Int)), (17, .int .i64 s2.2.1)]) hf (by kernel_rfl) ?_
        clear hf; clear a; intro a hf
        refine wpList_nil ?_
        refine reg ?_
        refine st tbOk 2 [4, 8, 9, 15, 16, 17] (L' := [(4, .pointer (some ⟨w.heap.size, 0, none⟩)), (8, .slice ao12 (s2.1 ++ ([((gt p_l s2.2.1).1, (gt p_l s2.2.1).2.1, (gt p_l s2.2.1).2.2.1, (gt p_l s2.2.1).2.2.2.1, (gt p_l s2.2.1).2.2.2.2.1, z1.1)] : List (Int × Int × Bool × (List UInt8) × Int × (List Int)))).length cp12), (9, .func (.func 39) #[] #[.pointer (some ⟨w1.heap.size, 0, none⟩), .pointer (some ⟨w.heap.size, 0, none⟩)]), (15, .slice ao1 p_l.length cp1), (16, .int .i64 ((p_l.length : Nat) : Int)), (17, .int .i64 (IntKind.i64.wrap (s2.2.1 + 1)))]) hf (by kernel_rfl) ?_
        clear hf; clear a; intro a hf
        refine wpList_nil ?_
        exact hK2 ((s2.1 ++ ([((gt p_l s2.2.1).1, (gt p_l s2.2.1).2.1, (gt p_l s2.2.1).2.2.1, (gt p_l s2.2.1).2.2.2.1, (gt p_l s2.2.1).2.2.2.2.1, z1.1)] : List (Int × Int × Bool × (List UInt8) × Int × (List Int)))), IntKind.i64.wrap (s2.2.1 + 1), z1.2.2.1, z1.2.2.2) _ _ ⟨ao12, cp12, ao10, cp10, ao11, cp11, _, hs.sel [4, 1, 0, 3, 2, 5] rfl rfl, hf.keep (ks := [4, 8, 9, 15, 16, 17]) (by kernel_rfl)⟩ hS
    · replace hS := of_f hb1 hS
      refine wp_exit ?_
      exact hK1 (s2.1, s2.2.2.2) _ _ ⟨ao6, cp6, ao8, cp8, _, hs.sel [0, 3, 4] rfl rfl, hf.keep (ks := [4, 8]) (by kernel_rfl)⟩ hS

set_option maxHeartbeats 4000000 in
theorem law21_awake_ok {w : World} {F : SH}   (hs : Sep w F (blks []) w F []) {r : Bool} (hS : law21_awake = some r) :
    Calls Try.prog 13 [].toArray w (Gives (fun u w' => ∃ (F' : SH), u = .bool r ∧ Sep w F (blks []) w' F' [])) := by
  generalize (blks []) = R at hs ⊢
  unfold law21_awake at hS
  refine fn_ok (vs := []) Try.func13 rfl 87 Try.ntmps13 (Nat.le_of_ble_eq_true rfl) ?_
  intro a hf
  replace hf := Fr.cast (L' := []) hf (by kernel_rfl)
  refine sq ?_
  refine reg ?_
  refine st tbOk 1 [] (L' := []) hf (by kernel_rfl) ?_
  clear hf; clear a; intro a hf
  refine wpList_nil ?_
  refine sq ?_
  refine reg ?_
  have hT := of_gd hS; clear hS; obtain ⟨hc1, hS⟩ := hT
  refine mkR tbOk u22 i5 rfl rfl (t := (tI .u8)) rfl rfl (0 : Int) hs.le rfl (k := .i64) (k' := .i64) (n := 300) hc1 hf (by kernel_rfl) (by kernel_rfl) (by kernel_rfl) (by kernel_rfl) ?_
  clear hf; clear a; intro w1 a ho hx hf
  replace hs : Sep w F R w1 F [.row 5 (tI .u8) (.slice (some ⟨w.heap.size, 0, none⟩) (List.replicate (Int.toNat 300) (0 : Int)).length (Int.toNat 300)) (List.replicate (Int.toNat 300) (0 : Int))] := hs.newRow ho hx
  clear ho hx
  replace hf := Fr.keep (ks := [10]) (L' := [(10, .slice (some ⟨w.heap.size, 0, none⟩) (List.replicate (Int.toNat 300) (0 : Int)).length (Int.toNat 300))]) hf (by kernel_rfl)
  refine st tbOk 1 [11] (L' := [(11, .agg #[strV [102], .slice (some ⟨w.heap.size, 0, none⟩) (List.replicate (Int.toNat 300) (0 : Int)).length (Int.toNat 300)])]) hf (by kernel_rfl) ?_
  clear hf; clear a; intro a hf
  obtain ⟨F1, _, hs⟩ := hs.frz 0 rfl
  replace hs : Sep w F R w1 F1 [.ro (tI .u8) (.slice (some ⟨w.heap.size, 0, none⟩) (List.replicate (Int.toNat 300) (0 : Int)).length (Int.toNat 300)) (List.replicate (Int.toNat 300) (0 : Int))] := hs
  refine bsR tbOk u24 i61 rfl (t := ty60) (vs := [(0, .agg #[strV [102], .slice (some ⟨w.heap.size, 0, none⟩) (List.replicate (Int.toNat 300) (0 : Int)).length (Int.toNat 300)])]) (cells := #[strV [102], .slice (some ⟨w.heap.size, 0, none⟩) (List.replicate (Int.toNat 300) (0 : Int)).length (Int.toNat 300)]) ([([102], (List.replicate (Int.toNat 300) (0 : Int)))] : List ((List UInt8) × (List Int))) hs.le hf (by kernel_rfl) (by kernel_rfl) (by kernel_rfl) rfl (by kernel_rfl) ⟨_, _, rfl, ⟨(some ⟨w.heap.size, 0, none⟩), (Int.toNat 300), rfl, hs.ro 0 rfl⟩, rfl⟩ rfl ?_
  clear hf; clear a; intro w2 a ho hx hf
  replace hs : Sep w F R w2 F1 [.row 61 ty60 (.slice (some ⟨w1.heap.size, 0, none⟩) ([([102], (List.replicate (Int.toNat 300) (0 : Int)))] : List ((List UInt8) × (List Int))).length ([([102], (List.replicate (Int.toNat 300) (0 : Int)))] : List ((List UInt8) × (List Int))).length) ([([102], (List.replicate (Int.toNat 300) (0 : Int)))] : List ((List UInt8) × (List Int))), .ro (tI .u8) (.slice (some ⟨w.heap.size, 0, none⟩) (List.replicate (Int.toNat 300) (0 : Int)).length (Int.toNat 300)) (List.replicate (Int.toNat 300) (0 : Int))] := hs.newRow ho hx
  clear ho hx
  replace hs : Sep w F R w2 F1 [.row 61 ty60 (.slice (some ⟨w1.heap.size, 0, none⟩) ([([102], (List.replicate (Int.toNat 300) (0 : Int)))] : List ((List UInt8) × (List Int))).length ([([102], (List.replicate (Int.toNat 300) (0 : Int)))] : List ((List UInt8) × (List Int))).length) ([([102], (List.replicate (Int.toNat 300) (0 : Int)))] : List ((List UInt8) × (List Int)))] := hs.sel [0] rfl rfl
  replace hf := Fr.keep (ks := [12]) (L' := [(12, .slice (some ⟨w1.heap.size, 0, none⟩) ([([102], (List.replicate (Int.toNat 300) (0 : Int)))] : List ((List UInt8) × (List Int))).length ([([102], (List.replicate (Int.toNat 300) (0 : Int)))] : List ((List UInt8) × (List Int))).length)]) hf (by kernel_rfl)
  refine st tbOk 1 [1] (L' := [(1, .slice (some ⟨w1.heap.size, 0, none⟩) ([([102], (List.replicate (Int.toNat 300) (0 : Int)))] : List ((List UInt8) × (List Int))).length ([([102], (List.replicate (Int.toNat 300) (0 : Int)))] : List ((List UInt8) × (List Int))).length)]) hf (by kernel_rfl) ?_
  clear hf; clear a; intro a hf
  refine wpList_nil ?_
  refine sq ?_
  obtain ⟨F2, _, hs⟩ := hs.frz 0 rfl
  replace hs : Sep w F R w2 F2 [.ro ty60 (.slice (some ⟨w1.heap.size, 0, none⟩) ([([102], (List.replicate (Int.toNat 300) (0 : Int)))] : List ((List UInt8) × (List Int))).length ([([102], (List.replicate (Int.toNat 300) (0 : Int)))] : List ((List UInt8) × (List Int))).length) ([([102], (List.replicate (Int.toNat 300) (0 : Int)))] : List ((List UInt8) × (List Int)))] := hs
  have hT := of_gd hS; clear hS; obtain ⟨hc2, hS⟩ := hT
  have hT := of_gd hS; clear hS; obtain ⟨hc3, hS⟩ := hT
  have hT := of_bd hS; clear hS; obtain ⟨z1, hz1, hS⟩ := hT
  have hs0 := hs
  refine regF 12 [fun u uw => ∃ (ao1 : Option Addr) (cp1 : Nat) (F' : SH), u = .slice ao1 (List.replicate (Int.toNat 256) (0 : Int)).length cp1 ∧ Sep w2 F2 noR uw F' [.row 5 (tI .u8) (.slice ao1 (List.replicate (Int.toNat 256) (0 : Int)).length cp1) (List.replicate (Int.toNat 256) (0 : Int))],
    fun u uw => ∃ (ao2 : Option Addr) (cp2 : Nat) (F' : SH), u = .agg #[.int .u64 256, .int .i64 0, .bool false, strV [102], .int .u64 20, .slice ao2 (List.replicate (Int.toNat 256) (0 : Int)).length cp2] ∧ Sep w2 F2 noR uw F' [.ro (tI .u8) (.slice ao2 (List.replicate (Int.toNat 256) (0 : Int)).length cp2) (List.replicate (Int.toNat 256) (0 : Int))],
    fun u uw => ∃ (ao3 : Option Addr) (cp3 : Nat) (F' : SH), u = .slice ao3 (List.replicate (Int.toNat 256) (0 : Int)).length cp3 ∧ Sep w2 F2 noR uw F' [.row 5 (tI .u8) (.slice ao3 (List.replicate (Int.toNat 256) (0 : Int)).length cp3) (List.replicate (Int.toNat 256) (0 : Int))],
    fun u uw => ∃ (ao4 : Option Addr) (cp4 : Nat) (F' : SH), u = .agg #[.int .u64 512, .int .i64 0, .bool false, strV [], .int .u64 0, .slice ao4 (List.replicate (Int.toNat 256) (0 : Int)).length cp4] ∧ Sep w2 F2 noR uw F' [.ro (tI .u8) (.slice ao4 (List.replicate (Int.toNat 256) (0 : Int)).length cp4) (List.replicate (Int.toNat 256) (0 : Int))],
    fun u uw => ∃ (ao5 : Option Addr) (cp5 : Nat) (F' : SH), u = .slice ao5 ([(256, 0, false, [102], 20, (List.replicate (Int.toNat 256) (0 : Int))), (512, 0, false, [], 0, (List.replicate (Int.toNat 256) (0 : Int)))] : List (Int × Int × Bool × (List UInt8) × Int × (List Int))).length cp5 ∧ Sep w2 F2 noR uw F' [.row 56 ty55 (.slice ao5 ([(256, 0, false, [102], 20, (List.replicate (Int.toNat 256) (0 : Int))), (512, 0, false, [], 0, (List.replicate (Int.toNat 256) (0 : Int)))] : List (Int × Int × Bool × (List UInt8) × Int × (List Int))).length cp5) ([(256, 0, false, [102], 20, (List.replicate (Int.toNat 256) (0 : Int))), (512, 0, false, [], 0, (List.replicate (Int.toNat 256) (0 : Int)))] : List (Int × Int × Bool × (List UInt8) × Int × (List Int)))],
    fun u uw => u = .slice (some ⟨w1.heap.size, 0, none⟩) ([([102], (List.replicate (Int.toNat 300) (0 : Int)))] : List ((List UInt8) × (List Int))).length ([([102], (List.replicate (Int.toNat 300) (0 : Int)))] : List ((List UInt8) × (List Int))).length,
    fun u uw => ∃ (ao8 : Option Addr) (cp8 : Nat) (ao9 : Option Addr) (cp9 : Nat) (F' : SH), u = .tuple #[.slice ao8 z1.1.length cp8, .slice ao9 z1.2.length cp9] ∧ Sep w2 F2 noR uw F' [.row 58 ty57 (.slice ao8 z1.1.length cp8) z1.1, .row 5 (tI .u8) (.slice ao9 z1.2.length cp9) z1.2],
    fun u uw => ∃ (ao10 : Option Addr) (cp10 : Nat) (ao11 : Option Addr) (cp11 : Nat) (F' : SH), u = .tuple #[.slice ao10 z1.1.length cp10, .slice ao11 z1.2.length cp11] ∧ Sep w2 F2 noR uw F' [.ro ty57 (.slice ao10 z1.1.length cp10) z1.1, .ro (tI .u8) (.slice ao11 z1.2.length cp11) z1.2],
    fun u uw => ∃ (ao12 : Option Addr) (cp12 : Nat) (F' : SH), u = .slice ao12 z1.1.length cp12 ∧ Sep w2 F2 noR uw F' [.ro ty57 (.slice ao12 z1.1.length cp12) z1.1],
    fun u uw => ∃ (ao13 : Option Addr) (cp13 : Nat) (F' : SH), u = .slice ao13 z1.2.length cp13 ∧ Sep w2 F2 noR uw F' [.ro (tI .u8) (.slice ao13 z1.2.length cp13) z1.2],
    fun u uw => ∃ (ao14 : Option Addr) (cp14 : Nat) (F' : SH), u = .slice ao14 z1.1.length cp14 ∧ Sep w2 F2 noR uw F' [.ro ty57 (.slice ao14 z1.1.length cp14) z1.1],
    fun u uw => ∃ (ao15 : Option Addr) (cp15 : Nat) (F' : SH), u = .slice ao15 z1.2.length cp15 ∧ Sep w2 F2 noR uw F' [.ro (tI .u8) (.slice ao15 z1.2.length cp15) z1.2]] mixed (Fr.keep (ks := [1]) (L' := [(1, .slice (some ⟨w1.heap.size, 0, none⟩) ([([102], (List.replicate (Int.toNat 300) (0 : Int)))] : List ((List UInt8) × (List Int))).length ([([102], (List.replicate (Int.toNat 300) (0 : Int)))] : List ((List UInt8) × (List Int))).length)]) hf (by kernel_rfl)) (by kernel_rfl) rfl ?_ ?_ ?_
  · exact ⟨fun _ _ _ ⟨ao1, cp1, F', e, h⟩ hx => ⟨ao1, cp1, F', e, h.ext hx⟩, fun _ _ _ ⟨ao2, cp2, F', e, h⟩ hx => ⟨ao2, cp2, F', e, h.ext hx⟩, fun _ _ _ ⟨ao3, cp3, F', e, h⟩ hx => ⟨ao3, cp3, F', e, h.ext hx⟩, fun _ _ _ ⟨ao4, cp4, F', e, h⟩ hx => ⟨ao4, cp4, F', e, h.ext hx⟩, fun _ _ _ ⟨ao5, cp5, F', e, h⟩ hx => ⟨ao5, cp5, F', e, h.ext hx⟩, fun _ _ _ h _ => h, fun _ _ _ ⟨ao8, cp8, ao9, cp9, F', e, h⟩ hx => ⟨ao8, cp8, ao9, cp9, F', e, h.ext hx⟩, fun _ _ _ ⟨ao10, cp10, ao11, cp11, F', e, h⟩ hx => ⟨ao10, cp10, ao11, cp11, F', e, h.ext hx⟩, fun _ _ _ ⟨ao12, cp12, F', e, h⟩ hx => ⟨ao12, cp12, F', e, h.ext hx⟩, fun _ _ _ ⟨ao13, cp13, F', e, h⟩ hx => ⟨ao13, cp13, F', e, h.ext hx⟩, fun _ _ _ ⟨ao14, cp14, F', e, h⟩ hx => ⟨ao14, cp14, F', e, h.ext hx⟩, fun _ _ _ ⟨ao15, cp15, F', e, h⟩ hx => ⟨ao15, cp15, F', e, h.ext hx⟩, trivial⟩
  · clear hS hf hs; clear a
    refine ⟨?_, ?_, ?_, ?_, ?_, ?_, ?_, ?_, ?_, ?_, ?_, ?_, trivial⟩
    · intro a wf hX hf hd
      clear hd
      have hs : Sep wf (star F2 w2 wf) noR wf (star F2 w2 wf) [.ro ty60 (.slice (some ⟨w1.heap.size, 0, none⟩) ([([102], (List.replicate (Int.toNat 300) (0 : Int)))] : List ((List UInt8) × (List Int))).length ([([102], (List.replicate (Int.toNat 300) (0 : Int)))] : List ((List UInt8) × (List Int))).length) ([([102], (List.replicate (Int.toNat 300) (0 : Int)))] : List ((List UInt8) × (List Int)))] := hs0.fstart hX [0] rfl rfl
      refine mkR tbOk u22 i5 rfl rfl (t := (tI .u8)) rfl rfl (0 : Int) hs.le rfl (k := .i64) (k' := .i64) (n := 256) hc2 hf (by kernel_rfl) (by kernel_rfl) (by kernel_rfl) (by kernel_rfl) ?_
      clear hf; clear a; intro w3 a ho hx hf
      replace hs : Sep wf (star F2 w2 wf) noR w3 (star F2 w2 wf) [.row 5 (tI .u8) (.slice (some ⟨wf.heap.size, 0, none⟩) (List.replicate (Int.toNat 256) (0 : Int)).length (Int.toNat 256)) (List.replicate (Int.toNat 256) (0 : Int)), .ro ty60 (.slice (some ⟨w1.heap.size, 0, none⟩) ([([102], (List.replicate (Int.toNat 300) (0 : Int)))] : List ((List UInt8) × (List Int))).length ([([102], (List.replicate (Int.toNat 300) (0 : Int)))] : List ((List UInt8) × (List Int))).length) ([([102], (List.replicate (Int.toNat 300) (0 : Int)))] : List ((List UInt8) × (List Int)))] := hs.newRow ho hx
      clear ho hx
      exact fq_ok (d := 14) rfl hf (hs.ex fun _ h => h) ⟨(some ⟨wf.heap.size, 0, none⟩), (Int.toNat 256), _, hf.1, (hs.sel [0] rfl rfl).rebase hX⟩
    · intro a wf hX hf hd
      obtain ⟨ao1, cp1, F_14, e_14, h_14⟩ : ∃ (ao1 : Option Addr) (cp1 : Nat) (F' : SH), a.tmps.getD 14 undef = .slice ao1 (List.replicate (Int.toNat 256) (0 : Int)).length cp1 ∧ Sep w2 F2 noR wf F' [.row 5 (tI .u8) (.slice ao1 (List.replicate (Int.toNat 256) (0 : Int)).length cp1) (List.replicate (Int.toNat 256) (0 : Int))] := hd 0 14 (by kernel_rfl) (by kernel_rfl)
      replace hf : Fr 87 [(14, .slice ao1 (List.replicate (Int.toNat 256) (0 : Int)).length cp1), (1, .slice (some ⟨w1.heap.size, 0, none⟩) ([([102], (List.replicate (Int.toNat 300) (0 : Int)))] : List ((List UInt8) × (List Int))).length ([([102], (List.replicate (Int.toNat 300) (0 : Int)))] : List ((List UInt8) × (List Int))).length)] a := ⟨e_14, hf⟩; clear e_14
      clear hd
      have hs : Sep wf (star F2 w2 wf) noR wf (star F2 w2 wf) [.ro ty60 (.slice (some ⟨w1.heap.size, 0, none⟩) ([([102], (List.replicate (Int.toNat 300) (0 : Int)))] : List ((List UInt8) × (List Int))).length ([([102], (List.replicate (Int.toNat 300) (0 : Int)))] : List ((List UInt8) × (List Int))).length) ([([102], (List.replicate (Int.toNat 300) (0 : Int)))] : List ((List UInt8) × (List Int)))] := hs0.fstart hX [0] rfl rfl
      replace hs : Sep wf (star F2 w2 wf) noR wf (star F2 w2 wf) [.ro (tI .u8) (.slice ao1 (List.replicate (Int.toNat 256) (0 : Int)).length cp1) (List.replicate (Int.toNat 256) (0 : Int)), .ro ty60 (.slice (some ⟨w1.heap.size, 0, none⟩) ([([102], (List.replicate (Int.toNat 300) (0 : Int)))] : List ((List UInt8) × (List Int))).length ([([102], (List.replicate (Int.toNat 300) (0 : Int)))] : List ((List UInt8) × (List Int))).length) ([([102], (List.replicate (Int.toNat 300) (0 : Int)))] : List ((List UInt8) × (List Int)))] := hs.addStar h_14 0 rfl rfl
      clear h_14
      refine st tbOk 1 [15] (L' := [(15, .agg #[.int .u64 256, .int .i64 0, .bool false, strV [102], .int .u64 20, .slice ao1 (List.replicate (Int.toNat 256) (0 : Int)).length cp1])]) hf (by kernel_rfl) ?_
      clear hf; clear a; intro a hf
      exact fq_ok (d := 15) rfl hf (hs.ex fun _ h => h) ⟨ao1, cp1, _, hf.1, (hs.sel [0] rfl rfl).rebase hX⟩
    · intro a wf hX hf hd
      clear hd
      have hs : Sep wf (star F2 w2 wf) noR wf (star F2 w2 wf) [.ro ty60 (.slice (some ⟨w1.heap.size, 0, none⟩) ([([102], (List.replicate (Int.toNat 300) (0 : Int)))] : List ((List UInt8) × (List Int))).length ([([102], (List.replicate (Int.toNat 300) (0 : Int)))] : List ((List UInt8) × (List Int))).length) ([([102], (List.replicate (Int.toNat 300) (0 : Int)))] : List ((List UInt8) × (List Int)))] := hs0.fstart hX [0] rfl rfl
      refine mkR tbOk u22 i5 rfl rfl (t := (tI .u8)) rfl rfl (0 : Int) hs.le rfl (k := .i64) (k' := .i64) (n := 256) hc3 hf (by kernel_rfl) (by kernel_rfl) (by kernel_rfl) (by kernel_rfl) ?_
      clear hf; clear a; intro w4 a ho hx hf
      replace hs : Sep wf (star F2 w2 wf) noR w4 (star F2 w2 wf) [.row 5 (tI .u8) (.slice (some ⟨wf.heap.size, 0, none⟩) (List.replicate (Int.toNat 256) (0 : Int)).length (Int.toNat 256)) (List.replicate (Int.toNat 256) (0 : Int)), .ro ty60 (.slice (some ⟨w1.heap.size, 0, none⟩) ([([102], (List.replicate (Int.toNat 300) (0 : Int)))] : List ((List UInt8) × (List Int))).length ([([102], (List.replicate (Int.toNat 300) (0 : Int)))] : List ((List UInt8) × (List Int))).length) ([([102], (List.replicate (Int.toNat 300) (0 : Int)))] : List ((List UInt8) × (List Int)))] := hs.newRow ho hx
      clear ho hx
      exact fq_ok (d := 16) rfl hf (hs.ex fun _ h => h) ⟨(some ⟨wf.heap.size, 0, none⟩), (Int.toNat 256), _, hf.1, (hs.sel [0] rfl rfl).rebase hX⟩
    · intro a wf hX hf hd
      obtain ⟨ao3, cp3, F_16, e_16, h_16⟩ : ∃ (ao3 : Option Addr) (cp3 : Nat) (F' : SH), a.tmps.getD 16 undef = .slice ao3 (List.replicate (Int.toNat 256) (0 : Int)).length cp3 ∧ Sep w2 F2 noR wf F' [.row 5 (tI .u8) (.slice ao3 (List.replicate (Int.toNat 256) (0 : Int)).length cp3) (List.replicate (Int.toNat 256) (0 : Int))] := hd 2 16 (by kernel_rfl) (by kernel_rfl)
      replace hf : Fr 87 [(16, .slice ao3 (List.replicate (Int.toNat 256) (0 : Int)).length cp3), (1, .slice (some ⟨w1.heap.size, 0, none⟩) ([([102], (List.replicate (Int.toNat 300) (0 : Int)))] : List ((List UInt8) × (List Int))).length ([([102], (List.replicate (Int.toNat 300) (0 : Int)))] : List ((List UInt8) × (List Int))).length)] a := ⟨e_16, hf⟩; clear e_16
      clear hd
      have hs : Sep wf (star F2 w2 wf) noR wf (star F2 w2 wf) [.ro ty60 (.slice (some ⟨w1.heap.size, 0, none⟩) ([([102], (List.replicate (Int.toNat 300) (0 : Int)))] : List ((List UInt8) × (List Int))).length ([([102], (List.replicate (Int.toNat 300) (0 : Int)))] : List ((List UInt8) × (List Int))).length) ([([102], (List.replicate (Int.toNat 300) (0 : Int)))] : List ((List UInt8) × (List Int)))] := hs0.fstart hX [0] rfl rfl
      replace hs : Sep wf (star F2 w2 wf) noR wf (star F2 w2 wf) [.ro (tI .u8) (.slice ao3 (List.replicate (Int.toNat 256) (0 : Int)).length cp3) (List.replicate (Int.toNat 256) (0 : Int)), .ro ty60 (.slice (some ⟨w1.heap.size, 0, none⟩) ([([102], (List.replicate (Int.toNat 300) (0 : Int)))] : List ((List UInt8) × (List Int))).length ([([102], (List.replicate (Int.toNat 300) (0 : Int)))] : List ((List UInt8) × (List Int))).length) ([([102], (List.replicate (Int.toNat 300) (0 : Int)))] : List ((List UInt8) × (List Int)))] := hs.addStar h_16 0 rfl rfl
      clear h_16
      refine st tbOk 1 [17] (L' := [(17, .agg #[.int .u64 512, .int .i64 0, .bool false, strV [], .int .u64 0, .slice ao3 (List.replicate (Int.toNat 256) (0 : Int)).length cp3])]) hf (by kernel_rfl) ?_
      clear hf; clear a; intro a hf
      exact fq_ok (d := 17) rfl hf (hs.ex fun _ h => h) ⟨ao3, cp3, _, hf.1, (hs.sel [0] rfl rfl).rebase hX⟩
    · intro a wf hX hf hd
      obtain ⟨ao2, cp2, F_15, e_15, h_15⟩ : ∃ (ao2 : Option Addr) (cp2 : Nat) (F' : SH), a.tmps.getD 15 undef = .agg #[.int .u64 256, .int .i64 0, .bool false, strV [102], .int .u64 20, .slice ao2 (List.replicate (Int.toNat 256) (0 : Int)).length cp2] ∧ Sep w2 F2 noR wf F' [.ro (tI .u8) (.slice ao2 (List.replicate (Int.toNat 256) (0 : Int)).length cp2) (List.replicate (Int.toNat 256) (0 : Int))] := hd 1 15 (by kernel_rfl) (by kernel_rfl)
      obtain ⟨ao4, cp4, F_17, e_17, h_17⟩ : ∃ (ao4 : Option Addr) (cp4 : Nat) (F' : SH), a.tmps.getD 17 undef = .agg #[.int .u64 512, .int .i64 0, .bool false, strV [], .int .u64 0, .slice ao4 (List.replicate (Int.toNat 256) (0 : Int)).length cp4] ∧ Sep w2 F2 noR wf F' [.ro (tI .u8) (.slice ao4 (List.replicate (Int.toNat 256) (0 : Int)).length cp4) (List.replicate (Int.toNat 256) (0 : Int))] := hd 3 17 (by kernel_rfl) (by kernel_rfl)
      replace hf : Fr 87 [(15, .agg #[.int .u64 256, .int .i64 0, .bool false, strV [102], .int .u64 20, .slice ao2 (List.replicate (Int.toNat 256) (0 : Int)).length cp2]), (17, .agg #[.int .u64 512, .int .i64 0, .bool false, strV [], .int .u64 0, .slice ao4 (List.replicate (Int.toNat 256) (0 : Int)).length cp4]), (1, .slice (some ⟨w1.heap.size, 0, none⟩) ([([102], (List.replicate (Int.toNat 300) (0 : Int)))] : List ((List UInt8) × (List Int))).length ([([102], (List.replicate (Int.toNat 300) (0 : Int)))] : List ((List UInt8) × (List Int))).length)] a := ⟨e_15, e_17, hf⟩; clear e_15 e_17
      clear hd
      have hs : Sep wf (star F2 w2 wf) noR wf (star F2 w2 wf) [.ro ty60 (.slice (some ⟨w1.heap.size, 0, none⟩) ([([102], (List.replicate (Int.toNat 300) (0 : Int)))] : List ((List UInt8) × (List Int))).length ([([102], (List.replicate (Int.toNat 300) (0 : Int)))] : List ((List UInt8) × (List Int))).length) ([([102], (List.replicate (Int.toNat 300) (0 : Int)))] : List ((List UInt8) × (List Int)))] := hs0.fstart hX [0] rfl rfl
      replace hs : Sep wf (star F2 w2 wf) noR wf (star F2 w2 wf) [.ro (tI .u8) (.slice ao2 (List.replicate (Int.toNat 256) (0 : Int)).length cp2) (List.replicate (Int.toNat 256) (0 : Int)), .ro ty60 (.slice (some ⟨w1.heap.size, 0, none⟩) ([([102], (List.replicate (Int.toNat 300) (0 : Int)))] : List ((List UInt8) × (List Int))).length ([([102], (List.replicate (Int.toNat 300) (0 : Int)))] : List ((List UInt8) × (List Int))).length) ([([102], (List.replicate (Int.toNat 300) (0 : Int)))] : List ((List UInt8) × (List Int)))] := hs.addStar h_15 0 rfl rfl
      replace hs : Sep wf (star F2 w2 wf) noR wf (star F2 w2 wf) [.ro (tI .u8) (.slice ao4 (List.replicate (Int.toNat 256) (0 : Int)).length cp4) (List.replicate (Int.toNat 256) (0 : Int)), .ro (tI .u8) (.slice ao2 (List.replicate (Int.toNat 256) (0 : Int)).length cp2) (List.replicate (Int.toNat 256) (0 : Int)), .ro ty60 (.slice (some ⟨w1.heap.size, 0, none⟩) ([([102], (List.replicate (Int.toNat 300) (0 : Int)))] : List ((List UInt8) × (List Int))).length ([([102], (List.replicate (Int.toNat 300) (0 : Int)))] : List ((List UInt8) × (List Int))).length) ([([102], (List.replicate (Int.toNat 300) (0 : Int)))] : List ((List UInt8) × (List Int)))] := hs.addStar h_17 0 rfl rfl
      clear h_17
      clear h_15
      refine bsR tbOk u35 i56 rfl (t := ty55) (vs := [(0, .agg #[.int .u64 256, .int .i64 0, .bool false, strV [102], .int .u64 20, .slice ao2 (List.replicate (Int.toNat 256) (0 : Int)).length cp2]), (1, .agg #[.int .u64 512, .int .i64 0, .bool false, strV [], .int .u64 0, .slice ao4 (List.replicate (Int.toNat 256) (0 : Int)).length cp4])]) (cells := #[.int .u64 256, .int .i64 0, .bool false, strV [102], .int .u64 20, .slice ao2 (List.replicate (Int.toNat 256) (0 : Int)).length cp2, .int .u64 512, .int .i64 0, .bool false, strV [], .int .u64 0, .slice ao4 (List.replicate (Int.toNat 256) (0 : Int)).length cp4]) ([(256, 0, false, [102], 20, (List.replicate (Int.toNat 256) (0 : Int))), (512, 0, false, [], 0, (List.replicate (Int.toNat 256) (0 : Int)))] : List (Int × Int × Bool × (List UInt8) × Int × (List Int))) hs.le hf (by kernel_rfl) (by kernel_rfl) (by kernel_rfl) rfl (by kernel_rfl) ⟨_, _, rfl, ⟨ao2, cp2, rfl, hs.ro 1 rfl⟩, ⟨_, _, rfl, ⟨ao4, cp4, rfl, hs.ro 0 rfl⟩, rfl⟩⟩ rfl ?_
      clear hf; clear a; intro w5 a ho hx hf
      replace hs : Sep wf (star F2 w2 wf) noR w5 (star F2 w2 wf) [.row 56 ty55 (.slice (some ⟨wf.heap.size, 0, none⟩) ([(256, 0, false, [102], 20, (List.replicate (Int.toNat 256) (0 : Int))), (512, 0, false, [], 0, (List.replicate (Int.toNat 256) (0 : Int)))] : List (Int × Int × Bool × (List UInt8) × Int × (List Int))).length ([(256, 0, false, [102], 20, (List.replicate (Int.toNat 256) (0 : Int))), (512, 0, false, [], 0, (List.replicate (Int.toNat 256) (0 : Int)))] : List (Int × Int × Bool × (List UInt8) × Int × (List Int))).length) ([(256, 0, false, [102], 20, (List.replicate (Int.toNat 256) (0 : Int))), (512, 0, false, [], 0, (List.replicate (Int.toNat 256) (0 : Int)))] : List (Int × Int × Bool × (List UInt8) × Int × (List Int))), .ro (tI .u8) (.slice ao4 (List.replicate (Int.toNat 256) (0 : Int)).length cp4) (List.replicate (Int.toNat 256) (0 : Int)), .ro (tI .u8) (.slice ao2 (List.replicate (Int.toNat 256) (0 : Int)).length cp2) (List.replicate (Int.toNat 256) (0 : Int)), .ro ty60 (.slice (some ⟨w1.heap.size, 0, none⟩) ([([102], (List.replicate (Int.toNat 300) (0 : Int)))] : List ((List UInt8) × (List Int))).length ([([102], (List.replicate (Int.toNat 300) (0 : Int)))] : List ((List UInt8) × (List Int))).length) ([([102], (List.replicate (Int.toNat 300) (0 : Int)))] : List ((List UInt8) × (List Int)))] := hs.newRow ho hx
      clear ho hx
      exact fq_ok (d := 18) rfl hf (hs.ex fun _ h => h) ⟨(some ⟨wf.heap.size, 0, none⟩), ([(256, 0, false, [102], 20, (List.replicate (Int.toNat 256) (0 : Int))), (512, 0, false, [], 0, (List.replicate (Int.toNat 256) (0 : Int)))] : List (Int × Int × Bool × (List UInt8) × Int × (List Int))).length, _, hf.1, (hs.sel [0] rfl rfl).rebase hX⟩
    · intro a wf hX hf hd
      clear hd
      have hs : Sep wf (star F2 w2 wf) noR wf (star F2 w2 wf) [.ro ty60 (.slice (some ⟨w1.heap.size, 0, none⟩) ([([102], (List.replicate (Int.toNat 300) (0 : Int)))] : List ((List UInt8) × (List Int))).length ([([102], (List.replicate (Int.toNat 300) (0 : Int)))] : List ((List UInt8) × (List Int))).length) ([([102], (List.replicate (Int.toNat 300) (0 : Int)))] : List ((List UInt8) × (List Int)))] := hs0.fstart hX [0] rfl rfl
      refine st tbOk 1 [19] (L' := [(19, .slice (some ⟨w1.heap.size, 0, none⟩) ([([102], (List.replicate (Int.toNat 300) (0 : Int)))] : List ((List UInt8) × (List Int))).length ([([102], (List.replicate (Int.toNat 300) (0 : Int)))] : List ((List UInt8) × (List Int))).length)]) hf (by kernel_rfl) ?_
      clear hf; clear a; intro a hf
      exact fq_ok (d := 19) rfl hf (hs.ex fun _ h => h) hf.1
    · intro a wf hX hf hd
      obtain ⟨ao5, cp5, F_18, e_18, h_18⟩ : ∃ (ao5 : Option Addr) (cp5 : Nat) (F' : SH), a.tmps.getD 18 undef = .slice ao5 ([(256, 0, false, [102], 20, (List.replicate (Int.toNat 256) (0 : Int))), (512, 0, false, [], 0, (List.replicate (Int.toNat 256) (0 : Int)))] : List (Int × Int × Bool × (List UInt8) × Int × (List Int))).length cp5 ∧ Sep w2 F2 noR wf F' [.row 56 ty55 (.slice ao5 ([(256, 0, false, [102], 20, (List.replicate (Int.toNat 256) (0 : Int))), (512, 0, false, [], 0, (List.replicate (Int.toNat 256) (0 : Int)))] : List (Int × Int × Bool × (List UInt8) × Int × (List Int))).length cp5) ([(256, 0, false, [102], 20, (List.replicate (Int.toNat 256) (0 : Int))), (512, 0, false, [], 0, (List.replicate (Int.toNat 256) (0 : Int)))] : List (Int × Int × Bool × (List UInt8) × Int × (List Int)))] := hd 4 18 (by kernel_rfl) (by kernel_rfl)
      have e_19 : a.tmps.getD 19 undef = .slice (some ⟨w1.heap.size, 0, none⟩) ([([102], (List.replicate (Int.toNat 300) (0 : Int)))] : List ((List UInt8) × (List Int))).length ([([102], (List.replicate (Int.toNat 300) (0 : Int)))] : List ((List UInt8) × (List Int))).length := hd 5 19 (by kernel_rfl) (by kernel_rfl)
      replace hf : Fr 87 [(18, .slice ao5 ([(256, 0, false, [102], 20, (List.replicate (Int.toNat 256) (0 : Int))), (512, 0, false, [], 0, (List.replicate (Int.toNat 256) (0 : Int)))] : List (Int × Int × Bool × (List UInt8) × Int × (List Int))).length cp5), (19, .slice (some ⟨w1.heap.size, 0, none⟩) ([([102], (List.replicate (Int.toNat 300) (0 : Int)))] : List ((List UInt8) × (List Int))).length ([([102], (List.replicate (Int.toNat 300) (0 : Int)))] : List ((List UInt8) × (List Int))).length), (1, .slice (some ⟨w1.heap.size, 0, none⟩) ([([102], (List.replicate (Int.toNat 300) (0 : Int)))] : List ((List UInt8) × (List Int))).length ([([102], (List.replicate (Int.toNat 300) (0 : Int)))] : List ((List UInt8) × (List Int))).length)] a := ⟨e_18, e_19, hf⟩; clear e_18 e_19
      clear hd
      have hs : Sep wf (star F2 w2 wf) noR wf (star F2 w2 wf) [.ro ty60 (.slice (some ⟨w1.heap.size, 0, none⟩) ([([102], (List.replicate (Int.toNat 300) (0 : Int)))] : List ((List UInt8) × (List Int))).length ([([102], (List.replicate (Int.toNat 300) (0 : Int)))] : List ((List UInt8) × (List Int))).length) ([([102], (List.replicate (Int.toNat 300) (0 : Int)))] : List ((List UInt8) × (List Int)))] := hs0.fstart hX [0] rfl rfl
      replace hs : Sep wf (star F2 w2 wf) noR wf (star F2 w2 wf) [.ro ty55 (.slice ao5 ([(256, 0, false, [102], 20, (List.replicate (Int.toNat 256) (0 : Int))), (512, 0, false, [], 0, (List.replicate (Int.toNat 256) (0 : Int)))] : List (Int × Int × Bool × (List UInt8) × Int × (List Int))).length cp5) ([(256, 0, false, [102], 20, (List.replicate (Int.toNat 256) (0 : Int))), (512, 0, false, [], 0, (List.replicate (Int.toNat 256) (0 : Int)))] : List (Int × Int × Bool × (List UInt8) × Int × (List Int))), .ro ty60 (.slice (some ⟨w1.heap.size, 0, none⟩) ([([102], (List.replicate (Int.toNat 300) (0 : Int)))] : List ((List UInt8) × (List Int))).length ([([102], (List.replicate (Int.toNat 300) (0 : Int)))] : List ((List UInt8) × (List Int))).length) ([([102], (List.replicate (Int.toNat 300) (0 : Int)))] : List ((List UInt8) × (List Int)))] := hs.addStar h_18 0 rfl rfl
      clear h_18
      refine clV ent19 (vs := [.slice ao5 ([(256, 0, false, [102], 20, (List.replicate (Int.toNat 256) (0 : Int))), (512, 0, false, [], 0, (List.replicate (Int.toNat 256) (0 : Int)))] : List (Int × Int × Bool × (List UInt8) × Int × (List Int))).length cp5, .slice (some ⟨w1.heap.size, 0, none⟩) ([([102], (List.replicate (Int.toNat 300) (0 : Int)))] : List ((List UInt8) × (List Int))).length ([([102], (List.replicate (Int.toNat 300) (0 : Int)))] : List ((List UInt8) × (List Int))).length]) (caps := []) hf (by kernel_rfl) (by kernel_rfl) (by kernel_rfl) (by kernel_rfl) (dedup_Split_ok (p_l := ([(256, 0, false, [102], 20, (List.replicate (Int.toNat 256) (0 : Int))), (512, 0, false, [], 0, (List.replicate (Int.toNat 256) (0 : Int)))] : List (Int × Int × Bool × (List UInt8) × Int × (List Int)))) (files := ([([102], (List.replicate (Int.toNat 300) (0 : Int)))] : List ((List UInt8) × (List Int)))) (hs.enter [0, 1] rfl rfl) hz1) ?_
      clear hf; clear a; intro v w6 a hT hf; obtain ⟨ao6, cp6, ao7, cp7, F3, rfl, hr⟩ := hT
      replace hs : Sep wf (star F2 w2 wf) noR w6 F3 [.row 58 ty57 (.slice ao6 z1.1.length cp6) z1.1, .row 5 (tI .u8) (.slice ao7 z1.2.length cp7) z1.2, .ro ty55 (.slice ao5 ([(256, 0, false, [102], 20, (List.replicate (Int.toNat 256) (0 : Int))), (512, 0, false, [], 0, (List.replicate (Int.toNat 256) (0 : Int)))] : List (Int × Int × Bool × (List UInt8) × Int × (List Int))).length cp5) ([(256, 0, false, [102], 20, (List.replicate (Int.toNat 256) (0 : Int))), (512, 0, false, [], 0, (List.replicate (Int.toNat 256) (0 : Int)))] : List (Int × Int × Bool × (List UInt8) × Int × (List Int))), .ro ty60 (.slice (some ⟨w1.heap.size, 0, none⟩) ([([102], (List.replicate (Int.toNat 300) (0 : Int)))] : List ((List UInt8) × (List Int))).length ([([102], (List.replicate (Int.toNat 300) (0 : Int)))] : List ((List UInt8) × (List Int))).length) ([([102], (List.replicate (Int.toNat 300) (0 : Int)))] : List ((List UInt8) × (List Int)))] := hs.back [0, 1] [0, 1] rfl rfl rfl rfl hr
      clear hr
      exact fq_ok (d := 20) rfl hf (hs.ex fun _ h => h) ⟨ao6, cp6, ao7, cp7, _, hf.1, (hs.sel [0, 1] rfl rfl).rebase hX⟩
    · intro a wf hX hf hd
      obtain ⟨ao8, cp8, ao9, cp9, F_20, e_20, h_20⟩ : ∃ (ao8 : Option Addr) (cp8 : Nat) (ao9 : Option Addr) (cp9 : Nat) (F' : SH), a.tmps.getD 20 undef = .tuple #[.slice ao8 z1.1.length cp8, .slice ao9 z1.2.length cp9] ∧ Sep w2 F2 noR wf F' [.row 58 ty57 (.slice ao8 z1.1.length cp8) z1.1, .row 5 (tI .u8) (.slice ao9 z1.2.length cp9) z1.2] := hd 6 20 (by kernel_rfl) (by kernel_rfl)
      replace hf : Fr 87 [(20, .tuple #[.slice ao8 z1.1.length cp8, .slice ao9 z1.2.length cp9]), (1, .slice (some ⟨w1.heap.size, 0, none⟩) ([([102], (List.replicate (Int.toNat 300) (0 : Int)))] : List ((List UInt8) × (List Int))).length ([([102], (List.replicate (Int.toNat 300) (0 : Int)))] : List ((List UInt8) × (List Int))).length)] a := ⟨e_20, hf⟩; clear e_20
      clear hd
      have hs : Sep wf (star F2 w2 wf) noR wf (star F2 w2 wf) [.ro ty60 (.slice (some ⟨w1.heap.size, 0, none⟩) ([([102], (List.replicate (Int.toNat 300) (0 : Int)))] : List ((List UInt8) × (List Int))).length ([([102], (List.replicate (Int.toNat 300) (0 : Int)))] : List ((List UInt8) × (List Int))).length) ([([102], (List.replicate (Int.toNat 300) (0 : Int)))] : List ((List UInt8) × (List Int)))] := hs0.fstart hX [0] rfl rfl
      replace hs : Sep wf (star F2 w2 wf) noR wf (star F2 w2 wf) [.ro ty57 (.slice ao8 z1.1.length cp8) z1.1, .ro ty60 (.slice (some ⟨w1.heap.size, 0, none⟩) ([([102], (List.replicate (Int.toNat 300) (0 : Int)))] : List ((List UInt8) × (List Int))).length ([([102], (List.replicate (Int.toNat 300) (0 : Int)))] : List ((List UInt8) × (List Int))).length) ([([102], (List.replicate (Int.toNat 300) (0 : Int)))] : List ((List UInt8) × (List Int)))] := hs.addStar h_20 0 rfl rfl
      replace hs : Sep wf (star F2 w2 wf) noR wf (star F2 w2 wf) [.ro (tI .u8) (.slice ao9 z1.2.length cp9) z1.2, .ro ty57 (.slice ao8 z1.1.length cp8) z1.1, .ro ty60 (.slice (some ⟨w1.heap.size, 0, none⟩) ([([102], (List.replicate (Int.toNat 300) (0 : Int)))] : List ((List UInt8) × (List Int))).length ([([102], (List.replicate (Int.toNat 300) (0 : Int)))] : List ((List UInt8) × (List Int))).length) ([([102], (List.replicate (Int.toNat 300) (0 : Int)))] : List ((List UInt8) × (List Int)))] := hs.addStar h_20 1 rfl rfl
      clear h_20
      refine st tbOk 1 [13] (L' := [(13, .tuple #[.slice ao8 z1.1.length cp8, .slice ao9 z1.2.length cp9])]) hf (by kernel_rfl) ?_
      clear hf; clear a; intro a hf
      exact fq_ok (d := 13) rfl hf (hs.ex fun _ h => h) ⟨ao8, cp8, ao9, cp9, _, hf.1, (hs.sel [1, 0] rfl rfl).rebase hX⟩
    · intro a wf hX hf hd
      obtain ⟨ao10, cp10, ao11, cp11, F_13, e_13, h_13⟩ : ∃ (ao10 : Option Addr) (cp10 : Nat) (ao11 : Option Addr) (cp11 : Nat) (F' : SH), a.tmps.getD 13 undef = .tuple #[.slice ao10 z1.1.length cp10, .slice ao11 z1.2.length cp11] ∧ Sep w2 F2 noR wf F' [.ro ty57 (.slice ao10 z1.1.length cp10) z1.1, .ro (tI .u8) (.slice ao11 z1.2.length cp11) z1.2] := hd 7 13 (by kernel_rfl) (by kernel_rfl)
      replace hf : Fr 87 [(13, .tuple #[.slice ao10 z1.1.length cp10, .slice ao11 z1.2.length cp11]), (1, .slice (some ⟨w1.heap.size, 0, none⟩) ([([102], (List.replicate (Int.toNat 300) (0 : Int)))] : List ((List UInt8) × (List Int))).length ([([102], (List.replicate (Int.toNat 300) (0 : Int)))] : List ((List UInt8) × (List Int))).length)] a := ⟨e_13, hf⟩; clear e_13
      clear hd
      have hs : Sep wf (star F2 w2 wf) noR wf (star F2 w2 wf) [.ro ty60 (.slice (some ⟨w1.heap.size, 0, none⟩) ([([102], (List.replicate (Int.toNat 300) (0 : Int)))] : List ((List UInt8) × (List Int))).length ([([102], (List.replicate (Int.toNat 300) (0 : Int)))] : List ((List UInt8) × (List Int))).length) ([([102], (List.replicate (Int.toNat 300) (0 : Int)))] : List ((List UInt8) × (List Int)))] := hs0.fstart hX [0] rfl rfl
      replace hs : Sep wf (star F2 w2 wf) noR wf (star F2 w2 wf) [.ro ty57 (.slice ao10 z1.1.length cp10) z1.1, .ro ty60 (.slice (some ⟨w1.heap.size, 0, none⟩) ([([102], (List.replicate (Int.toNat 300) (0 : Int)))] : List ((List UInt8) × (List Int))).length ([([102], (List.replicate (Int.toNat 300) (0 : Int)))] : List ((List UInt8) × (List Int))).length) ([([102], (List.replicate (Int.toNat 300) (0 : Int)))] : List ((List UInt8) × (List Int)))] := hs.addStar h_13 0 rfl rfl
      replace hs : Sep wf (star F2 w2 wf) noR wf (star F2 w2 wf) [.ro (tI .u8) (.slice ao11 z1.2.length cp11) z1.2, .ro ty57 (.slice ao10 z1.1.length cp10) z1.1, .ro ty60 (.slice (some ⟨w1.heap.size, 0, none⟩) ([([102], (List.replicate (Int.toNat 300) (0 : Int)))] : List ((List UInt8) × (List Int))).length ([([102], (List.replicate (Int.toNat 300) (0 : Int)))] : List ((List UInt8) × (List Int))).length) ([([102], (List.replicate (Int.toNat 300) (0 : Int)))] : List ((List UInt8) × (List Int)))] := hs.addStar h_13 1 rfl rfl
      clear h_13
      refine st tbOk 1 [21] (L' := [(21, .slice ao10 z1.1.length cp10)]) hf (by kernel_rfl) ?_
      clear hf; clear a; intro a hf
      exact fq_ok (d := 21) rfl hf (hs.ex fun _ h => h) ⟨ao10, cp10, _, hf.1, (hs.sel [1] rfl rfl).rebase hX⟩
    · intro a wf hX hf hd
      obtain ⟨ao10, cp10, ao11, cp11, F_13, e_13, h_13⟩ : ∃ (ao10 : Option Addr) (cp10 : Nat) (ao11 : Option Addr) (cp11 : Nat) (F' : SH), a.tmps.getD 13 undef = .tuple #[.slice ao10 z1.1.length cp10, .slice ao11 z1.2.length cp11] ∧ Sep w2 F2 noR wf F' [.ro ty57 (.slice ao10 z1.1.length cp10) z1.1, .ro (tI .u8) (.slice ao11 z1.2.length cp11) z1.2] := hd 7 13 (by kernel_rfl) (by kernel_rfl)
      replace hf : Fr 87 [(13, .tuple #[.slice ao10 z1.1.length cp10, .slice ao11 z1.2.length cp11]), (1, .slice (some ⟨w1.heap.size, 0, none⟩) ([([102], (List.replicate (Int.toNat 300) (0 : Int)))] : List ((List UInt8) × (List Int))).length ([([102], (List.replicate (Int.toNat 300) (0 : Int)))] : List ((List UInt8) × (List Int))).length)] a := ⟨e_13, hf⟩; clear e_13
      clear hd
      have hs : Sep wf (star F2 w2 wf) noR wf (star F2 w2 wf) [.ro ty60 (.slice (some ⟨w1.heap.size, 0, none⟩) ([([102], (List.replicate (Int.toNat 300) (0 : Int)))] : List ((List UInt8) × (List Int))).length ([([102], (List.replicate (Int.toNat 300) (0 : Int)))] : List ((List UInt8) × (List Int))).length) ([([102], (List.replicate (Int.toNat 300) (0 : Int)))] : List ((List UInt8) × (List Int)))] := hs0.fstart hX [0] rfl rfl
      replace hs : Sep wf (star F2 w2 wf) noR wf (star F2 w2 wf) [.ro ty57 (.slice ao10 z1.1.length cp10) z1.1, .ro ty60 (.slice (some ⟨w1.heap.size, 0, none⟩) ([([102], (List.replicate (Int.toNat 300) (0 : Int)))] : List ((List UInt8) × (List Int))).length ([([102], (List.replicate (Int.toNat 300) (0 : Int)))] : List ((List UInt8) × (List Int))).length) ([([102], (List.replicate (Int.toNat 300) (0 : Int)))] : List ((List UInt8) × (List Int)))] := hs.addStar h_13 0 rfl rfl
      replace hs : Sep wf (star F2 w2 wf) noR wf (star F2 w2 wf) [.ro (tI .u8) (.slice ao11 z1.2.length cp11) z1.2, .ro ty57 (.slice ao10 z1.1.length cp10) z1.1, .ro ty60 (.slice (some ⟨w1.heap.size, 0, none⟩) ([([102], (List.replicate (Int.toNat 300) (0 : Int)))] : List ((List UInt8) × (List Int))).length ([([102], (List.replicate (Int.toNat 300) (0 : Int)))] : List ((List UInt8) × (List Int))).length) ([([102], (List.replicate (Int.toNat 300) (0 : Int)))] : List ((List UInt8) × (List Int)))] := hs.addStar h_13 1 rfl rfl
      clear h_13
      refine st tbOk 1 [22] (L' := [(22, .slice ao11 z1.2.length cp11)]) hf (by kernel_rfl) ?_
      clear hf; clear a; intro a hf
      exact fq_ok (d := 22) rfl hf (hs.ex fun _ h => h) ⟨ao11, cp11, _, hf.1, (hs.sel [0] rfl rfl).rebase hX⟩
    · intro a wf hX hf hd
      obtain ⟨ao12, cp12, F_21, e_21, h_21⟩ : ∃ (ao12 : Option Addr) (cp12 : Nat) (F' : SH), a.tmps.getD 21 undef = .slice ao12 z1.1.length cp12 ∧ Sep w2 F2 noR wf F' [.ro ty57 (.slice ao12 z1.1.length cp12) z1.1] := hd 8 21 (by kernel_rfl) (by kernel_rfl)
      replace hf : Fr 87 [(21, .slice ao12 z1.1.length cp12), (1, .slice (some ⟨w1.heap.size, 0, none⟩) ([([102], (List.replicate (Int.toNat 300) (0 : Int)))] : List ((List UInt8) × (List Int))).length ([([102], (List.replicate (Int.toNat 300) (0 : Int)))] : List ((List UInt8) × (List Int))).length)] a := ⟨e_21, hf⟩; clear e_21
      clear hd
      have hs : Sep wf (star F2 w2 wf) noR wf (star F2 w2 wf) [.ro ty60 (.slice (some ⟨w1.heap.size, 0, none⟩) ([([102], (List.replicate (Int.toNat 300) (0 : Int)))] : List ((List UInt8) × (List Int))).length ([([102], (List.replicate (Int.toNat 300) (0 : Int)))] : List ((List UInt8) × (List Int))).length) ([([102], (List.replicate (Int.toNat 300) (0 : Int)))] : List ((List UInt8) × (List Int)))] := hs0.fstart hX [0] rfl rfl
      replace hs : Sep wf (star F2 w2 wf) noR wf (star F2 w2 wf) [.ro ty57 (.slice ao12 z1.1.length cp12) z1.1, .ro ty60 (.slice (some ⟨w1.heap.size, 0, none⟩) ([([102], (List.replicate (Int.toNat 300) (0 : Int)))] : List ((List UInt8) × (List Int))).length ([([102], (List.replicate (Int.toNat 300) (0 : Int)))] : List ((List UInt8) × (List Int))).length) ([([102], (List.replicate (Int.toNat 300) (0 : Int)))] : List ((List UInt8) × (List Int)))] := hs.addStar h_21 0 rfl rfl
      clear h_21
      refine st tbOk 1 [2] (L' := [(2, .slice ao12 z1.1.length cp12)]) hf (by kernel_rfl) ?_
      clear hf; clear a; intro a hf
      exact fq_ok (d := 2) rfl hf (hs.ex fun _ h => h) ⟨ao12, cp12, _, hf.1, (hs.sel [0] rfl rfl).rebase hX⟩
    · intro a wf hX hf hd
      obtain ⟨ao13, cp13, F_22, e_22, h_22⟩ : ∃ (ao13 : Option Addr) (cp13 : Nat) (F' : SH), a.tmps.getD 22 undef = .slice ao13 z1.2.length cp13 ∧ Sep w2 F2 noR wf F' [.ro (tI .u8) (.slice ao13 z1.2.length cp13) z1.2] := hd 9 22 (by kernel_rfl) (by kernel_rfl)
      replace hf : Fr 87 [(22, .slice ao13 z1.2.length cp13), (1, .slice (some ⟨w1.heap.size, 0, none⟩) ([([102], (List.replicate (Int.toNat 300) (0 : Int)))] : List ((List UInt8) × (List Int))).length ([([102], (List.replicate (Int.toNat 300) (0 : Int)))] : List ((List UInt8) × (List Int))).length)] a := ⟨e_22, hf⟩; clear e_22
      clear hd
      have hs : Sep wf (star F2 w2 wf) noR wf (star F2 w2 wf) [.ro ty60 (.slice (some ⟨w1.heap.size, 0, none⟩) ([([102], (List.replicate (Int.toNat 300) (0 : Int)))] : List ((List UInt8) × (List Int))).length ([([102], (List.replicate (Int.toNat 300) (0 : Int)))] : List ((List UInt8) × (List Int))).length) ([([102], (List.replicate (Int.toNat 300) (0 : Int)))] : List ((List UInt8) × (List Int)))] := hs0.fstart hX [0] rfl rfl
      replace hs : Sep wf (star F2 w2 wf) noR wf (star F2 w2 wf) [.ro (tI .u8) (.slice ao13 z1.2.length cp13) z1.2, .ro ty60 (.slice (some ⟨w1.heap.size, 0, none⟩) ([([102], (List.replicate (Int.toNat 300) (0 : Int)))] : List ((List UInt8) × (List Int))).length ([([102], (List.replicate (Int.toNat 300) (0 : Int)))] : List ((List UInt8) × (List Int))).length) ([([102], (List.replicate (Int.toNat 300) (0 : Int)))] : List ((List UInt8) × (List Int)))] := hs.addStar h_22 0 rfl rfl
      clear h_22
      refine st tbOk 1 [3] (L' := [(3, .slice ao13 z1.2.length cp13)]) hf (by kernel_rfl) ?_
      clear hf; clear a; intro a hf
      exact fq_ok (d := 3) rfl hf (hs.ex fun _ h => h) ⟨ao13, cp13, _, hf.1, (hs.sel [0] rfl rfl).rebase hX⟩
  · clear hf hs; clear a; intro a w7 hx hf hd
    have hs : Sep w F R w7 (star F2 w2 w7) [.ro ty60 (.slice (some ⟨w1.heap.size, 0, none⟩) ([([102], (List.replicate (Int.toNat 300) (0 : Int)))] : List ((List UInt8) × (List Int))).length ([([102], (List.replicate (Int.toNat 300) (0 : Int)))] : List ((List UInt8) × (List Int))).length) ([([102], (List.replicate (Int.toNat 300) (0 : Int)))] : List ((List UInt8) × (List Int)))] := hs0.starX hx
    obtain ⟨ao14, cp14, F_2, e_2, h_2⟩ : ∃ (ao14 : Option Addr) (cp14 : Nat) (F' : SH), a.tmps.getD 2 undef = .slice ao14 z1.1.length cp14 ∧ Sep w2 F2 noR w7 F' [.ro ty57 (.slice ao14 z1.1.length cp14) z1.1] := hd 10 2 (by kernel_rfl) (by kernel_rfl)
    obtain ⟨ao15, cp15, F_3, e_3, h_3⟩ : ∃ (ao15 : Option Addr) (cp15 : Nat) (F' : SH), a.tmps.getD 3 undef = .slice ao15 z1.2.length cp15 ∧ Sep w2 F2 noR w7 F' [.ro (tI .u8) (.slice ao15 z1.2.length cp15) z1.2] := hd 11 3 (by kernel_rfl) (by kernel_rfl)
    clear hd hx
    replace hs : Sep w F R w7 (star F2 w2 w7) [.ro ty57 (.slice ao14 z1.1.length cp14) z1.1, .ro ty60 (.slice (some ⟨w1.heap.size, 0, none⟩) ([([102], (List.replicate (Int.toNat 300) (0 : Int)))] : List ((List UInt8) × (List Int))).length ([([102], (List.replicate (Int.toNat 300) (0 : Int)))] : List ((List UInt8) × (List Int))).length) ([([102], (List.replicate (Int.toNat 300) (0 : Int)))] : List ((List UInt8) × (List Int)))] := hs.addStar h_2 0 rfl rfl
    replace hs : Sep w F R w7 (star F2 w2 w7) [.ro (tI .u8) (.slice ao15 z1.2.length cp15) z1.2, .ro ty57 (.slice ao14 z1.1.length cp14) z1.1, .ro ty60 (.slice (some ⟨w1.heap.size, 0, none⟩) ([([102], (List.replicate (Int.toNat 300) (0 : Int)))] : List ((List UInt8) × (List Int))).length ([([102], (List.replicate (Int.toNat 300) (0 : Int)))] : List ((List UInt8) × (List Int))).length) ([([102], (List.replicate (Int.toNat 300) (0 : Int)))] : List ((List UInt8) × (List Int)))] := hs.addStar h_3 0 rfl rfl
    clear h_2
    clear h_3
    clear hs0
    replace hf : Fr 87 [(2, .slice ao14 z1.1.length cp14), (3, .slice ao15 z1.2.length cp15), (1, .slice (some ⟨w1.heap.size, 0, none⟩) ([([102], (List.replicate (Int.toNat 300) (0 : Int)))] : List ((List UInt8) × (List Int))).length ([([102], (List.replicate (Int.toNat 300) (0 : Int)))] : List ((List UInt8) × (List Int))).length)] a := ⟨e_2, e_3, hf⟩
    clear e_2 e_3
    replace hf := Fr.keep (ks := [1, 2, 3]) (L' := [(1, .slice (some ⟨w1.heap.size, 0, none⟩) ([([102], (List.replicate (Int.toNat 300) (0 : Int)))] : List ((List UInt8) × (List Int))).length ([([102], (List.replicate (Int.toNat 300) (0 : Int)))] : List ((List UInt8) × (List Int))).length), (2, .slice ao14 z1.1.length cp14), (3, .slice ao15 z1.2.length cp15)]) hf (by kernel_rfl)
    refine wpList_nil ?_
    refine sq ?_
    refine sq ?_
    refine ctj (fun (s1 : Bool) (a : Act) (w' : World) => ∃ (F4 : SH), Sep w F R w' F4 [.ro (tI .u8) (.slice ao15 z1.2.length cp15) z1.2, .ro ty57 (.slice ao14 z1.1.length cp14) z1.1, .ro ty60 (.slice (some ⟨w1.heap.size, 0, none⟩) ([([102], (List.replicate (Int.toNat 300) (0 : Int)))] : List ((List UInt8) × (List Int))).length ([([102], (List.replicate (Int.toNat 300) (0 : Int)))] : List ((List UInt8) × (List Int))).length) ([([102], (List.replicate (Int.toNat 300) (0 : Int)))] : List ((List UInt8) × (List Int)))] ∧ Fr 87 [(1, .slice (some ⟨w1.heap.size, 0, none⟩) ([([102], (List.replicate (Int.toNat 300) (0 : Int)))] : List ((List UInt8) × (List Int))).length ([([102], (List.replicate (Int.toNat 300) (0 : Int)))] : List ((List UInt8) × (List Int))).length), (2, .slice ao14 z1.1.length cp14), (3, .slice ao15 z1.2.length cp15), (30, .bool s1)] a) hS ?_ ?_
    · clear hS hf hs; clear a; intro s1 a w8 hM hS
      obtain ⟨F4, hs, hf⟩ := hM
      refine cnd (b := s1) hf (by kernel_rfl) (fun hb2 => ?_) (fun hb2 => ?_)
      · replace hS := of_t hb2 hS
        refine sq ?_
        refine reg ?_
        refine st tbOk 1 [0] (L' := [(0, .bool false)]) hf (by kernel_rfl) ?_
        clear hf; clear a; intro a hf
        refine wpList_nil ?_
        have hr := Option.some.inj hS; subst hr
        refine wp_ret ?_
        exact ret_ok hf (vs := [.bool false]) (by kernel_rfl) ⟨_, rfl, hs.sel [] rfl rfl⟩
      · replace hS := of_f hb2 hS
        refine wp_skip ?_
        refine sq ?_
        refine reg ?_
        refine st tbOk 3 [1, 2, 3, 32, 33, 34] (L' := [(1, .slice (some ⟨w1.heap.size, 0, none⟩) ([([102], (List.replicate (Int.toNat 300) (0 : Int)))] : List ((List UInt8) × (List Int))).length ([([102], (List.replicate (Int.toNat 300) (0 : Int)))] : List ((List UInt8) × (List Int))).length), (2, .slice ao14 z1.1.length cp14), (3, .slice ao15 z1.2.length cp15), (32, .slice ao14 z1.1.length cp14), (33, .slice ao15 z1.2.length cp15), (34, .slice (some ⟨w1.heap.size, 0, none⟩) ([([102], (List.replicate (Int.toNat 300) (0 : Int)))] : List ((List UInt8) × (List Int))).length ([([102], (List.replicate (Int.toNat 300) (0 : Int)))] : List ((List UInt8) × (List Int))).length)]) hf (by kernel_rfl) ?_
        clear hf; clear a; intro a hf
        have hT := of_bd hS; clear hS; obtain ⟨z2, hz2, hS⟩ := hT
        refine clV ent23 (vs := [.slice ao14 z1.1.length cp14, .slice ao15 z1.2.length cp15, .slice (some ⟨w1.heap.size, 0, none⟩) ([([102], (List.replicate (Int.toNat 300) (0 : Int)))] : List ((List UInt8) × (List Int))).length ([([102], (List.replicate (Int.toNat 300) (0 : Int)))] : List ((List UInt8) × (List Int))).length]) (caps := []) hf (by kernel_rfl) (by kernel_rfl) (by kernel_rfl) (by kernel_rfl) (dedup_Join_ok (p_l := z1.1) (kept := z1.2) (files := ([([102], (List.replicate (Int.toNat 300) (0 : Int)))] : List ((List UInt8) × (List Int)))) (hs.enter [1, 0, 2] rfl rfl) hz2) ?_
        clear hf; clear a; intro v w9 a hT hf; obtain ⟨ao16, cp16, F5, rfl, hr⟩ := hT
        replace hs : Sep w F R w9 F5 [.row 56 ty55 (.slice ao16 z2.1.length cp16) z2.1, .ro (tI .u8) (.slice ao15 z1.2.length cp15) z1.2, .ro ty57 (.slice ao14 z1.1.length cp14) z1.1, .ro ty60 (.slice (some ⟨w1.heap.size, 0, none⟩) ([([102], (List.replicate (Int.toNat 300) (0 : Int)))] : List ((List UInt8) × (List Int))).length ([([102], (List.replicate (Int.toNat 300) (0 : Int)))] : List ((List UInt8) × (List Int))).length) ([([102], (List.replicate (Int.toNat 300) (0 : Int)))] : List ((List UInt8) × (List Int)))] := hs.back [1, 0, 2] [0, 1, 2] rfl rfl rfl rfl hr
        clear hr
        replace hf := Fr.keep (ks := [1, 2, 3, 35]) (L' := [(1, .slice (some ⟨w1.heap.size, 0, none⟩) ([([102], (List.replicate (Int.toNat 300) (0 : Int)))] : List ((List UInt8) × (List Int))).length ([([102], (List.replicate (Int.toNat 300) (0 : Int)))] : List ((List UInt8) × (List Int))).length), (2, .slice ao14 z1.1.length cp14), (3, .slice ao15 z1.2.length cp15), (35, .tuple #[.slice ao16 z2.1.length cp16, .int .i64 z2.2])]) hf (by kernel_rfl)
        refine st tbOk 5 [1, 2, 3, 4, 5] (L' := [(1, .slice (some ⟨w1.heap.size, 0, none⟩) ([([102], (List.replicate (Int.toNat 300) (0 : Int)))] : List ((List UInt8) × (List Int))).length ([([102], (List.replicate (Int.toNat 300) (0 : Int)))] : List ((List UInt8) × (List Int))).length), (2, .slice ao14 z1.1.length cp14), (3, .slice ao15 z1.2.length cp15), (4, .slice ao16 z2.1.length cp16), (5, .int .i64 z2.2)]) hf (by kernel_rfl) ?_
        clear hf; clear a; intro a hf
        refine wpList_nil ?_
        refine sq ?_
        refine reg ?_
        refine st tbOk 2 [1, 2, 4, 5, 39, 40] (L' := [(1, .slice (some ⟨w1.heap.size, 0, none⟩) ([([102], (List.replicate (Int.toNat 300) (0 : Int)))] : List ((List UInt8) × (List Int))).length ([([102], (List.replicate (Int.toNat 300) (0 : Int)))] : List ((List UInt8) × (List Int))).length), (2, .slice ao14 z1.1.length cp14), (4, .slice ao16 z2.1.length cp16), (5, .int .i64 z2.2), (39, .slice ao14 z1.1.length cp14), (40, .slice ao15 z1.2.length cp15)]) hf (by kernel_rfl) ?_
        clear hf; clear a; intro a hf
        have hT := of_bd hS; clear hS; obtain ⟨z3, hz3, hS⟩ := hT
        replace hs : Sep w F R w9 F5 [.ro ty60 (.slice none 0 0) ([] : List ((List UInt8) × (List Int))), .row 56 ty55 (.slice ao16 z2.1.length cp16) z2.1, .ro (tI .u8) (.slice ao15 z1.2.length cp15) z1.2, .ro ty57 (.slice ao14 z1.1.length cp14) z1.1, .ro ty60 (.slice (some ⟨w1.heap.size, 0, none⟩) ([([102], (List.replicate (Int.toNat 300) (0 : Int)))] : List ((List UInt8) × (List Int))).length ([([102], (List.replicate (Int.toNat 300) (0 : Int)))] : List ((List UInt8) × (List Int))).length) ([([102], (List.replicate (Int.toNat 300) (0 : Int)))] : List ((List UInt8) × (List Int)))] := hs.addRo (RO.nil _ _)
        refine clV ent23 (vs := [.slice ao14 z1.1.length cp14, .slice ao15 z1.2.length cp15, .slice none 0 0]) (caps := []) hf (by kernel_rfl) (by kernel_rfl) (by kernel_rfl) (by kernel_rfl) (dedup_Join_ok (p_l := z1.1) (kept := z1.2) (files := ([] : List ((List UInt8) × (List Int)))) (hs.enter [3, 2, 0] rfl rfl) hz3) ?_
        clear hf; clear a; intro v w10 a hT hf; obtain ⟨ao17, cp17, F6, rfl, hr⟩ := hT
        replace hs : Sep w F R w10 F6 [.row 56 ty55 (.slice ao17 z3.1.length cp17) z3.1, .ro ty60 (.slice none 0 0) ([] : List ((List UInt8) × (List Int))), .row 56 ty55 (.slice ao16 z2.1.length cp16) z2.1, .ro (tI .u8) (.slice ao15 z1.2.length cp15) z1.2, .ro ty57 (.slice ao14 z1.1.length cp14) z1.1, .ro ty60 (.slice (some ⟨w1.heap.size, 0, none⟩) ([([102], (List.replicate (Int.toNat 300) (0 : Int)))] : List ((List UInt8) × (List Int))).length ([([102], (List.replicate (Int.toNat 300) (0 : Int)))] : List ((List UInt8) × (List Int))).length) ([([102], (List.replicate (Int.toNat 300) (0 : Int)))] : List ((List UInt8) × (List Int)))] := hs.back [3, 2, 0] [0, 1, 2, 3, 4] rfl rfl rfl rfl hr
        clear hr
        replace hs : Sep w F R w10 F6 [.row 56 ty55 (.slice ao17 z3.1.length cp17) z3.1, .row 56 ty55 (.slice ao16 z2.1.length cp16) z2.1, .ro ty57 (.slice ao14 z1.1.length cp14) z1.1, .ro ty60 (.slice (some ⟨w1.heap.size, 0, none⟩) ([([102], (List.replicate (Int.toNat 300) (0 : Int)))] : List ((List UInt8) × (List Int))).length ([([102], (List.replicate (Int.toNat 300) (0 : Int)))] : List ((List UInt8) × (List Int))).length) ([([102], (List.replicate (Int.toNat 300) (0 : Int)))] : List ((List UInt8) × (List Int)))] := hs.sel [0, 2, 4, 5] rfl rfl
        replace hf := Fr.keep (ks := [1, 2, 4, 5, 41]) (L' := [(1, .slice (some ⟨w1.heap.size, 0, none⟩) ([([102], (List.replicate (Int.toNat 300) (0 : Int)))] : List ((List UInt8) × (List Int))).length ([([102], (List.replicate (Int.toNat 300) (0 : Int)))] : List ((List UInt8) × (List Int))).length), (2, .slice ao14 z1.1.length cp14), (4, .slice ao16 z2.1.length cp16), (5, .int .i64 z2.2), (41, .tuple #[.slice ao17 z3.1.length cp17, .int .i64 z3.2])]) hf (by kernel_rfl)
        refine st tbOk 5 [1, 2, 4, 5, 7] (L' := [(1, .slice (some ⟨w1.heap.size, 0, none⟩) ([([102], (List.replicate (Int.toNat 300) (0 : Int)))] : List ((List UInt8) × (List Int))).length ([([102], (List.replicate (Int.toNat 300) (0 : Int)))] : List ((List UInt8) × (List Int))).length), (2, .slice ao14 z1.1.length cp14), (4, .slice ao16 z2.1.length cp16), (5, .int .i64 z2.2), (7, .int .i64 z3.2)]) hf (by kernel_rfl) ?_
        clear hf; clear a; intro a hf
        refine wpList_nil ?_
        refine sq ?_
        refine reg ?_
        refine st tbOk 1 [2, 4, 5, 7, 45] (L' := [(2, .slice ao14 z1.1.length cp14), (4, .slice ao16 z2.1.length cp16), (5, .int .i64 z2.2), (7, .int .i64 z3.2), (45, .slice (some ⟨w1.heap.size, 0, none⟩) ([([102], (List.replicate (Int.toNat 300) (0 : Int)))] : List ((List UInt8) × (List Int))).length ([([102], (List.replicate (Int.toNat 300) (0 : Int)))] : List ((List UInt8) × (List Int))).length)]) hf (by kernel_rfl) ?_
        clear hf; clear a; intro a hf
        have hT := of_bd hS; clear hS; obtain ⟨z4, hz4, hS⟩ := hT
        refine clV ent15 (vs := [strV [102], .int .u64 44, .slice (some ⟨w1.heap.size, 0, none⟩) ([([102], (List.replicate (Int.toNat 300) (0 : Int)))] : List ((List UInt8) × (List Int))).length ([([102], (List.replicate (Int.toNat 300) (0 : Int)))] : List ((List UInt8) × (List Int))).length]) (caps := []) hf (by kernel_rfl) (by kernel_rfl) (by kernel_rfl) (by kernel_rfl) (dedup_Origin_ok (file := [102]) (off := 44) (files := ([([102], (List.replicate (Int.toNat 300) (0 : Int)))] : List ((List UInt8) × (List Int)))) (hs.enter [3] rfl rfl) hz4) ?_
        clear hf; clear a; intro v w11 a hT hf; obtain ⟨ao18, cp18, F7, rfl, hr⟩ := hT
        replace hs : Sep w F R w11 F7 [.row 5 (tI .u8) (.slice ao18 z4.1.length cp18) z4.1, .row 56 ty55 (.slice ao17 z3.1.length cp17) z3.1, .row 56 ty55 (.slice ao16 z2.1.length cp16) z2.1, .ro ty57 (.slice ao14 z1.1.length cp14) z1.1, .ro ty60 (.slice (some ⟨w1.heap.size, 0, none⟩) ([([102], (List.replicate (Int.toNat 300) (0 : Int)))] : List ((List UInt8) × (List Int))).length ([([102], (List.replicate (Int.toNat 300) (0 : Int)))] : List ((List UInt8) × (List Int))).length) ([([102], (List.replicate (Int.toNat 300) (0 : Int)))] : List ((List UInt8) × (List Int)))] := hs.back [3] [0, 1, 2, 3] rfl rfl rfl rfl hr
        clear hr
        replace hs : Sep w F R w11 F7 [.row 5 (tI .u8) (.slice ao18 z4.1.length cp18) z4.1, .row 56 ty55 (.slice ao16 z2.1.length cp16) z2.1, .ro ty57 (.slice ao14 z1.1.length cp14) z1.1] := hs.sel [0, 2, 3] rfl rfl
        replace hf := Fr.keep (ks := [2, 4, 5, 7, 46]) (L' := [(2, .slice ao14 z1.1.length cp14), (4, .slice ao16 z2.1.length cp16), (5, .int .i64 z2.2), (7, .int .i64 z3.2), (46, .tuple #[.slice ao18 z4.1.length cp18, .bool z4.2])]) hf (by kernel_rfl)
        refine st tbOk 5 [2, 4, 5, 7, 8, 9] (L' := [(2, .slice ao14 z1.1.length cp14), (4, .slice ao16 z2.1.length cp16), (5, .int .i64 z2.2), (7, .int .i64 z3.2), (8, .slice ao18 z4.1.length cp18), (9, .bool z4.2)]) hf (by kernel_rfl) ?_
        clear hf; clear a; intro a hf
        refine wpList_nil ?_
        refine sq ?_
        refine ctj (fun (s2 : Bool) (a : Act) (w' : World) => ∃ (F8 : SH), Sep w F R w' F8 [] ∧ Fr 87 [(0, .bool s2)] a) hS ?_ ?_
        · clear hS hf hs; clear a; intro s2 a w15 hM hS
          obtain ⟨F8, hs, hf⟩ := hM
          have hr := Option.some.inj hS; subst hr
          refine wp_ret ?_
          exact ret_ok hf (vs := [.bool s2]) (by kernel_rfl) ⟨_, rfl, hs.sel [] rfl rfl⟩
        · clear hS; intro KK2 k2 hK2 hS
          refine reg ?_
          refine bsR tbOk u22 i5 rfl (t := (tI .u8)) (vs := [(0, .int .u8 97), (1, .int .u8 98), (2, .int .u8 99)]) (cells := #[.int .u8 97, .int .u8 98, .int .u8 99]) ([97, 98, 99] : List Int) hs.le hf (by kernel_rfl) (by kernel_rfl) (by kernel_rfl) rfl (by kernel_rfl) (reps_flat _) rfl ?_
          clear hf; clear a; intro w12 a ho hx hf
          replace hs : Sep w F R w12 F7 [.row 5 (tI .u8) (.slice (some ⟨w11.heap.size, 0, none⟩) ([97, 98, 99] : List Int).length ([97, 98, 99] : List Int).length) ([97, 98, 99] : List Int), .row 5 (tI .u8) (.slice ao18 z4.1.length cp18) z4.1, .row 56 ty55 (.slice ao16 z2.1.length cp16) z2.1, .ro ty57 (.slice ao14 z1.1.length cp14) z1.1] := hs.newRow ho hx
          clear ho hx
          replace hf := Fr.keep (ks := [2, 4, 5, 7, 8, 9, 49]) (L' := [(2, .slice ao14 z1.1.length cp14), (4, .slice ao16 z2.1.length cp16), (5, .int .i64 z2.2), (7, .int .i64 z3.2), (8, .slice ao18 z4.1.length cp18), (9, .bool z4.2), (49, .slice (some ⟨w11.heap.size, 0, none⟩) ([97, 98, 99] : List Int).length ([97, 98, 99] : List Int).length)]) hf (by kernel_rfl)
          refine cvB tbOk u22 u5 hs 0 rfl hf (by kernel_rfl) (by kernel_rfl) (by kernel_rfl) ?_
          clear hf hs; clear a; intro w13 a hs hf
          replace hs : Sep w F R w13 F7 [.srow 5 (.slice (some ⟨w11.heap.size, 0, none⟩) ([97, 98, 99] : List Int).length ([97, 98, 99] : List Int).length) ([97, 98, 99] : List Int), .row 5 (tI .u8) (.slice ao18 z4.1.length cp18) z4.1, .row 56 ty55 (.slice ao16 z2.1.length cp16) z2.1, .ro ty57 (.slice ao14 z1.1.length cp14) z1.1] := hs
          replace hf := Fr.keep (ks := [2, 4, 5, 7, 8, 9, 50]) (L' := [(2, .slice ao14 z1.1.length cp14), (4, .slice ao16 z2.1.length cp16), (5, .int .i64 z2.2), (7, .int .i64 z3.2), (8, .slice ao18 z4.1.length cp18), (9, .bool z4.2), (50, .slice (some ⟨w11.heap.size, 0, none⟩) ([97, 98, 99] : List Int).length ([97, 98, 99] : List Int).length)]) hf (by kernel_rfl)
          have hT := of_bd hS; clear hS; obtain ⟨z5, hz5, hS⟩ := hT
          refine clV ent17 (vs := [.slice (some ⟨w11.heap.size, 0, none⟩) ([97, 98, 99] : List Int).length ([97, 98, 99] : List Int).length]) (caps := []) hf (by kernel_rfl) (by kernel_rfl) (by kernel_rfl) (by kernel_rfl) (dedup_Sum_ok (b := ([97, 98, 99] : List Int)) (hs.lend [0] [] rfl rfl rfl rfl rfl) hz5) ?_
          clear hf; clear a; intro v w14 a hT hf; obtain ⟨F9, rfl, hr⟩ := hT
          replace hs : Sep w F R w14 F7 [.srow 5 (.slice (some ⟨w11.heap.size, 0, none⟩) ([97, 98, 99] : List Int).length ([97, 98, 99] : List Int).length) ([97, 98, 99] : List Int), .row 5 (tI .u8) (.slice ao18 z4.1.length cp18) z4.1, .row 56 ty55 (.slice ao16 z2.1.length cp16) z2.1, .ro ty57 (.slice ao14 z1.1.length cp14) z1.1] := hs.backL [0] [] [0, 1, 2, 3] rfl rfl rfl rfl rfl rfl hr trivial
          clear hr
          replace hs : Sep w F R w14 F7 [.row 5 (tI .u8) (.slice ao18 z4.1.length cp18) z4.1, .row 56 ty55 (.slice ao16 z2.1.length cp16) z2.1, .ro ty57 (.slice ao14 z1.1.length cp14) z1.1] := hs.sel [1, 2, 3] rfl rfl
          replace hf := Fr.keep (ks := [2, 4, 5, 7, 8, 9, 51]) (L' := [(2, .slice ao14 z1.1.length cp14), (4, .slice ao16 z2.1.length cp16), (5, .int .i64 z2.2), (7, .int .i64 z3.2), (8, .slice ao18 z4.1.length cp18), (9, .bool z4.2), (51, .int .u32 z5)]) hf (by kernel_rfl)
          refine st tbOk 2 [2, 4, 5, 7, 8, 9, 53] (L' := [(2, .slice ao14 z1.1.length cp14), (4, .slice ao16 z2.1.length cp16), (5, .int .i64 z2.2), (7, .int .i64 z3.2), (8, .slice ao18 z4.1.length cp18), (9, .bool z4.2), (53, .bool (z5 == 38600999))]) hf (by kernel_rfl) ?_
          clear hf; clear a; intro a hf
          rcases Bool.eq_false_or_eq_true (z5 == 38600999) with hb3 | hb3
          · replace hS := of_t hb3 hS
            replace hf := Fr.cast (L' := [(2, .slice ao14 z1.1.length cp14), (4, .slice ao16 z2.1.length cp16), (5, .int .i64 z2.2), (7, .int .i64 z3.2), (8, .slice ao18 z4.1.length cp18), (9, .bool z4.2), (53, .bool true)]) hf (by rw [hb3])
            refine st tbOk 1 [2, 4, 5, 7, 8, 9, 53, 54] (L' := [(2, .slice ao14 z1.1.length cp14), (4, .slice ao16 z2.1.length cp16), (5, .int .i64 z2.2), (7, .int .i64 z3.2), (8, .slice ao18 z4.1.length cp18), (9, .bool z4.2), (53, .bool true), (54, .slice ao14 z1.1.length cp14)]) hf (by kernel_rfl) ?_
            clear hf; clear a; intro a hf
            have hT := of_gd hS; clear hS; obtain ⟨hc4, hS⟩ := hT
            refine ixR tbOk u36 i58 rfl rfl ((hs.ro 2 rfl).ra (LeH.refl _)) (k := .i64) (n := 0) hc4 hf (by kernel_rfl) (by kernel_rfl) (by kernel_rfl) (by kernel_rfl) ?_
            clear hf; clear a; intro pb1 po1 c1 a hp1 hr1 hf
            obtain rfl : c1 = [.int .u64 ((gt z1.1 0).1), .int .i64 ((gt z1.1 0).2.1), .bool ((gt z1.1 0).2.2.1), strV ((gt z1.1 0).2.2.2.1), .int .u64 ((gt z1.1 0).2.2.2.2.1), .bool ((gt z1.1 0).2.2.2.2.2.1), .int .u32 ((gt z1.1 0).2.2.2.2.2.2)] := hr1
            replace hs : Sep w F R w14 F7 [.cel pb1 po1 [.int .u64 ((gt z1.1 0).1), .int .i64 ((gt z1.1 0).2.1), .bool ((gt z1.1 0).2.2.1), strV ((gt z1.1 0).2.2.2.1), .int .u64 ((gt z1.1 0).2.2.2.2.1), .bool ((gt z1.1 0).2.2.2.2.2.1), .int .u32 ((gt z1.1 0).2.2.2.2.2.2)], .row 5 (tI .u8) (.slice ao18 z4.1.length cp18) z4.1, .row 56 ty55 (.slice ao16 z2.1.length cp16) z2.1, .ro ty57 (.slice ao14 z1.1.length cp14) z1.1] := hs.addCel hp1
            replace hf := Fr.keep (ks := [2, 4, 5, 7, 8, 9, 53, 55]) (L' := [(2, .slice ao14 z1.1.length cp14), (4, .slice ao16 z2.1.length cp16), (5, .int .i64 z2.2), (7, .int .i64 z3.2), (8, .slice ao18 z4.1.length cp18), (9, .bool z4.2), (53, .bool true), (55, .pointer (some ⟨pb1, po1, none⟩))]) hf (by kernel_rfl)
            refine st tbOk 1 [2, 4, 5, 7, 8, 9, 53, 56] (L' := [(2, .slice ao14 z1.1.length cp14), (4, .slice ao16 z2.1.length cp16), (5, .int .i64 z2.2), (7, .int .i64 z3.2), (8, .slice ao18 z4.1.length cp18), (9, .bool z4.2), (53, .bool true), (56, .pointer (some ⟨pb1, po1 + 5, none⟩))]) hf (by kernel_rfl) ?_
            clear hf; clear a; intro a hf
            refine ldC tbOk (T := 4) (hs.ccel 0 rfl) (LeH.refl _) 5 (.bool ((gt z1.1 0).2.2.2.2.2.1)) hf (by kernel_rfl) (by kernel_rfl) (by kernel_rfl) (by kernel_rfl) ?_
            clear hf; clear a; intro a hf
            replace hs : Sep w F R w14 F7 [.row 5 (tI .u8) (.slice ao18 z4.1.length cp18) z4.1, .row 56 ty55 (.slice ao16 z2.1.length cp16) z2.1, .ro ty57 (.slice ao14 z1.1.length cp14) z1.1] := hs.sel [1, 2, 3] rfl rfl
            replace hf := Fr.keep (ks := [2, 4, 5, 7, 8, 9, 53, 57]) (L' := [(2, .slice ao14 z1.1.length cp14), (4, .slice ao16 z2.1.length cp16), (5, .int .i64 z2.2), (7, .int .i64 z3.2), (8, .slice ao18 z4.1.length cp18), (9, .bool z4.2), (53, .bool true), (57, .bool ((gt z1.1 0).2.2.2.2.2.1))]) hf (by kernel_rfl)
            refine st tbOk 3 [2, 4, 5, 7, 8, 9, 60] (L' := [(2, .slice ao14 z1.1.length cp14), (4, .slice ao16 z2.1.length cp16), (5, .int .i64 z2.2), (7, .int .i64 z3.2), (8, .slice ao18 z4.1.length cp18), (9, .bool z4.2), (60, .bool (!((gt z1.1 0).2.2.2.2.2.1)))]) hf (by kernel_rfl) ?_
            clear hf; clear a; intro a hf
            rcases Bool.eq_false_or_eq_true (!((gt z1.1 0).2.2.2.2.2.1)) with hb4 | hb4
            · replace hS := of_t hb4 hS
              replace hf := Fr.cast (L' := [(2, .slice ao14 z1.1.length cp14), (4, .slice ao16 z2.1.length cp16), (5, .int .i64 z2.2), (7, .int .i64 z3.2), (8, .slice ao18 z4.1.length cp18), (9, .bool z4.2), (60, .bool true)]) hf (by rw [hb4])
              refine st tbOk 1 [4, 5, 7, 8, 9, 60, 61] (L' := [(4, .slice ao16 z2.1.length cp16), (5, .int .i64 z2.2), (7, .int .i64 z3.2), (8, .slice ao18 z4.1.length cp18), (9, .bool z4.2), (60, .bool true), (61, .slice ao14 z1.1.length cp14)]) hf (by kernel_rfl) ?_
              clear hf; clear a; intro a hf
              have hT := of_gd hS; clear hS; obtain ⟨hc5, hS⟩ := hT
              refine ixR tbOk u36 i58 rfl rfl ((hs.ro 2 rfl).ra (LeH.refl _)) (k := .i64) (n := 1) hc5 hf (by kernel_rfl) (by kernel_rfl) (by kernel_rfl) (by kernel_rfl) ?_
              clear hf; clear a; intro pb2 po2 c2 a hp2 hr2 hf
              obtain rfl : c2 = [.int .u64 ((gt z1.1 1).1), .int .i64 ((gt z1.1 1).2.1), .bool ((gt z1.1 1).2.2.1), strV ((gt z1.1 1).2.2.2.1), .int .u64 ((gt z1.1 1).2.2.2.2.1), .bool ((gt z1.1 1).2.2.2.2.2.1), .int .u32 ((gt z1.1 1).2.2.2.2.2.2)] := hr2
              replace hs : Sep w F R w14 F7 [.cel pb2 po2 [.int .u64 ((gt z1.1 1).1), .int .i64 ((gt z1.1 1).2.1), .bool ((gt z1.1 1).2.2.1), strV ((gt z1.1 1).2.2.2.1), .int .u64 ((gt z1.1 1).2.2.2.2.1), .bool ((gt z1.1 1).2.2.2.2.2.1), .int .u32 ((gt z1.1 1).2.2.2.2.2.2)], .row 5 (tI .u8) (.slice ao18 z4.1.length cp18) z4.1, .row 56 ty55 (.slice ao16 z2.1.length cp16) z2.1, .ro ty57 (.slice ao14 z1.1.length cp14) z1.1] := hs.addCel hp2
              replace hs : Sep w F R w14 F7 [.cel pb2 po2 [.int .u64 ((gt z1.1 1).1), .int .i64 ((gt z1.1 1).2.1), .bool ((gt z1.1 1).2.2.1), strV ((gt z1.1 1).2.2.2.1), .int .u64 ((gt z1.1 1).2.2.2.2.1), .bool ((gt z1.1 1).2.2.2.2.2.1), .int .u32 ((gt z1.1 1).2.2.2.2.2.2)], .row 5 (tI .u8) (.slice ao18 z4.1.length cp18) z4.1, .row 56 ty55 (.slice ao16 z2.1.length cp16) z2.1] := hs.sel [0, 1, 2] rfl rfl
              replace hf := Fr.keep (ks := [4, 5, 7, 8, 9, 60, 62]) (L' := [(4, .slice ao16 z2.1.length cp16), (5, .int .i64 z2.2), (7, .int .i64 z3.2), (8, .slice ao18 z4.1.length cp18), (9, .bool z4.2), (60, .bool true), (62, .pointer (some ⟨pb2, po2, none⟩))]) hf (by kernel_rfl)
              refine st tbOk 1 [4, 5, 7, 8, 9, 60, 63] (L' := [(4, .slice ao16 z2.1.length cp16), (5, .int .i64 z2.2), (7, .int .i64 z3.2), (8, .slice ao18 z4.1.length cp18), (9, .bool z4.2), (60, .bool true), (63, .pointer (some ⟨pb2, po2 + 5, none⟩))]) hf (by kernel_rfl) ?_
              clear hf; clear a; intro a hf
              refine ldC tbOk (T := 4) (hs.ccel 0 rfl) (LeH.refl _) 5 (.bool ((gt z1.1 1).2.2.2.2.2.1)) hf (by kernel_rfl) (by kernel_rfl) (by kernel_rfl) (by kernel_rfl) ?_
              clear hf; clear a; intro a hf
              replace hs : Sep w F R w14 F7 [.row 5 (tI .u8) (.slice ao18 z4.1.length cp18) z4.1, .row 56 ty55 (.slice ao16 z2.1.length cp16) z2.1] := hs.sel [1, 2] rfl rfl
              replace hf := Fr.keep (ks := [4, 5, 7, 8, 9, 60, 64]) (L' := [(4, .slice ao16 z2.1.length cp16), (5, .int .i64 z2.2), (7, .int .i64 z3.2), (8, .slice ao18 z4.1.length cp18), (9, .bool z4.2), (60, .bool true), (64, .bool ((gt z1.1 1).2.2.2.2.2.1))]) hf (by kernel_rfl)
              refine st tbOk 2 [4, 5, 7, 8, 9, 66] (L' := [(4, .slice ao16 z2.1.length cp16), (5, .int .i64 z2.2), (7, .int .i64 z3.2), (8, .slice ao18 z4.1.length cp18), (9, .bool z4.2), (66, .bool ((gt z1.1 1).2.2.2.2.2.1))]) hf (by kernel_rfl) ?_
              clear hf; clear a; intro a hf
              rcases Bool.eq_false_or_eq_true ((gt z1.1 1).2.2.2.2.2.1) with hb5 | hb5
              · replace hS := of_t hb5 hS
                replace hf := Fr.cast (L' := [(4, .slice ao16 z2.1.length cp16), (5, .int .i64 z2.2), (7, .int .i64 z3.2), (8, .slice ao18 z4.1.length cp18), (9, .bool z4.2), (66, .bool true)]) hf (by rw [hb5])
                refine st tbOk 4 [4, 7, 8, 9, 70] (L' := [(4, .slice ao16 z2.1.length cp16), (7, .int .i64 z3.2), (8, .slice ao18 z4.1.length cp18), (9, .bool z4.2), (70, .bool (z2.2 == 0))]) hf (by kernel_rfl) ?_
                clear hf; clear a; intro a hf
                rcases Bool.eq_false_or_eq_true (z2.2 == 0) with hb6 | hb6
                · replace hS := of_t hb6 hS
                  replace hf := Fr.cast (L' := [(4, .slice ao16 z2.1.length cp16), (7, .int .i64 z3.2), (8, .slice ao18 z4.1.length cp18), (9, .bool z4.2), (70, .bool true)]) hf (by rw [hb6])
                  refine st tbOk 5 [7, 8, 9, 75] (L' := [(7, .int .i64 z3.2), (8, .slice ao18 z4.1.length cp18), (9, .bool z4.2), (75, .bool (((z2.1.length : Nat) : Int) == 2))]) hf (by kernel_rfl) ?_
                  clear hf; clear a; intro a hf
                  rcases Bool.eq_false_or_eq_true (((z2.1.length : Nat) : Int) == 2) with hb7 | hb7
                  · replace hS := of_t hb7 hS
                    replace hf := Fr.cast (L' := [(7, .int .i64 z3.2), (8, .slice ao18 z4.1.length cp18), (9, .bool z4.2), (75, .bool true)]) hf (by rw [hb7])
                    refine st tbOk 4 [8, 9, 79] (L' := [(8, .slice ao18 z4.1.length cp18), (9, .bool z4.2), (79, .bool (z3.2 == 61))]) hf (by kernel_rfl) ?_
                    clear hf; clear a; intro a hf
                    rcases Bool.eq_false_or_eq_true (z3.2 == 61) with hb8 | hb8
                    · replace hS := of_t hb8 hS
                      replace hf := Fr.cast (L' := [(8, .slice ao18 z4.1.length cp18), (9, .bool z4.2), (79, .bool true)]) hf (by rw [hb8])
                      refine st tbOk 3 [8, 82] (L' := [(8, .slice ao18 z4.1.length cp18), (82, .bool z4.2)]) hf (by kernel_rfl) ?_
                      clear hf; clear a; intro a hf
                      rcases Bool.eq_false_or_eq_true (z4.2) with hb9 | hb9
                      · replace hS := of_t hb9 hS
                        replace hf := Fr.cast (L' := [(8, .slice ao18 z4.1.length cp18), (82, .bool true)]) hf (by rw [hb9])
                        refine st tbOk 5 [0] (L' := [(0, .bool (((z4.1.length : Nat) : Int) == 256))]) hf (by kernel_rfl) ?_
                        clear hf; clear a; intro a hf
                        refine wpList_nil ?_
                        exact hK2 (((z4.1.length : Nat) : Int) == 256) _ _ ⟨_, hs.sel [] rfl rfl, hf.keep (ks := [0]) (by kernel_rfl)⟩ hS
                      · replace hS := of_f hb9 hS
                        replace hf := Fr.cast (L' := [(8, .slice ao18 z4.1.length cp18), (82, .bool false)]) hf (by rw [hb9])
                        refine st tbOk 5 [0] (L' := [(0, .bool false)]) hf (by kernel_rfl) ?_
                        clear hf; clear a; intro a hf
                        refine wpList_nil ?_
                        exact hK2 false _ _ ⟨_, hs.sel [] rfl rfl, hf.keep (ks := [0]) (by kernel_rfl)⟩ hS
                    · replace hS := of_f hb8 hS
                      replace hf := Fr.cast (L' := [(8, .slice ao18 z4.1.length cp18), (9, .bool z4.2), (79, .bool false)]) hf (by rw [hb8])
                      refine st tbOk 8 [0] (L' := [(0, .bool false)]) hf (by kernel_rfl) ?_
                      clear hf; clear a; intro a hf
                      refine wpList_nil ?_
                      exact hK2 false _ _ ⟨_, hs.sel [] rfl rfl, hf.keep (ks := [0]) (by kernel_rfl)⟩ hS
                  · replace hS := of_f hb7 hS
                    replace hf := Fr.cast (L' := [(7, .int .i64 z3.2), (8, .slice ao18 z4.1.length cp18), (9, .bool z4.2), (75, .bool false)]) hf (by rw [hb7])
                    refine st tbOk 12 [0] (L' := [(0, .bool false)]) hf (by kernel_rfl) ?_
                    clear hf; clear a; intro a hf
                    refine wpList_nil ?_
                    exact hK2 false _ _ ⟨_, hs.sel [] rfl rfl, hf.keep (ks := [0]) (by kernel_rfl)⟩ hS
                · replace hS := of_f hb6 hS
                  replace hf := Fr.cast (L' := [(4, .slice ao16 z2.1.length cp16), (7, .int .i64 z3.2), (8, .slice ao18 z4.1.length cp18), (9, .bool z4.2), (70, .bool false)]) hf (by rw [hb6])
                  refine st tbOk 17 [0] (L' := [(0, .bool false)]) hf (by kernel_rfl) ?_
                  clear hf; clear a; intro a hf
                  refine wpList_nil ?_
                  exact hK2 false _ _ ⟨_, hs.sel [] rfl rfl, hf.keep (ks := [0]) (by kernel_rfl)⟩ hS
              · replace hS := of_f hb5 hS
                replace hf := Fr.cast (L' := [(4, .slice ao16 z2.1.length cp16), (5, .int .i64 z2.2), (7, .int .i64 z3.2), (8, .slice ao18 z4.1.length cp18), (9, .bool z4.2), (66, .bool false)]) hf (by rw [hb5])
                refine st tbOk 21 [0] (L' := [(0, .bool false)]) hf (by kernel_rfl) ?_
                clear hf; clear a; intro a hf
                refine wpList_nil ?_
                exact hK2 false _ _ ⟨_, hs.sel [] rfl rfl, hf.keep (ks := [0]) (by kernel_rfl)⟩ hS
            · replace hS := of_f hb4 hS
              replace hf := Fr.cast (L' := [(2, .slice ao14 z1.1.length cp14), (4, .slice ao16 z2.1.length cp16), (5, .int .i64 z2.2), (7, .int .i64 z3.2), (8, .slice ao18 z4.1.length cp18), (9, .bool z4.2), (60, .bool false)]) hf (by rw [hb4])
              refine st tbOk 27 [0] (L' := [(0, .bool false)]) hf (by kernel_rfl) ?_
              clear hf; clear a; intro a hf
              refine wpList_nil ?_
              exact hK2 false _ _ ⟨_, hs.sel [] rfl rfl, hf.keep (ks := [0]) (by kernel_rfl)⟩ hS
          · replace hS := of_f hb3 hS
            replace hf := Fr.cast (L' := [(2, .slice ao14 z1.1.length cp14), (4, .slice ao16 z2.1.length cp16), (5, .int .i64 z2.2), (7, .int .i64 z3.2), (8, .slice ao18 z4.1.length cp18), (9, .bool z4.2), (53, .bool false)]) hf (by rw [hb3])
            refine st tbOk 34 [0] (L' := [(0, .bool false)]) hf (by kernel_rfl) ?_
            clear hf; clear a; intro a hf
            refine wpList_nil ?_
            exact hK2 false _ _ ⟨_, hs.sel [] rfl rfl, hf.keep (ks := [0]) (by kernel_rfl)⟩ hS
    · clear hS; intro KK1 k1 hK1 hS
      refine reg ?_
      refine st tbOk 4 [1, 2, 3, 26] (L' := [(1, .slice (some ⟨w1.heap.size, 0, none⟩) ([([102], (List.replicate (Int.toNat 300) (0 : Int)))] : List ((List UInt8) × (List Int))).length ([([102], (List.replicate (Int.toNat 300) (0 : Int)))] : List ((List UInt8) × (List Int))).length), (2, .slice ao14 z1.1.length cp14), (3, .slice ao15 z1.2.length cp15), (26, .bool (((z1.1.length : Nat) : Int) != 2))]) hf (by kernel_rfl) ?_
      clear hf; clear a; intro a hf
      rcases Bool.eq_false_or_eq_true (((z1.1.length : Nat) : Int) != 2) with hb1 | hb1
      · replace hS := of_t hb1 hS
        replace hf := Fr.cast (L' := [(1, .slice (some ⟨w1.heap.size, 0, none⟩) ([([102], (List.replicate (Int.toNat 300) (0 : Int)))] : List ((List UInt8) × (List Int))).length ([([102], (List.replicate (Int.toNat 300) (0 : Int)))] : List ((List UInt8) × (List Int))).length), (2, .slice ao14 z1.1.length cp14), (3, .slice ao15 z1.2.length cp15), (26, .bool true)]) hf (by rw [hb1])
        refine st tbOk 4 [1, 2, 3, 30] (L' := [(1, .slice (some ⟨w1.heap.size, 0, none⟩) ([([102], (List.replicate (Int.toNat 300) (0 : Int)))] : List ((List UInt8) × (List Int))).length ([([102], (List.replicate (Int.toNat 300) (0 : Int)))] : List ((List UInt8) × (List Int))).length), (2, .slice ao14 z1.1.length cp14), (3, .slice ao15 z1.2.length cp15), (30, .bool true)]) hf (by kernel_rfl) ?_
        clear hf; clear a; intro a hf
        refine wpList_nil ?_
        exact hK1 true _ _ ⟨_, hs.sel [0, 1, 2] rfl rfl, hf.keep (ks := [1, 2, 3, 30]) (by kernel_rfl)⟩ hS
      · replace hS := of_f hb1 hS
        replace hf := Fr.cast (L' := [(1, .slice (some ⟨w1.heap.size, 0, none⟩) ([([102], (List.replicate (Int.toNat 300) (0 : Int)))] : List ((List UInt8) × (List Int))).length ([([102], (List.replicate (Int.toNat 300) (0 : Int)))] : List ((List UInt8) × (List Int))).length), (2, .slice ao14 z1.1.length cp14), (3, .slice ao15 z1.2.length cp15), (26, .bool false)]) hf (by rw [hb1])
        refine st tbOk 4 [1, 2, 3, 30] (L' := [(1, .slice (some ⟨w1.heap.size, 0, none⟩) ([([102], (List.replicate (Int.toNat 300) (0 : Int)))] : List ((List UInt8) × (List Int))).length ([([102], (List.replicate (Int.toNat 300) (0 : Int)))] : List ((List UInt8) × (List Int))).length), (2, .slice ao14 z1.1.length cp14), (3, .slice ao15 z1.2.length cp15), (30, .bool (((z1.2.length : Nat) : Int) != 256))]) hf (by kernel_rfl) ?_
        clear hf; clear a; intro a hf
        refine wpList_nil ?_
        exact hK1 (((z1.2.length : Nat) : Int) != 256) _ _ ⟨_, hs.sel [0, 1, 2] rfl rfl, hf.keep (ks := [1, 2, 3, 30]) (by kernel_rfl)⟩ hS

end Dm
