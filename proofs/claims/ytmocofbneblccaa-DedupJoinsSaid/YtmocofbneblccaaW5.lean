/-
  The walks: a call of each Go function gives what its shallow form gives, where that form gives something; printed by a program of this repo. No condition.
-/
import Derived.Test.YtmocofbneblccaaWT
namespace Dm
open Go Go.RowKit Go.Proofs

set_option maxHeartbeats 4000000 in
theorem ref21_Origin_ok {w : World} {F : SH} {file : List UInt8} {off : Int} {files : List ((List UInt8) × (List Int))} {ao1 : Option Addr} {cp1 : Nat} (hs : Sep w F (blks [.ro ty60 (.slice ao1 files.length cp1) files]) w F [.ro ty60 (.slice ao1 files.length cp1) files]) {r : (List UInt8) × Bool} (hS : ref21_Origin file off files = some r) :
    Calls Try.prog 16 [strV file, .int .u64 off, .slice ao1 files.length cp1].toArray w (Gives (fun u w' => ∃ (F' : SH), u = .tuple #[strV r.1, .bool r.2] ∧ Sep w F (blks [.ro ty60 (.slice ao1 files.length cp1) files]) w' F' [])) := by
  generalize (blks [.ro ty60 (.slice ao1 files.length cp1) files]) = R at hs ⊢
  unfold ref21_Origin at hS
  refine fn_ok (vs := [strV file, .int .u64 off, .slice ao1 files.length cp1]) Try.func16 rfl 50 Try.ntmps16 (Nat.le_of_ble_eq_true rfl) ?_
  intro a hf
  replace hf := Fr.cast (L' := [(0, strV file), (1, .int .u64 off), (2, .slice ao1 files.length cp1)]) hf (by kernel_rfl)
  refine sq ?_
  refine reg ?_
  refine st tbOk 2 [0, 1, 2] (L' := [(0, strV file), (1, .int .u64 off), (2, .slice ao1 files.length cp1)]) hf (by kernel_rfl) ?_
  clear hf; clear a; intro a hf
  refine wpList_nil ?_
  refine sq ?_
  refine sq ?_
  refine reg ?_
  refine st tbOk 2 [0, 1, 2, 11] (L' := [(0, strV file), (1, .int .u64 off), (2, .slice ao1 files.length cp1), (11, .bool (file == []))]) hf (by kernel_rfl) ?_
  clear hf; clear a; intro a hf
  refine wpList_nil ?_
  refine cnd (b := file == []) hf (by kernel_rfl) (fun hb1 => ?_) (fun hb1 => ?_)
  · replace hS := of_t hb1 hS
    refine sq ?_
    refine reg ?_
    refine st tbOk 2 [6, 7] (L' := [(6, strV []), (7, .bool false)]) hf (by kernel_rfl) ?_
    clear hf; clear a; intro a hf
    refine wpList_nil ?_
    have hr := Option.some.inj hS; subst hr
    refine wp_ret ?_
    exact ret_ok hf (vs := [strV [], .bool false]) (by kernel_rfl) ⟨_, rfl, hs.sel [] rfl rfl⟩
  · replace hS := of_f hb1 hS
    refine wp_skip ?_
    refine sq ?_
    refine sq ?_
    refine reg ?_
    refine st tbOk 1 [0, 1, 2, 8] (L' := [(0, strV file), (1, .int .u64 off), (2, .slice ao1 files.length cp1), (8, .int .i64 0)]) hf (by kernel_rfl) ?_
    clear hf; clear a; intro a hf
    refine wpList_nil ?_
    refine ctj (fun (s1 : Unit) (a : Act) (w' : World) => ∃ (F1 : SH), Sep w F R w' F1 [] ∧ Fr 50 [] a) hS ?_ ?_
    · clear hS hf hs; clear a; intro s1 a w3 hM hS
      obtain ⟨F1, hs, hf⟩ := hM
      refine sq ?_
      refine reg ?_
      refine st tbOk 2 [6, 7] (L' := [(6, strV []), (7, .bool false)]) hf (by kernel_rfl) ?_
      clear hf; clear a; intro a hf
      refine wpList_nil ?_
      have hr := Option.some.inj hS; subst hr
      refine wp_ret ?_
      exact ret_ok hf (vs := [strV [], .bool false]) (by kernel_rfl) ⟨_, rfl, hs.sel [] rfl rfl⟩
    · clear hS; intro KK1 k1 hK1 hS
      refine blk ?_
      refine lp (st := 0) (fun (s2 : Int) (a : Act) (w' : World) => ∃ (F2 : SH), Sep w F R w' F2 [.ro ty60 (.slice ao1 files.length cp1) files] ∧ Fr 50 [(0, strV file), (1, .int .u64 off), (2, .slice ao1 files.length cp1), (8, .int .i64 s2)] a) ?_ ⟨_, hs.sel [0] rfl rfl, hf.keep (ks := [0, 1, 2, 8]) (by kernel_rfl)⟩ hS
      clear hS hf hs; clear a
      intro rec1 KK2 hK2 s2 a w1 hM hS
      obtain ⟨F2, hs, hf⟩ := hM
      refine sq ?_
      refine sq ?_
      refine reg ?_
      refine st tbOk 4 [0, 1, 2, 8, 15] (L' := [(0, strV file), (1, .int .u64 off), (2, .slice ao1 files.length cp1), (8, .int .i64 s2), (15, .bool (decide (s2 < ((files.length : Nat) : Int))))]) hf (by kernel_rfl) ?_
      clear hf; clear a; intro a hf
      refine wpList_nil ?_
      refine cnd (b := decide (s2 < ((files.length : Nat) : Int))) hf (by kernel_rfl) (fun hb2 => ?_) (fun hb2 => ?_)
      · replace hS := of_t hb2 hS
        refine wp_skip ?_
        refine sq ?_
        refine blk ?_
        refine sq ?_
        refine sq ?_
        refine reg ?_
        refine st tbOk 2 [0, 1, 2, 8, 18, 19] (L' := [(0, strV file), (1, .int .u64 off), (2, .slice ao1 files.length cp1), (8, .int .i64 s2), (18, .slice ao1 files.length cp1), (19, .int .i64 s2)]) hf (by kernel_rfl) ?_
        clear hf; clear a; intro a hf
        have hT := of_gd hS; clear hS; obtain ⟨hc1, hS⟩ := hT
        refine ixR tbOk u24 i61 rfl rfl ((hs.ro 0 rfl).ra (LeH.refl _)) (k := .i64) (n := s2) hc1 hf (by kernel_rfl) (by kernel_rfl) (by kernel_rfl) (by kernel_rfl) ?_
        clear hf; clear a; intro pb1 po1 c1 a hp1 hr1 hf
        obtain ⟨ao2, cp2, rfl, hr2⟩ := hr1
        replace hs : Sep w F R w1 F2 [.ro (tI .u8) (.slice ao2 ((gt files s2).2).length cp2) ((gt files s2).2), .ro ty60 (.slice ao1 files.length cp1) files] := hs.addRo hr2
        replace hs : Sep w F R w1 F2 [.cel pb1 po1 [strV ((gt files s2).1), .slice ao2 ((gt files s2).2).length cp2], .ro (tI .u8) (.slice ao2 ((gt files s2).2).length cp2) ((gt files s2).2), .ro ty60 (.slice ao1 files.length cp1) files] := hs.addCel hp1
        replace hf := Fr.keep (ks := [0, 1, 2, 8, 20]) (L' := [(0, strV file), (1, .int .u64 off), (2, .slice ao1 files.length cp1), (8, .int .i64 s2), (20, .pointer (some ⟨pb1, po1, none⟩))]) hf (by kernel_rfl)
        refine st tbOk 1 [0, 1, 2, 8, 21] (L' := [(0, strV file), (1, .int .u64 off), (2, .slice ao1 files.length cp1), (8, .int .i64 s2), (21, .pointer (some ⟨pb1, po1, none⟩))]) hf (by kernel_rfl) ?_
        clear hf; clear a; intro a hf
        refine ldC tbOk (T := 9) (hs.ccel 0 rfl) (LeH.refl _) 0 (strV ((gt files s2).1)) hf (by kernel_rfl) (by kernel_rfl) (by kernel_rfl) (by kernel_rfl) ?_
        clear hf; clear a; intro a hf
        replace hs : Sep w F R w1 F2 [.ro ty60 (.slice ao1 files.length cp1) files] := hs.sel [2] rfl rfl
        replace hf := Fr.keep (ks := [0, 1, 2, 8, 22]) (L' := [(0, strV file), (1, .int .u64 off), (2, .slice ao1 files.length cp1), (8, .int .i64 s2), (22, strV ((gt files s2).1))]) hf (by kernel_rfl)
        refine st tbOk 2 [0, 1, 2, 8, 24] (L' := [(0, strV file), (1, .int .u64 off), (2, .slice ao1 files.length cp1), (8, .int .i64 s2), (24, .bool (!(((gt files s2).1) == file)))]) hf (by kernel_rfl) ?_
        clear hf; clear a; intro a hf
        refine wpList_nil ?_
        refine cnd (b := !(((gt files s2).1) == file)) hf (by kernel_rfl) (fun hb3 => ?_) (fun hb3 => ?_)
        · replace hS := of_t hb3 hS
          refine wp_exit ?_
          refine reg ?_
          have hT := of_let hS; clear hS; obtain ⟨i_1, hl1, hS⟩ := hT
          refine st tbOk 3 [0, 1, 2, 8] (L' := [(0, strV file), (1, .int .u64 off), (2, .slice ao1 files.length cp1), (8, .int .i64 i_1)]) hf (by subst hl1; kernel_rfl) ?_
          clear hf; clear a; intro a hf
          refine wpList_nil ?_
          exact hK2 i_1 _ _ ⟨_, hs.sel [0] rfl rfl, hf.keep (ks := [0, 1, 2, 8]) (by kernel_rfl)⟩ hS
        · replace hS := of_f hb3 hS
          refine wp_skip ?_
          refine sq ?_
          refine reg ?_
          refine st tbOk 2 [1, 2, 8, 25, 26] (L' := [(1, .int .u64 off), (2, .slice ao1 files.length cp1), (8, .int .i64 s2), (25, .slice ao1 files.length cp1), (26, .int .i64 s2)]) hf (by kernel_rfl) ?_
          clear hf; clear a; intro a hf
          have hT := of_gd hS; clear hS; obtain ⟨hc2, hS⟩ := hT
          refine ixR tbOk u24 i61 rfl rfl ((hs.ro 0 rfl).ra (LeH.refl _)) (k := .i64) (n := s2) hc2 hf (by kernel_rfl) (by kernel_rfl) (by kernel_rfl) (by kernel_rfl) ?_
          clear hf; clear a; intro pb2 po2 c2 a hp2 hr3 hf
          obtain ⟨ao3, cp3, rfl, hr4⟩ := hr3
          replace hs : Sep w F R w1 F2 [.ro (tI .u8) (.slice ao3 ((gt files s2).2).length cp3) ((gt files s2).2), .ro ty60 (.slice ao1 files.length cp1) files] := hs.addRo hr4
          replace hs : Sep w F R w1 F2 [.cel pb2 po2 [strV ((gt files s2).1), .slice ao3 ((gt files s2).2).length cp3], .ro (tI .u8) (.slice ao3 ((gt files s2).2).length cp3) ((gt files s2).2), .ro ty60 (.slice ao1 files.length cp1) files] := hs.addCel hp2
          replace hf := Fr.keep (ks := [1, 2, 8, 27]) (L' := [(1, .int .u64 off), (2, .slice ao1 files.length cp1), (8, .int .i64 s2), (27, .pointer (some ⟨pb2, po2, none⟩))]) hf (by kernel_rfl)
          refine st tbOk 1 [1, 2, 8, 28] (L' := [(1, .int .u64 off), (2, .slice ao1 files.length cp1), (8, .int .i64 s2), (28, .pointer (some ⟨pb2, po2 + 1, none⟩))]) hf (by kernel_rfl) ?_
          clear hf; clear a; intro a hf
          refine ldC tbOk (T := 22) (hs.ccel 0 rfl) (LeH.refl _) 1 (.slice ao3 ((gt files s2).2).length cp3) hf (by kernel_rfl) (by kernel_rfl) (by kernel_rfl) (by kernel_rfl) ?_
          clear hf; clear a; intro a hf
          replace hs : Sep w F R w1 F2 [.ro (tI .u8) (.slice ao3 ((gt files s2).2).length cp3) ((gt files s2).2), .ro ty60 (.slice ao1 files.length cp1) files] := hs.sel [1, 2] rfl rfl
          replace hf := Fr.keep (ks := [1, 2, 8, 29]) (L' := [(1, .int .u64 off), (2, .slice ao1 files.length cp1), (8, .int .i64 s2), (29, .slice ao3 ((gt files s2).2).length cp3)]) hf (by kernel_rfl)
          have hT := of_let hS; clear hS; obtain ⟨n_1, hl2, hS⟩ := hT
          refine st tbOk 3 [1, 2, 8, 9] (L' := [(1, .int .u64 off), (2, .slice ao1 files.length cp1), (8, .int .i64 s2), (9, .int .u64 n_1)]) hf (by subst hl2; kernel_rfl) ?_
          clear hf; clear a; intro a hf
          refine wpList_nil ?_
          refine sq ?_
          refine sq ?_
          refine ctj (fun (s3 : Bool) (a : Act) (w' : World) => ∃ (F3 : SH), Sep w F R w' F3 [.ro ty60 (.slice ao1 files.length cp1) files] ∧ Fr 50 [(1, .int .u64 off), (2, .slice ao1 files.length cp1), (8, .int .i64 s2), (39, .bool s3)] a) hS ?_ ?_
          · clear hS hf hs; clear a; intro s3 a w2 hM hS
            obtain ⟨F3, hs, hf⟩ := hM
            refine cnd (b := s3) hf (by kernel_rfl) (fun hb5 => ?_) (fun hb5 => ?_)
            · replace hS := of_t hb5 hS
              refine sq ?_
              refine reg ?_
              refine st tbOk 2 [6, 7] (L' := [(6, strV []), (7, .bool false)]) hf (by kernel_rfl) ?_
              clear hf; clear a; intro a hf
              refine wpList_nil ?_
              have hr := Option.some.inj hS; subst hr
              refine wp_ret ?_
              exact ret_ok hf (vs := [strV [], .bool false]) (by kernel_rfl) ⟨_, rfl, hs.sel [] rfl rfl⟩
            · replace hS := of_f hb5 hS
              refine wp_skip ?_
              refine sq ?_
              refine reg ?_
              refine st tbOk 2 [1, 40, 41] (L' := [(1, .int .u64 off), (40, .slice ao1 files.length cp1), (41, .int .i64 s2)]) hf (by kernel_rfl) ?_
              clear hf; clear a; intro a hf
              have hT := of_gd hS; clear hS; obtain ⟨hc3, hS⟩ := hT
              refine ixR tbOk u24 i61 rfl rfl ((hs.ro 0 rfl).ra (LeH.refl _)) (k := .i64) (n := s2) hc3 hf (by kernel_rfl) (by kernel_rfl) (by kernel_rfl) (by kernel_rfl) ?_
              clear hf; clear a; intro pb3 po3 c3 a hp3 hr5 hf
              obtain ⟨ao4, cp4, rfl, hr6⟩ := hr5
              replace hs : Sep w F R w2 F3 [.ro (tI .u8) (.slice ao4 ((gt files s2).2).length cp4) ((gt files s2).2), .ro ty60 (.slice ao1 files.length cp1) files] := hs.addRo hr6
              replace hs : Sep w F R w2 F3 [.cel pb3 po3 [strV ((gt files s2).1), .slice ao4 ((gt files s2).2).length cp4], .ro (tI .u8) (.slice ao4 ((gt files s2).2).length cp4) ((gt files s2).2), .ro ty60 (.slice ao1 files.length cp1) files] := hs.addCel hp3
              replace hs : Sep w F R w2 F3 [.cel pb3 po3 [strV ((gt files s2).1), .slice ao4 ((gt files s2).2).length cp4], .ro (tI .u8) (.slice ao4 ((gt files s2).2).length cp4) ((gt files s2).2)] := hs.sel [0, 1] rfl rfl
              replace hf := Fr.keep (ks := [1, 42]) (L' := [(1, .int .u64 off), (42, .pointer (some ⟨pb3, po3, none⟩))]) hf (by kernel_rfl)
              refine st tbOk 1 [1, 43] (L' := [(1, .int .u64 off), (43, .pointer (some ⟨pb3, po3 + 1, none⟩))]) hf (by kernel_rfl) ?_
              clear hf; clear a; intro a hf
              refine ldC tbOk (T := 22) (hs.ccel 0 rfl) (LeH.refl _) 1 (.slice ao4 ((gt files s2).2).length cp4) hf (by kernel_rfl) (by kernel_rfl) (by kernel_rfl) (by kernel_rfl) ?_
              clear hf; clear a; intro a hf
              replace hs : Sep w F R w2 F3 [.ro (tI .u8) (.slice ao4 ((gt files s2).2).length cp4) ((gt files s2).2)] := hs.sel [1] rfl rfl
              replace hf := Fr.keep (ks := [1, 44]) (L' := [(1, .int .u64 off), (44, .slice ao4 ((gt files s2).2).length cp4)]) hf (by kernel_rfl)
              refine st tbOk 3 [44, 45, 47] (L' := [(44, .slice ao4 ((gt files s2).2).length cp4), (45, .int .u64 off), (47, .int .u64 (IntKind.u64.wrap (off + 256)))]) hf (by kernel_rfl) ?_
              clear hf; clear a; intro a hf
              have hT := of_gd hS; clear hS; obtain ⟨hc4, hS⟩ := hT
              refine sl tbOk u22 i5 rfl (hs.ro 0 rfl) (lo := off) (hi := IntKind.u64.wrap (off + 256)) (m := 0) hc4 (.inr ⟨_, .u64, rfl, by kernel_rfl⟩) (.inr ⟨_, .u64, rfl, by kernel_rfl⟩) (.inl rfl) hf (by kernel_rfl) (by kernel_rfl) (by kernel_rfl) ?_
              clear hf; clear a; intro ao5 cp5 a hr7 hf
              replace hs : Sep w F R w2 F3 [.ro (tI .u8) (.slice ao5 (cutL ((gt files s2).2) off (IntKind.u64.wrap (off + 256))).length cp5) (cutL ((gt files s2).2) off (IntKind.u64.wrap (off + 256))), .ro (tI .u8) (.slice ao4 ((gt files s2).2).length cp4) ((gt files s2).2)] := hs.addRo hr7
              replace hs : Sep w F R w2 F3 [.ro (tI .u8) (.slice ao5 (cutL ((gt files s2).2) off (IntKind.u64.wrap (off + 256))).length cp5) (cutL ((gt files s2).2) off (IntKind.u64.wrap (off + 256)))] := hs.sel [0] rfl rfl
              replace hf := Fr.keep (ks := [48]) (L' := [(48, .slice ao5 (cutL ((gt files s2).2) off (IntKind.u64.wrap (off + 256))).length cp5)]) hf (by kernel_rfl)
              refine b2sR tbOk u22 u5 u9 (hs.raR 0 rfl) hf (by kernel_rfl) (by kernel_rfl) (by kernel_rfl) ?_
              clear hf; clear a; intro a hf
              replace hs : Sep w F R w2 F3 [] := hs.sel [] rfl rfl
              replace hf := Fr.keep (ks := [49]) (L' := [(49, strV (toStr (cutL ((gt files s2).2) off (IntKind.u64.wrap (off + 256)))))]) hf (by kernel_rfl)
              refine st tbOk 2 [6, 7] (L' := [(6, strV (toStr (cutL ((gt files s2).2) off (IntKind.u64.wrap (off + 256))))), (7, .bool true)]) hf (by kernel_rfl) ?_
              clear hf; clear a; intro a hf
              refine wpList_nil ?_
              have hr := Option.some.inj hS; subst hr
              refine wp_ret ?_
              exact ret_ok hf (vs := [strV (toStr (cutL ((gt files s2).2) off (IntKind.u64.wrap (off + 256)))), .bool true]) (by kernel_rfl) ⟨_, rfl, hs.sel [] rfl rfl⟩
          · clear hS; intro KK3 k2 hK3 hS
            refine reg ?_
            refine st tbOk 3 [1, 2, 8, 9, 34] (L' := [(1, .int .u64 off), (2, .slice ao1 files.length cp1), (8, .int .i64 s2), (9, .int .u64 n_1), (34, .bool (decide (n_1 < 256)))]) hf (by kernel_rfl) ?_
            clear hf; clear a; intro a hf
            rcases Bool.eq_false_or_eq_true (decide (n_1 < 256)) with hb4 | hb4
            · replace hS := of_t hb4 hS
              replace hf := Fr.cast (L' := [(1, .int .u64 off), (2, .slice ao1 files.length cp1), (8, .int .i64 s2), (9, .int .u64 n_1), (34, .bool true)]) hf (by rw [hb4])
              refine st tbOk 5 [1, 2, 8, 39] (L' := [(1, .int .u64 off), (2, .slice ao1 files.length cp1), (8, .int .i64 s2), (39, .bool true)]) hf (by kernel_rfl) ?_
              clear hf; clear a; intro a hf
              refine wpList_nil ?_
              exact hK3 true _ _ ⟨_, hs.sel [1] rfl rfl, hf.keep (ks := [1, 2, 8, 39]) (by kernel_rfl)⟩ hS
            · replace hS := of_f hb4 hS
              replace hf := Fr.cast (L' := [(1, .int .u64 off), (2, .slice ao1 files.length cp1), (8, .int .i64 s2), (9, .int .u64 n_1), (34, .bool false)]) hf (by rw [hb4])
              refine st tbOk 5 [1, 2, 8, 39] (L' := [(1, .int .u64 off), (2, .slice ao1 files.length cp1), (8, .int .i64 s2), (39, .bool (decide (off > (IntKind.u64.wrap (n_1 - 256)))))]) hf (by kernel_rfl) ?_
              clear hf; clear a; intro a hf
              refine wpList_nil ?_
              exact hK3 (decide (off > (IntKind.u64.wrap (n_1 - 256)))) _ _ ⟨_, hs.sel [1] rfl rfl, hf.keep (ks := [1, 2, 8, 39]) (by kernel_rfl)⟩ hS
      · replace hS := of_f hb2 hS
        refine wp_exit ?_
        exact hK1 () _ _ ⟨_, hs.sel [] rfl rfl, hf.keep (ks := []) (by kernel_rfl)⟩ hS

set_option maxHeartbeats 4000000 in
theorem ref21_Sum_ok {w : World} {F : SH} {b : List UInt8}  (hs : Sep w F (blks []) w F []) {r : Int} (hS : ref21_Sum b = some r) :
    Calls Try.prog 18 [strV b].toArray w (Gives (fun u w' => ∃ (F' : SH), u = .int .u32 r ∧ Sep w F (blks []) w' F' [])) := by
  generalize (blks []) = R at hs ⊢
  unfold ref21_Sum at hS
  refine fn_ok (vs := [strV b]) Try.func18 rfl 29 Try.ntmps18 (Nat.le_of_ble_eq_true rfl) ?_
  intro a hf
  replace hf := Fr.cast (L' := [(0, strV b)]) hf (by kernel_rfl)
  refine sq ?_
  refine reg ?_
  refine st tbOk 1 [0] (L' := [(0, strV b)]) hf (by kernel_rfl) ?_
  clear hf; clear a; intro a hf
  refine wpList_nil ?_
  refine sq ?_
  refine reg ?_
  refine st tbOk 1 [0, 3] (L' := [(0, strV b), (3, .int .i64 1)]) hf (by kernel_rfl) ?_
  clear hf; clear a; intro a hf
  refine wpList_nil ?_
  refine sq ?_
  refine reg ?_
  refine st tbOk 1 [0, 3, 4] (L' := [(0, strV b), (3, .int .i64 1), (4, .int .i64 0)]) hf (by kernel_rfl) ?_
  clear hf; clear a; intro a hf
  refine wpList_nil ?_
  refine sq ?_
  refine sq ?_
  refine reg ?_
  refine st tbOk 1 [0, 3, 4, 5] (L' := [(0, strV b), (3, .int .i64 1), (4, .int .i64 0), (5, .int .i64 0)]) hf (by kernel_rfl) ?_
  clear hf; clear a; intro a hf
  refine wpList_nil ?_
  refine ctj (fun (s1 : Int × Int) (a : Act) (w' : World) => ∃ (F1 : SH), Sep w F R w' F1 [] ∧ Fr 29 [(3, .int .i64 s1.1), (4, .int .i64 s1.2)] a) hS ?_ ?_
  · clear hS hf hs; clear a; intro s1 a w2 hM hS
    obtain ⟨F1, hs, hf⟩ := hM
    refine sq ?_
    refine reg ?_
    refine st tbOk 7 [2] (L' := [(2, .int .u32 (IntKind.u32.wrap ((IntKind.u32.wrap ((IntKind.u32.wrap s1.2) * 65536)) + (IntKind.u32.wrap s1.1))))]) hf (by kernel_rfl) ?_
    clear hf; clear a; intro a hf
    refine wpList_nil ?_
    have hr := Option.some.inj hS; subst hr
    refine wp_ret ?_
    exact ret_ok hf (vs := [.int .u32 (IntKind.u32.wrap ((IntKind.u32.wrap ((IntKind.u32.wrap s1.2) * 65536)) + (IntKind.u32.wrap s1.1)))]) (by kernel_rfl) ⟨_, rfl, hs.sel [] rfl rfl⟩
  · clear hS; intro KK1 k1 hK1 hS
    refine blk ?_
    refine lp (st := (1, 0, 0)) (fun (s2 : Int × Int × Int) (a : Act) (w' : World) => ∃ (F2 : SH), Sep w F R w' F2 [] ∧ Fr 29 [(0, strV b), (3, .int .i64 s2.1), (4, .int .i64 s2.2.1), (5, .int .i64 s2.2.2)] a) ?_ ⟨_, hs.sel [] rfl rfl, hf.keep (ks := [0, 3, 4, 5]) (by kernel_rfl)⟩ hS
    clear hS hf hs; clear a
    intro rec1 KK2 hK2 s2 a w1 hM hS
    obtain ⟨F2, hs, hf⟩ := hM
    refine sq ?_
    refine sq ?_
    refine reg ?_
    refine st tbOk 4 [0, 3, 4, 5, 9] (L' := [(0, strV b), (3, .int .i64 s2.1), (4, .int .i64 s2.2.1), (5, .int .i64 s2.2.2), (9, .bool (decide (s2.2.2 < ((b.length : Nat) : Int))))]) hf (by kernel_rfl) ?_
    clear hf; clear a; intro a hf
    refine wpList_nil ?_
    refine cnd (b := decide (s2.2.2 < ((b.length : Nat) : Int))) hf (by kernel_rfl) (fun hb1 => ?_) (fun hb1 => ?_)
    · replace hS := of_t hb1 hS
      refine wp_skip ?_
      refine sq ?_
      refine blk ?_
      refine sq ?_
      refine reg ?_
      refine st tbOk 3 [0, 4, 5, 12, 13, 14] (L' := [(0, strV b), (4, .int .i64 s2.2.1), (5, .int .i64 s2.2.2), (12, .int .i64 s2.1), (13, strV b), (14, .int .i64 s2.2.2)]) hf (by kernel_rfl) ?_
      clear hf; clear a; intro a hf
      have hT := of_gd hS; clear hS; obtain ⟨hc1, hS⟩ := hT
      refine ixS tbOk u9 (p := b) (k := .i64) (n := s2.2.2) hc1 hf (by kernel_rfl) (by kernel_rfl) (by kernel_rfl) (by kernel_rfl) ?_
      clear hf; clear a; intro a hf
      replace hf := Fr.keep (ks := [0, 4, 5, 12, 15]) (L' := [(0, strV b), (4, .int .i64 s2.2.1), (5, .int .i64 s2.2.2), (12, .int .i64 s2.1), (15, .int .u8 ((b.getD (Int.toNat s2.2.2) 0).toNat : Int))]) hf (by kernel_rfl)
      have hT := of_let hS; clear hS; obtain ⟨x_1, hl1, hS⟩ := hT
      refine st tbOk 4 [0, 3, 4, 5] (L' := [(0, strV b), (3, .int .i64 x_1), (4, .int .i64 s2.2.1), (5, .int .i64 s2.2.2)]) hf (by subst hl1; kernel_rfl) ?_
      clear hf; clear a; intro a hf
      refine wpList_nil ?_
      refine reg ?_
      have hT := of_let hS; clear hS; obtain ⟨y_1, hl2, hS⟩ := hT
      refine st tbOk 5 [0, 3, 4, 5] (L' := [(0, strV b), (3, .int .i64 x_1), (4, .int .i64 y_1), (5, .int .i64 s2.2.2)]) hf (by subst hl2; kernel_rfl) ?_
      clear hf; clear a; intro a hf
      refine wpList_nil ?_
      refine reg ?_
      have hT := of_let hS; clear hS; obtain ⟨i_1, hl3, hS⟩ := hT
      refine st tbOk 3 [0, 3, 4, 5] (L' := [(0, strV b), (3, .int .i64 x_1), (4, .int .i64 y_1), (5, .int .i64 i_1)]) hf (by subst hl3; kernel_rfl) ?_
      clear hf; clear a; intro a hf
      refine wpList_nil ?_
      exact hK2 (x_1, y_1, i_1) _ _ ⟨_, hs.sel [] rfl rfl, hf.keep (ks := [0, 3, 4, 5]) (by kernel_rfl)⟩ hS
    · replace hS := of_f hb1 hS
      refine wp_exit ?_
      exact hK1 (s2.1, s2.2.1) _ _ ⟨_, hs.sel [] rfl rfl, hf.keep (ks := [3, 4]) (by kernel_rfl)⟩ hS

end Dm
