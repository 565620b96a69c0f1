/-
  ImageTables returns true for every input, and each argument reads behind the call as before it. No condition.
-/
import Derived.Test.YtdfjbnonibcmeaaGreatRows
import Derived.Test.YtdfjbnonibcmeaaGreatU5
namespace Go.Proofs.YtdfjbnonibcmeaaGreat.imageTables
open Go Go.ChangeShapes Go.WideShapes Go.ChangeAt Go.RowKit Dm

theorem rd83 {H : Type} {enc : TypeId × Value → H} {w : World} : Rd enc Tryz.prog w 83 (TC.ty (.pr .s (.pr (.i .i64) (.pr (.i .u64) .b)))) (fun x => (x.1.length ≤ 9223372036854775807 ∧ InK .i64 x.2.1 ∧ InK .u64 x.2.2.1 ∧ True)) := by
  intro fuel cs x h
  obtain ⟨xs, n, rfl, _, hl, hxl, hf⟩ := DataW.trod_struct Tryz.underlying83 h
  have hl : cs.length = 4 := hl.trans (by kernel_rfl : Tryz.prog.cellsOf 83 = 4)
  obtain ⟨y0, h0⟩ := rd_get hxl hf 0 _ rfl
  obtain ⟨a0, r0, w0⟩ := (rd_str Tryz.underlying9) _ _ _ h0
  have q0 : (TC.ty .s).rep (hp w) a0 ((cs.drop 0).take 1) := by
    have e : (cs.drop 0).take (Tryz.prog.cellsOf 9) = (cs.drop 0).take 1 := congrArg (fun s => (cs.drop 0).take s) (show Tryz.prog.cellsOf 9 = 1 from by kernel_rfl)
    rw [← e]; exact r0
  obtain ⟨y1, h1⟩ := rd_get hxl hf 1 _ rfl
  obtain ⟨a1, r1, w1⟩ := (rd_int Tryz.underlying3) _ _ _ h1
  have q1 : (TC.ty (.i .i64)).rep (hp w) a1 ((cs.drop 1).take 1) := by
    have e : (cs.drop 1).take (Tryz.prog.cellsOf 3) = (cs.drop 1).take 1 := congrArg (fun s => (cs.drop 1).take s) (show Tryz.prog.cellsOf 3 = 1 from by kernel_rfl)
    rw [← e]; exact r1
  obtain ⟨y2, h2⟩ := rd_get hxl hf 2 _ rfl
  obtain ⟨a2, r2, w2⟩ := (rd_int Tryz.underlying24) _ _ _ h2
  have q2 : (TC.ty (.i .u64)).rep (hp w) a2 ((cs.drop 2).take 1) := by
    have e : (cs.drop 2).take (Tryz.prog.cellsOf 24) = (cs.drop 2).take 1 := congrArg (fun s => (cs.drop 2).take s) (show Tryz.prog.cellsOf 24 = 1 from by kernel_rfl)
    rw [← e]; exact r2
  obtain ⟨y3, h3⟩ := rd_get hxl hf 3 _ rfl
  obtain ⟨a3, r3, w3⟩ := (rd_bool Tryz.underlying4) _ _ _ h3
  have q3 : (TC.ty .b).rep (hp w) a3 ((cs.drop 3).take 1) := by
    have e : (cs.drop 3).take (Tryz.prog.cellsOf 4) = (cs.drop 3).take 1 := congrArg (fun s => (cs.drop 3).take s) (show Tryz.prog.cellsOf 4 = 1 from by kernel_rfl)
    rw [← e]; exact r3
  have e3 : (TC.ty .b).rep (hp w) a3 (cs.drop 3) := by
    rw [List.take_of_length_le (by rw [List.length_drop]; omega)] at q3; exact q3
  have e2 : (TC.ty (.pr (.i .u64) .b)).rep (hp w) (a2, a3) (cs.drop 2) := tPr_mk 1 q2 (by rw [List.drop_drop]; exact e3)
  have e1 : (TC.ty (.pr (.i .i64) (.pr (.i .u64) .b))).rep (hp w) (a1, a2, a3) (cs.drop 1) := tPr_mk 1 q1 (by rw [List.drop_drop]; exact e2)
  have e0 : (TC.ty (.pr .s (.pr (.i .i64) (.pr (.i .u64) .b)))).rep (hp w) (a0, a1, a2, a3) (cs.drop 0) := tPr_mk 1 q0 (by rw [List.drop_drop]; exact e1)
  exact ⟨(a0, a1, a2, a3), e0, ⟨w0, w1, w2, w3⟩⟩
theorem rd108 {H : Type} {enc : TypeId × Value → H} {w : World} : Rd enc Tryz.prog w 108 (TC.ty (.pr (.i .i64) (.pr (.i .u64) (.pr (.i .u32) (.pr (.i .i64) (.i .i64)))))) (fun x => (InK .i64 x.1 ∧ InK .u64 x.2.1 ∧ InK .u32 x.2.2.1 ∧ InK .i64 x.2.2.2.1 ∧ InK .i64 x.2.2.2.2)) := by
  intro fuel cs x h
  obtain ⟨xs, n, rfl, _, hl, hxl, hf⟩ := DataW.trod_struct Tryz.underlying108 h
  have hl : cs.length = 5 := hl.trans (by kernel_rfl : Tryz.prog.cellsOf 108 = 5)
  obtain ⟨y0, h0⟩ := rd_get hxl hf 0 _ rfl
  obtain ⟨a0, r0, w0⟩ := (rd_int Tryz.underlying3) _ _ _ h0
  have q0 : (TC.ty (.i .i64)).rep (hp w) a0 ((cs.drop 0).take 1) := by
    have e : (cs.drop 0).take (Tryz.prog.cellsOf 3) = (cs.drop 0).take 1 := congrArg (fun s => (cs.drop 0).take s) (show Tryz.prog.cellsOf 3 = 1 from by kernel_rfl)
    rw [← e]; exact r0
  obtain ⟨y1, h1⟩ := rd_get hxl hf 1 _ rfl
  obtain ⟨a1, r1, w1⟩ := (rd_int Tryz.underlying24) _ _ _ h1
  have q1 : (TC.ty (.i .u64)).rep (hp w) a1 ((cs.drop 1).take 1) := by
    have e : (cs.drop 1).take (Tryz.prog.cellsOf 24) = (cs.drop 1).take 1 := congrArg (fun s => (cs.drop 1).take s) (show Tryz.prog.cellsOf 24 = 1 from by kernel_rfl)
    rw [← e]; exact r1
  obtain ⟨y2, h2⟩ := rd_get hxl hf 2 _ rfl
  obtain ⟨a2, r2, w2⟩ := (rd_int Tryz.underlying60) _ _ _ h2
  have q2 : (TC.ty (.i .u32)).rep (hp w) a2 ((cs.drop 2).take 1) := by
    have e : (cs.drop 2).take (Tryz.prog.cellsOf 60) = (cs.drop 2).take 1 := congrArg (fun s => (cs.drop 2).take s) (show Tryz.prog.cellsOf 60 = 1 from by kernel_rfl)
    rw [← e]; exact r2
  obtain ⟨y3, h3⟩ := rd_get hxl hf 3 _ rfl
  obtain ⟨a3, r3, w3⟩ := (rd_int Tryz.underlying3) _ _ _ h3
  have q3 : (TC.ty (.i .i64)).rep (hp w) a3 ((cs.drop 3).take 1) := by
    have e : (cs.drop 3).take (Tryz.prog.cellsOf 3) = (cs.drop 3).take 1 := congrArg (fun s => (cs.drop 3).take s) (show Tryz.prog.cellsOf 3 = 1 from by kernel_rfl)
    rw [← e]; exact r3
  obtain ⟨y4, h4⟩ := rd_get hxl hf 4 _ rfl
  obtain ⟨a4, r4, w4⟩ := (rd_int Tryz.underlying2) _ _ _ h4
  have q4 : (TC.ty (.i .i64)).rep (hp w) a4 ((cs.drop 4).take 1) := by
    have e : (cs.drop 4).take (Tryz.prog.cellsOf 2) = (cs.drop 4).take 1 := congrArg (fun s => (cs.drop 4).take s) (show Tryz.prog.cellsOf 2 = 1 from by kernel_rfl)
    rw [← e]; exact r4
  have e4 : (TC.ty (.i .i64)).rep (hp w) a4 (cs.drop 4) := by
    rw [List.take_of_length_le (by rw [List.length_drop]; omega)] at q4; exact q4
  have e3 : (TC.ty (.pr (.i .i64) (.i .i64))).rep (hp w) (a3, a4) (cs.drop 3) := tPr_mk 1 q3 (by rw [List.drop_drop]; exact e4)
  have e2 : (TC.ty (.pr (.i .u32) (.pr (.i .i64) (.i .i64)))).rep (hp w) (a2, a3, a4) (cs.drop 2) := tPr_mk 1 q2 (by rw [List.drop_drop]; exact e3)
  have e1 : (TC.ty (.pr (.i .u64) (.pr (.i .u32) (.pr (.i .i64) (.i .i64))))).rep (hp w) (a1, a2, a3, a4) (cs.drop 1) := tPr_mk 1 q1 (by rw [List.drop_drop]; exact e2)
  have e0 : (TC.ty (.pr (.i .i64) (.pr (.i .u64) (.pr (.i .u32) (.pr (.i .i64) (.i .i64)))))).rep (hp w) (a0, a1, a2, a3, a4) (cs.drop 0) := tPr_mk 1 q0 (by rw [List.drop_drop]; exact e1)
  exact ⟨(a0, a1, a2, a3, a4), e0, ⟨w0, w1, w2, w3, w4⟩⟩
theorem rd47 {H : Type} {enc : TypeId × Value → H} {w : World} : Rd enc Tryz.prog w 47 (TC.ty (.pr (.i .i64) (.pr .s (.pr (.sl none .s) (.pr (.i .u64) (.pr (.sl none (.i .u8)) (.pr (.sl none (.i .u8)) (.pr (.i .u64) (.pr (.sl none (.i .u8)) (.pr (.i .u64) (.pr (.sl none (.pr .s (.pr (.i .i64) (.pr (.i .u64) .b)))) (.sl none (.pr (.i .i64) (.pr (.i .u64) (.pr (.i .u32) (.pr (.i .i64) (.i .i64))))))))))))))))) (fun x => (InK .i64 x.1 ∧ x.2.1.length ≤ 9223372036854775807 ∧ (x.2.2.1.length ≤ 9223372036854775807 ∧ ∀ y0 ∈ x.2.2.1, y0.length ≤ 9223372036854775807) ∧ InK .u64 x.2.2.2.1 ∧ (x.2.2.2.2.1.length ≤ 9223372036854775807 ∧ ∀ y0 ∈ x.2.2.2.2.1, InK .u8 y0) ∧ (x.2.2.2.2.2.1.length ≤ 9223372036854775807 ∧ ∀ y0 ∈ x.2.2.2.2.2.1, InK .u8 y0) ∧ InK .u64 x.2.2.2.2.2.2.1 ∧ (x.2.2.2.2.2.2.2.1.length ≤ 9223372036854775807 ∧ ∀ y0 ∈ x.2.2.2.2.2.2.2.1, InK .u8 y0) ∧ InK .u64 x.2.2.2.2.2.2.2.2.1 ∧ (x.2.2.2.2.2.2.2.2.2.1.length ≤ 9223372036854775807 ∧ ∀ y0 ∈ x.2.2.2.2.2.2.2.2.2.1, (y0.1.length ≤ 9223372036854775807 ∧ InK .i64 y0.2.1 ∧ InK .u64 y0.2.2.1 ∧ True)) ∧ (x.2.2.2.2.2.2.2.2.2.2.length ≤ 9223372036854775807 ∧ ∀ y0 ∈ x.2.2.2.2.2.2.2.2.2.2, (InK .i64 y0.1 ∧ InK .u64 y0.2.1 ∧ InK .u32 y0.2.2.1 ∧ InK .i64 y0.2.2.2.1 ∧ InK .i64 y0.2.2.2.2)))) := by
  intro fuel cs x h
  obtain ⟨xs, n, rfl, _, hl, hxl, hf⟩ := DataW.trod_struct Tryz.underlying47 h
  have hl : cs.length = 11 := hl.trans (by kernel_rfl : Tryz.prog.cellsOf 47 = 11)
  obtain ⟨y0, h0⟩ := rd_get hxl hf 0 _ rfl
  obtain ⟨a0, r0, w0⟩ := (rd_int Tryz.underlying3) _ _ _ h0
  have q0 : (TC.ty (.i .i64)).rep (hp w) a0 ((cs.drop 0).take 1) := by
    have e : (cs.drop 0).take (Tryz.prog.cellsOf 3) = (cs.drop 0).take 1 := congrArg (fun s => (cs.drop 0).take s) (show Tryz.prog.cellsOf 3 = 1 from by kernel_rfl)
    rw [← e]; exact r0
  obtain ⟨y1, h1⟩ := rd_get hxl hf 1 _ rfl
  obtain ⟨a1, r1, w1⟩ := (rd_str Tryz.underlying9) _ _ _ h1
  have q1 : (TC.ty .s).rep (hp w) a1 ((cs.drop 1).take 1) := by
    have e : (cs.drop 1).take (Tryz.prog.cellsOf 9) = (cs.drop 1).take 1 := congrArg (fun s => (cs.drop 1).take s) (show Tryz.prog.cellsOf 9 = 1 from by kernel_rfl)
    rw [← e]; exact r1
  obtain ⟨y2, h2⟩ := rd_get hxl hf 2 _ rfl
  obtain ⟨a2, r2, w2⟩ := (rd_slice Tryz.underlying28 (by kernel_rfl) (rd_str Tryz.underlying9)) _ _ _ h2
  have q2 : (TC.ty (.sl none .s)).rep (hp w) a2 ((cs.drop 2).take 1) := by
    have e : (cs.drop 2).take (Tryz.prog.cellsOf 28) = (cs.drop 2).take 1 := congrArg (fun s => (cs.drop 2).take s) (show Tryz.prog.cellsOf 28 = 1 from by kernel_rfl)
    rw [← e]; exact r2
  obtain ⟨y3, h3⟩ := rd_get hxl hf 3 _ rfl
  obtain ⟨a3, r3, w3⟩ := (rd_int Tryz.underlying24) _ _ _ h3
  have q3 : (TC.ty (.i .u64)).rep (hp w) a3 ((cs.drop 3).take 1) := by
    have e : (cs.drop 3).take (Tryz.prog.cellsOf 24) = (cs.drop 3).take 1 := congrArg (fun s => (cs.drop 3).take s) (show Tryz.prog.cellsOf 24 = 1 from by kernel_rfl)
    rw [← e]; exact r3
  obtain ⟨y4, h4⟩ := rd_get hxl hf 4 _ rfl
  obtain ⟨a4, r4, w4⟩ := (rd_slice Tryz.underlying22 (by kernel_rfl) (rd_int Tryz.underlying5)) _ _ _ h4
  have q4 : (TC.ty (.sl none (.i .u8))).rep (hp w) a4 ((cs.drop 4).take 1) := by
    have e : (cs.drop 4).take (Tryz.prog.cellsOf 22) = (cs.drop 4).take 1 := congrArg (fun s => (cs.drop 4).take s) (show Tryz.prog.cellsOf 22 = 1 from by kernel_rfl)
    rw [← e]; exact r4
  obtain ⟨y5, h5⟩ := rd_get hxl hf 5 _ rfl
  obtain ⟨a5, r5, w5⟩ := (rd_slice Tryz.underlying22 (by kernel_rfl) (rd_int Tryz.underlying5)) _ _ _ h5
  have q5 : (TC.ty (.sl none (.i .u8))).rep (hp w) a5 ((cs.drop 5).take 1) := by
    have e : (cs.drop 5).take (Tryz.prog.cellsOf 22) = (cs.drop 5).take 1 := congrArg (fun s => (cs.drop 5).take s) (show Tryz.prog.cellsOf 22 = 1 from by kernel_rfl)
    rw [← e]; exact r5
  obtain ⟨y6, h6⟩ := rd_get hxl hf 6 _ rfl
  obtain ⟨a6, r6, w6⟩ := (rd_int Tryz.underlying24) _ _ _ h6
  have q6 : (TC.ty (.i .u64)).rep (hp w) a6 ((cs.drop 6).take 1) := by
    have e : (cs.drop 6).take (Tryz.prog.cellsOf 24) = (cs.drop 6).take 1 := congrArg (fun s => (cs.drop 6).take s) (show Tryz.prog.cellsOf 24 = 1 from by kernel_rfl)
    rw [← e]; exact r6
  obtain ⟨y7, h7⟩ := rd_get hxl hf 7 _ rfl
  obtain ⟨a7, r7, w7⟩ := (rd_slice Tryz.underlying22 (by kernel_rfl) (rd_int Tryz.underlying5)) _ _ _ h7
  have q7 : (TC.ty (.sl none (.i .u8))).rep (hp w) a7 ((cs.drop 7).take 1) := by
    have e : (cs.drop 7).take (Tryz.prog.cellsOf 22) = (cs.drop 7).take 1 := congrArg (fun s => (cs.drop 7).take s) (show Tryz.prog.cellsOf 22 = 1 from by kernel_rfl)
    rw [← e]; exact r7
  obtain ⟨y8, h8⟩ := rd_get hxl hf 8 _ rfl
  obtain ⟨a8, r8, w8⟩ := (rd_int Tryz.underlying24) _ _ _ h8
  have q8 : (TC.ty (.i .u64)).rep (hp w) a8 ((cs.drop 8).take 1) := by
    have e : (cs.drop 8).take (Tryz.prog.cellsOf 24) = (cs.drop 8).take 1 := congrArg (fun s => (cs.drop 8).take s) (show Tryz.prog.cellsOf 24 = 1 from by kernel_rfl)
    rw [← e]; exact r8
  obtain ⟨y9, h9⟩ := rd_get hxl hf 9 _ rfl
  obtain ⟨a9, r9, w9⟩ := (rd_slice Tryz.underlying44 (by kernel_rfl) rd83) _ _ _ h9
  have q9 : (TC.ty (.sl none (.pr .s (.pr (.i .i64) (.pr (.i .u64) .b))))).rep (hp w) a9 ((cs.drop 9).take 1) := by
    have e : (cs.drop 9).take (Tryz.prog.cellsOf 44) = (cs.drop 9).take 1 := congrArg (fun s => (cs.drop 9).take s) (show Tryz.prog.cellsOf 44 = 1 from by kernel_rfl)
    rw [← e]; exact r9
  obtain ⟨y10, h10⟩ := rd_get hxl hf 10 _ rfl
  obtain ⟨a10, r10, w10⟩ := (rd_slice Tryz.underlying45 (by kernel_rfl) rd108) _ _ _ h10
  have q10 : (TC.ty (.sl none (.pr (.i .i64) (.pr (.i .u64) (.pr (.i .u32) (.pr (.i .i64) (.i .i64))))))).rep (hp w) a10 ((cs.drop 10).take 1) := by
    have e : (cs.drop 10).take (Tryz.prog.cellsOf 45) = (cs.drop 10).take 1 := congrArg (fun s => (cs.drop 10).take s) (show Tryz.prog.cellsOf 45 = 1 from by kernel_rfl)
    rw [← e]; exact r10
  have e10 : (TC.ty (.sl none (.pr (.i .i64) (.pr (.i .u64) (.pr (.i .u32) (.pr (.i .i64) (.i .i64))))))).rep (hp w) a10 (cs.drop 10) := by
    rw [List.take_of_length_le (by rw [List.length_drop]; omega)] at q10; exact q10
  have e9 : (TC.ty (.pr (.sl none (.pr .s (.pr (.i .i64) (.pr (.i .u64) .b)))) (.sl none (.pr (.i .i64) (.pr (.i .u64) (.pr (.i .u32) (.pr (.i .i64) (.i .i64)))))))).rep (hp w) (a9, a10) (cs.drop 9) := tPr_mk 1 q9 (by rw [List.drop_drop]; exact e10)
  have e8 : (TC.ty (.pr (.i .u64) (.pr (.sl none (.pr .s (.pr (.i .i64) (.pr (.i .u64) .b)))) (.sl none (.pr (.i .i64) (.pr (.i .u64) (.pr (.i .u32) (.pr (.i .i64) (.i .i64))))))))).rep (hp w) (a8, a9, a10) (cs.drop 8) := tPr_mk 1 q8 (by rw [List.drop_drop]; exact e9)
  have e7 : (TC.ty (.pr (.sl none (.i .u8)) (.pr (.i .u64) (.pr (.sl none (.pr .s (.pr (.i .i64) (.pr (.i .u64) .b)))) (.sl none (.pr (.i .i64) (.pr (.i .u64) (.pr (.i .u32) (.pr (.i .i64) (.i .i64)))))))))).rep (hp w) (a7, a8, a9, a10) (cs.drop 7) := tPr_mk 1 q7 (by rw [List.drop_drop]; exact e8)
  have e6 : (TC.ty (.pr (.i .u64) (.pr (.sl none (.i .u8)) (.pr (.i .u64) (.pr (.sl none (.pr .s (.pr (.i .i64) (.pr (.i .u64) .b)))) (.sl none (.pr (.i .i64) (.pr (.i .u64) (.pr (.i .u32) (.pr (.i .i64) (.i .i64))))))))))).rep (hp w) (a6, a7, a8, a9, a10) (cs.drop 6) := tPr_mk 1 q6 (by rw [List.drop_drop]; exact e7)
  have e5 : (TC.ty (.pr (.sl none (.i .u8)) (.pr (.i .u64) (.pr (.sl none (.i .u8)) (.pr (.i .u64) (.pr (.sl none (.pr .s (.pr (.i .i64) (.pr (.i .u64) .b)))) (.sl none (.pr (.i .i64) (.pr (.i .u64) (.pr (.i .u32) (.pr (.i .i64) (.i .i64)))))))))))).rep (hp w) (a5, a6, a7, a8, a9, a10) (cs.drop 5) := tPr_mk 1 q5 (by rw [List.drop_drop]; exact e6)
  have e4 : (TC.ty (.pr (.sl none (.i .u8)) (.pr (.sl none (.i .u8)) (.pr (.i .u64) (.pr (.sl none (.i .u8)) (.pr (.i .u64) (.pr (.sl none (.pr .s (.pr (.i .i64) (.pr (.i .u64) .b)))) (.sl none (.pr (.i .i64) (.pr (.i .u64) (.pr (.i .u32) (.pr (.i .i64) (.i .i64))))))))))))).rep (hp w) (a4, a5, a6, a7, a8, a9, a10) (cs.drop 4) := tPr_mk 1 q4 (by rw [List.drop_drop]; exact e5)
  have e3 : (TC.ty (.pr (.i .u64) (.pr (.sl none (.i .u8)) (.pr (.sl none (.i .u8)) (.pr (.i .u64) (.pr (.sl none (.i .u8)) (.pr (.i .u64) (.pr (.sl none (.pr .s (.pr (.i .i64) (.pr (.i .u64) .b)))) (.sl none (.pr (.i .i64) (.pr (.i .u64) (.pr (.i .u32) (.pr (.i .i64) (.i .i64)))))))))))))).rep (hp w) (a3, a4, a5, a6, a7, a8, a9, a10) (cs.drop 3) := tPr_mk 1 q3 (by rw [List.drop_drop]; exact e4)
  have e2 : (TC.ty (.pr (.sl none .s) (.pr (.i .u64) (.pr (.sl none (.i .u8)) (.pr (.sl none (.i .u8)) (.pr (.i .u64) (.pr (.sl none (.i .u8)) (.pr (.i .u64) (.pr (.sl none (.pr .s (.pr (.i .i64) (.pr (.i .u64) .b)))) (.sl none (.pr (.i .i64) (.pr (.i .u64) (.pr (.i .u32) (.pr (.i .i64) (.i .i64))))))))))))))).rep (hp w) (a2, a3, a4, a5, a6, a7, a8, a9, a10) (cs.drop 2) := tPr_mk 1 q2 (by rw [List.drop_drop]; exact e3)
  have e1 : (TC.ty (.pr .s (.pr (.sl none .s) (.pr (.i .u64) (.pr (.sl none (.i .u8)) (.pr (.sl none (.i .u8)) (.pr (.i .u64) (.pr (.sl none (.i .u8)) (.pr (.i .u64) (.pr (.sl none (.pr .s (.pr (.i .i64) (.pr (.i .u64) .b)))) (.sl none (.pr (.i .i64) (.pr (.i .u64) (.pr (.i .u32) (.pr (.i .i64) (.i .i64)))))))))))))))).rep (hp w) (a1, a2, a3, a4, a5, a6, a7, a8, a9, a10) (cs.drop 1) := tPr_mk 1 q1 (by rw [List.drop_drop]; exact e2)
  have e0 : (TC.ty (.pr (.i .i64) (.pr .s (.pr (.sl none .s) (.pr (.i .u64) (.pr (.sl none (.i .u8)) (.pr (.sl none (.i .u8)) (.pr (.i .u64) (.pr (.sl none (.i .u8)) (.pr (.i .u64) (.pr (.sl none (.pr .s (.pr (.i .i64) (.pr (.i .u64) .b)))) (.sl none (.pr (.i .i64) (.pr (.i .u64) (.pr (.i .u32) (.pr (.i .i64) (.i .i64))))))))))))))))).rep (hp w) (a0, a1, a2, a3, a4, a5, a6, a7, a8, a9, a10) (cs.drop 0) := tPr_mk 1 q0 (by rw [List.drop_drop]; exact e1)
  exact ⟨(a0, a1, a2, a3, a4, a5, a6, a7, a8, a9, a10), e0, ⟨w0, w1, w2, w3, w4, w5, w6, w7, w8, w9, w10⟩⟩
theorem own : ownKnob Tryz.prog.godebug = none := by kernel_rfl
theorem laidOut : laidOutB Tryz.prog = true := by kernel_rfl
theorem readable : (Tryz.f6.params.toList.all fun t => Tryz.prog.readableRec t && decide (t < Tryz.prog.types.size)) = true := by kernel_rfl
set_option maxRecDepth 100000 in
theorem contract (H : Type) (enc : TypeId × Value → H) (W : World) (base : Nat) (args : Array Value) (ds gs : List (DataW H)) (before : List MemPlace)
    (hval : ∀ (j : Nat) t v, Tryz.f6.params[j]? = some t → args[j]? = some v → Value.okWide Tryz.prog W .any base t v)
    (hW : DataW.Whole enc Tryz.prog Tryz.f6.params.toList Rows.imageTablesSpec.vars false W args.toList ds gs before) :
    Calls Tryz.prog 6 args W fun e W' => ∃ v, e = .returned v ∧ Rows.imageTablesSpec.post enc Tryz.prog Tryz.f6 false true false false W args v W' := by
  have hW' := hW
  obtain ⟨p, q, hA0, hV, rfl, hfz, hnd⟩ := hW
  have hA : DataW.TrodAll enc Tryz.prog W 0 (fun _ => true) true Tryz.f6.params.toList args.toList ds p := hA0
  rw [Tryz.params6] at hA hval
  obtain ⟨v0, vs0, d0, ds0, p0, q0, hargs, rfl, rfl, k0, r0⟩ := trodAll_cons hA
  obtain ⟨v1, vs1, d1, ds1, p1, q1, rfl, rfl, rfl, k1, r1⟩ := trodAll_cons r0
  obtain ⟨v2, vs2, d2, ds2, p2, q2, rfl, rfl, rfl, k2, r2⟩ := trodAll_cons r1
  obtain ⟨v3, vs3, d3, ds3, p3, q3, rfl, rfl, rfl, k3, r3⟩ := trodAll_cons r2
  obtain ⟨rfl, rfl, rfl⟩ := trodAll_nil r3
  obtain rfl : args = #[v0, v1, v2, v3] := by cases args; simp_all
  obtain ⟨rfl, rfl⟩ := trodVars_none hV
  clear r0
  clear r1
  clear r2
  obtain ⟨x0, c0, rfl, r0, wf0⟩ := arg_structH (j := 0) hval rfl rfl (t := TC.ty (.pr (.i .i64) (.pr .s (.pr (.sl none .s) (.pr (.i .u64) (.pr (.sl none (.i .u8)) (.pr (.sl none (.i .u8)) (.pr (.i .u64) (.pr (.sl none (.i .u8)) (.pr (.i .u64) (.pr (.sl none (.pr .s (.pr (.i .i64) (.pr (.i .u64) .b)))) (.sl none (.pr (.i .i64) (.pr (.i .u64) (.pr (.i .u32) (.pr (.i .i64) (.i .i64))))))))))))))))) Tryz.underlying47 rd47 k0
  obtain ⟨x1, rfl, wf1⟩ := arg_intH (j := 1) hval rfl rfl Tryz.underlying5 k1
  obtain ⟨x2, rfl, wf2⟩ := arg_intH (j := 2) hval rfl rfl Tryz.underlying24 k2
  obtain ⟨x3, rfl, wf3⟩ := arg_intH (j := 3) hval rfl rfl Tryz.underlying24 k3
  have hA : ArgsR (hp W) [.v true c46, .v false (.i .u8), .v false (.i .u64), .v false (.i .u64)] (x0, x1, x2, x3, ()) [.agg c0.toArray, .int .u8 x1, .int .u64 x2, .int .u64 x3] := ⟨_, _, rfl, ⟨rfl, c0, r0, rfl⟩, ⟨_, _, rfl, ⟨rfl, [.int .u8 x1], rfl, rfl, rfl⟩, ⟨_, _, rfl, ⟨rfl, [.int .u64 x2], rfl, rfl, rfl⟩, ⟨_, _, rfl, ⟨rfl, [.int .u64 x3], rfl, rfl, rfl⟩, rfl⟩⟩⟩⟩
  have hS : ct_law09_ImageTables.S (x0, x1, x2, x3, ()) = some true := ImageTables_true wf0 wf1 wf2 wf3
  refine (Holds.law (vs := [.agg c0.toArray, .int .u8 x1, .int .u64 x2, .int .u64 x3]) law09_ImageTables_ok hS hA).mono ?_
  rintro e W' ⟨v, he, hv, hx⟩
  subst hv
  exact ⟨_, he, law_post hW' laidOut rfl readable 4 rfl Tryz.underlying4 hx rfl rfl rfl⟩

set_option maxRecDepth 100000 in
theorem lifted (os : Os) (started : os.Started) (H : Type) (enc : TypeId × Value → H) :
    ReturnsInHanded {} Tryz.checked os 6 .any (Rows.imageTablesSpec.pre6 enc Tryz.prog Tryz.f6 Rows.imageTablesRow.domain false) (Rows.imageTablesSpec.post enc Tryz.prog Tryz.f6 false true false false) := by
  refine returnsInHanded_of_change (C := Tryz.checked) own started (by kernel_rfl) Tryz.func6
    (ChangeSpec.witness6 (enc := enc) (C := Tryz.checked) false ⟨#[], #[.agg #[.int .i64 0, .string .empty, .slice none 0 0, .int .u64 0, .slice none 0 0, .slice none 0 0, .int .u64 0, .slice none 0 0, .int .u64 0, .slice none 0 0, .slice none 0 0], .int .u8 0, .int .u64 0, .int .u64 0], []⟩ 8 (by kernel_rfl) (by kernel_rfl) (by kernel_rfl) (by kernel_rfl)) ?_
  intro W base args ds gs before hval hW _ _
  exact contract H enc W base args ds gs before hval hW

theorem proved : Rows.ImageTablesSaid :=
  OpenClaim.holds_of_wide 6 Tryz.f6 rfl rfl rfl rfl rfl rfl rfl ⟨rfl, rfl, rfl, rfl, rfl⟩ rfl rfl rfl rfl rfl (by kernel_rfl) Tryz.func6 (by kernel_rfl)
    (of_decide_eq_true (by kernel_rfl)) (by unfold Func.isWrapper; first | (rw [if_pos (by decide +kernel)]; kernel_rfl) | (rw [if_neg (by decide +kernel)]; exact ⟨rfl, rfl⟩))
    (fun os started H enc _ => lifted os started H enc)
end Go.Proofs.YtdfjbnonibcmeaaGreat.imageTables
