/-
  ImageBack returns true for every input, and each argument reads behind the call as before it. No condition.
-/
import Derived.Test.YtdfjbnonibcmeaaRows
import Derived.Test.YtdfjbnonibcmeaaT4
namespace Go.Proofs.Ytdfjbnonibcmeaa.imageBack
open Go Go.ChangeShapes Go.WideShapes Go.ChangeAt Go.RowKit Dm

theorem rd44 {H : Type} {enc : TypeId × Value → H} {w : World} : Rd enc Try.prog w 44 (TC.ty (.pr .s (.pr (.i .i64) (.pr (.i .u64) .b)))) (fun x => (x.1.length ≤ 9223372036854775807 ∧ InK .i64 x.2.1 ∧ InK .u64 x.2.2.1 ∧ True)) := by
  intro fuel cs x h
  obtain ⟨xs, n, rfl, _, hl, hxl, hf⟩ := DataW.trod_struct Try.underlying44 h
  have hl : cs.length = 4 := hl.trans (by kernel_rfl : Try.prog.cellsOf 44 = 4)
  obtain ⟨y0, h0⟩ := rd_get hxl hf 0 _ rfl
  obtain ⟨a0, r0, w0⟩ := (rd_str Try.underlying9) _ _ _ h0
  have q0 : (TC.ty .s).rep (hp w) a0 ((cs.drop 0).take 1) := by
    have e : (cs.drop 0).take (Try.prog.cellsOf 9) = (cs.drop 0).take 1 := congrArg (fun s => (cs.drop 0).take s) (show Try.prog.cellsOf 9 = 1 from by kernel_rfl)
    rw [← e]; exact r0
  obtain ⟨y1, h1⟩ := rd_get hxl hf 1 _ rfl
  obtain ⟨a1, r1, w1⟩ := (rd_int Try.underlying3) _ _ _ h1
  have q1 : (TC.ty (.i .i64)).rep (hp w) a1 ((cs.drop 1).take 1) := by
    have e : (cs.drop 1).take (Try.prog.cellsOf 3) = (cs.drop 1).take 1 := congrArg (fun s => (cs.drop 1).take s) (show Try.prog.cellsOf 3 = 1 from by kernel_rfl)
    rw [← e]; exact r1
  obtain ⟨y2, h2⟩ := rd_get hxl hf 2 _ rfl
  obtain ⟨a2, r2, w2⟩ := (rd_int Try.underlying23) _ _ _ h2
  have q2 : (TC.ty (.i .u64)).rep (hp w) a2 ((cs.drop 2).take 1) := by
    have e : (cs.drop 2).take (Try.prog.cellsOf 23) = (cs.drop 2).take 1 := congrArg (fun s => (cs.drop 2).take s) (show Try.prog.cellsOf 23 = 1 from by kernel_rfl)
    rw [← e]; exact r2
  obtain ⟨y3, h3⟩ := rd_get hxl hf 3 _ rfl
  obtain ⟨a3, r3, w3⟩ := (rd_bool Try.underlying4) _ _ _ h3
  have q3 : (TC.ty .b).rep (hp w) a3 ((cs.drop 3).take 1) := by
    have e : (cs.drop 3).take (Try.prog.cellsOf 4) = (cs.drop 3).take 1 := congrArg (fun s => (cs.drop 3).take s) (show Try.prog.cellsOf 4 = 1 from by kernel_rfl)
    rw [← e]; exact r3
  have e3 : (TC.ty .b).rep (hp w) a3 (cs.drop 3) := by
    rw [List.take_of_length_le (by rw [List.length_drop]; omega)] at q3; exact q3
  have e2 : (TC.ty (.pr (.i .u64) .b)).rep (hp w) (a2, a3) (cs.drop 2) := tPr_mk 1 q2 (by rw [List.drop_drop]; exact e3)
  have e1 : (TC.ty (.pr (.i .i64) (.pr (.i .u64) .b))).rep (hp w) (a1, a2, a3) (cs.drop 1) := tPr_mk 1 q1 (by rw [List.drop_drop]; exact e2)
  have e0 : (TC.ty (.pr .s (.pr (.i .i64) (.pr (.i .u64) .b)))).rep (hp w) (a0, a1, a2, a3) (cs.drop 0) := tPr_mk 1 q0 (by rw [List.drop_drop]; exact e1)
  exact ⟨(a0, a1, a2, a3), e0, ⟨w0, w1, w2, w3⟩⟩
theorem rd79 {H : Type} {enc : TypeId × Value → H} {w : World} : Rd enc Try.prog w 79 (TC.ty (.pr (.i .i64) (.pr (.i .u64) (.pr (.i .u32) (.pr (.i .i64) (.i .i64)))))) (fun x => (InK .i64 x.1 ∧ InK .u64 x.2.1 ∧ InK .u32 x.2.2.1 ∧ InK .i64 x.2.2.2.1 ∧ InK .i64 x.2.2.2.2)) := by
  intro fuel cs x h
  obtain ⟨xs, n, rfl, _, hl, hxl, hf⟩ := DataW.trod_struct Try.underlying79 h
  have hl : cs.length = 5 := hl.trans (by kernel_rfl : Try.prog.cellsOf 79 = 5)
  obtain ⟨y0, h0⟩ := rd_get hxl hf 0 _ rfl
  obtain ⟨a0, r0, w0⟩ := (rd_int Try.underlying3) _ _ _ h0
  have q0 : (TC.ty (.i .i64)).rep (hp w) a0 ((cs.drop 0).take 1) := by
    have e : (cs.drop 0).take (Try.prog.cellsOf 3) = (cs.drop 0).take 1 := congrArg (fun s => (cs.drop 0).take s) (show Try.prog.cellsOf 3 = 1 from by kernel_rfl)
    rw [← e]; exact r0
  obtain ⟨y1, h1⟩ := rd_get hxl hf 1 _ rfl
  obtain ⟨a1, r1, w1⟩ := (rd_int Try.underlying23) _ _ _ h1
  have q1 : (TC.ty (.i .u64)).rep (hp w) a1 ((cs.drop 1).take 1) := by
    have e : (cs.drop 1).take (Try.prog.cellsOf 23) = (cs.drop 1).take 1 := congrArg (fun s => (cs.drop 1).take s) (show Try.prog.cellsOf 23 = 1 from by kernel_rfl)
    rw [← e]; exact r1
  obtain ⟨y2, h2⟩ := rd_get hxl hf 2 _ rfl
  obtain ⟨a2, r2, w2⟩ := (rd_int Try.underlying46) _ _ _ h2
  have q2 : (TC.ty (.i .u32)).rep (hp w) a2 ((cs.drop 2).take 1) := by
    have e : (cs.drop 2).take (Try.prog.cellsOf 46) = (cs.drop 2).take 1 := congrArg (fun s => (cs.drop 2).take s) (show Try.prog.cellsOf 46 = 1 from by kernel_rfl)
    rw [← e]; exact r2
  obtain ⟨y3, h3⟩ := rd_get hxl hf 3 _ rfl
  obtain ⟨a3, r3, w3⟩ := (rd_int Try.underlying3) _ _ _ h3
  have q3 : (TC.ty (.i .i64)).rep (hp w) a3 ((cs.drop 3).take 1) := by
    have e : (cs.drop 3).take (Try.prog.cellsOf 3) = (cs.drop 3).take 1 := congrArg (fun s => (cs.drop 3).take s) (show Try.prog.cellsOf 3 = 1 from by kernel_rfl)
    rw [← e]; exact r3
  obtain ⟨y4, h4⟩ := rd_get hxl hf 4 _ rfl
  obtain ⟨a4, r4, w4⟩ := (rd_int Try.underlying2) _ _ _ h4
  have q4 : (TC.ty (.i .i64)).rep (hp w) a4 ((cs.drop 4).take 1) := by
    have e : (cs.drop 4).take (Try.prog.cellsOf 2) = (cs.drop 4).take 1 := congrArg (fun s => (cs.drop 4).take s) (show Try.prog.cellsOf 2 = 1 from by kernel_rfl)
    rw [← e]; exact r4
  have e4 : (TC.ty (.i .i64)).rep (hp w) a4 (cs.drop 4) := by
    rw [List.take_of_length_le (by rw [List.length_drop]; omega)] at q4; exact q4
  have e3 : (TC.ty (.pr (.i .i64) (.i .i64))).rep (hp w) (a3, a4) (cs.drop 3) := tPr_mk 1 q3 (by rw [List.drop_drop]; exact e4)
  have e2 : (TC.ty (.pr (.i .u32) (.pr (.i .i64) (.i .i64)))).rep (hp w) (a2, a3, a4) (cs.drop 2) := tPr_mk 1 q2 (by rw [List.drop_drop]; exact e3)
  have e1 : (TC.ty (.pr (.i .u64) (.pr (.i .u32) (.pr (.i .i64) (.i .i64))))).rep (hp w) (a1, a2, a3, a4) (cs.drop 1) := tPr_mk 1 q1 (by rw [List.drop_drop]; exact e2)
  have e0 : (TC.ty (.pr (.i .i64) (.pr (.i .u64) (.pr (.i .u32) (.pr (.i .i64) (.i .i64)))))).rep (hp w) (a0, a1, a2, a3, a4) (cs.drop 0) := tPr_mk 1 q0 (by rw [List.drop_drop]; exact e1)
  exact ⟨(a0, a1, a2, a3, a4), e0, ⟨w0, w1, w2, w3, w4⟩⟩
theorem rd28 {H : Type} {enc : TypeId × Value → H} {w : World} : Rd enc Try.prog w 28 (TC.ty (.pr (.i .i64) (.pr .s (.pr (.sl none .s) (.pr (.i .u64) (.pr (.sl none (.i .u8)) (.pr (.sl none (.i .u8)) (.pr (.i .u64) (.pr (.sl none (.i .u8)) (.pr (.i .u64) (.pr (.sl none (.pr .s (.pr (.i .i64) (.pr (.i .u64) .b)))) (.sl none (.pr (.i .i64) (.pr (.i .u64) (.pr (.i .u32) (.pr (.i .i64) (.i .i64))))))))))))))))) (fun x => (InK .i64 x.1 ∧ x.2.1.length ≤ 9223372036854775807 ∧ (x.2.2.1.length ≤ 9223372036854775807 ∧ ∀ y0 ∈ x.2.2.1, y0.length ≤ 9223372036854775807) ∧ InK .u64 x.2.2.2.1 ∧ (x.2.2.2.2.1.length ≤ 9223372036854775807 ∧ ∀ y0 ∈ x.2.2.2.2.1, InK .u8 y0) ∧ (x.2.2.2.2.2.1.length ≤ 9223372036854775807 ∧ ∀ y0 ∈ x.2.2.2.2.2.1, InK .u8 y0) ∧ InK .u64 x.2.2.2.2.2.2.1 ∧ (x.2.2.2.2.2.2.2.1.length ≤ 9223372036854775807 ∧ ∀ y0 ∈ x.2.2.2.2.2.2.2.1, InK .u8 y0) ∧ InK .u64 x.2.2.2.2.2.2.2.2.1 ∧ (x.2.2.2.2.2.2.2.2.2.1.length ≤ 9223372036854775807 ∧ ∀ y0 ∈ x.2.2.2.2.2.2.2.2.2.1, (y0.1.length ≤ 9223372036854775807 ∧ InK .i64 y0.2.1 ∧ InK .u64 y0.2.2.1 ∧ True)) ∧ (x.2.2.2.2.2.2.2.2.2.2.length ≤ 9223372036854775807 ∧ ∀ y0 ∈ x.2.2.2.2.2.2.2.2.2.2, (InK .i64 y0.1 ∧ InK .u64 y0.2.1 ∧ InK .u32 y0.2.2.1 ∧ InK .i64 y0.2.2.2.1 ∧ InK .i64 y0.2.2.2.2)))) := by
  intro fuel cs x h
  obtain ⟨xs, n, rfl, _, hl, hxl, hf⟩ := DataW.trod_struct Try.underlying28 h
  have hl : cs.length = 11 := hl.trans (by kernel_rfl : Try.prog.cellsOf 28 = 11)
  obtain ⟨y0, h0⟩ := rd_get hxl hf 0 _ rfl
  obtain ⟨a0, r0, w0⟩ := (rd_int Try.underlying3) _ _ _ h0
  have q0 : (TC.ty (.i .i64)).rep (hp w) a0 ((cs.drop 0).take 1) := by
    have e : (cs.drop 0).take (Try.prog.cellsOf 3) = (cs.drop 0).take 1 := congrArg (fun s => (cs.drop 0).take s) (show Try.prog.cellsOf 3 = 1 from by kernel_rfl)
    rw [← e]; exact r0
  obtain ⟨y1, h1⟩ := rd_get hxl hf 1 _ rfl
  obtain ⟨a1, r1, w1⟩ := (rd_str Try.underlying9) _ _ _ h1
  have q1 : (TC.ty .s).rep (hp w) a1 ((cs.drop 1).take 1) := by
    have e : (cs.drop 1).take (Try.prog.cellsOf 9) = (cs.drop 1).take 1 := congrArg (fun s => (cs.drop 1).take s) (show Try.prog.cellsOf 9 = 1 from by kernel_rfl)
    rw [← e]; exact r1
  obtain ⟨y2, h2⟩ := rd_get hxl hf 2 _ rfl
  obtain ⟨a2, r2, w2⟩ := (rd_slice Try.underlying22 (by kernel_rfl) (rd_str Try.underlying9)) _ _ _ h2
  have q2 : (TC.ty (.sl none .s)).rep (hp w) a2 ((cs.drop 2).take 1) := by
    have e : (cs.drop 2).take (Try.prog.cellsOf 22) = (cs.drop 2).take 1 := congrArg (fun s => (cs.drop 2).take s) (show Try.prog.cellsOf 22 = 1 from by kernel_rfl)
    rw [← e]; exact r2
  obtain ⟨y3, h3⟩ := rd_get hxl hf 3 _ rfl
  obtain ⟨a3, r3, w3⟩ := (rd_int Try.underlying23) _ _ _ h3
  have q3 : (TC.ty (.i .u64)).rep (hp w) a3 ((cs.drop 3).take 1) := by
    have e : (cs.drop 3).take (Try.prog.cellsOf 23) = (cs.drop 3).take 1 := congrArg (fun s => (cs.drop 3).take s) (show Try.prog.cellsOf 23 = 1 from by kernel_rfl)
    rw [← e]; exact r3
  obtain ⟨y4, h4⟩ := rd_get hxl hf 4 _ rfl
  obtain ⟨a4, r4, w4⟩ := (rd_slice Try.underlying24 (by kernel_rfl) (rd_int Try.underlying5)) _ _ _ h4
  have q4 : (TC.ty (.sl none (.i .u8))).rep (hp w) a4 ((cs.drop 4).take 1) := by
    have e : (cs.drop 4).take (Try.prog.cellsOf 24) = (cs.drop 4).take 1 := congrArg (fun s => (cs.drop 4).take s) (show Try.prog.cellsOf 24 = 1 from by kernel_rfl)
    rw [← e]; exact r4
  obtain ⟨y5, h5⟩ := rd_get hxl hf 5 _ rfl
  obtain ⟨a5, r5, w5⟩ := (rd_slice Try.underlying24 (by kernel_rfl) (rd_int Try.underlying5)) _ _ _ h5
  have q5 : (TC.ty (.sl none (.i .u8))).rep (hp w) a5 ((cs.drop 5).take 1) := by
    have e : (cs.drop 5).take (Try.prog.cellsOf 24) = (cs.drop 5).take 1 := congrArg (fun s => (cs.drop 5).take s) (show Try.prog.cellsOf 24 = 1 from by kernel_rfl)
    rw [← e]; exact r5
  obtain ⟨y6, h6⟩ := rd_get hxl hf 6 _ rfl
  obtain ⟨a6, r6, w6⟩ := (rd_int Try.underlying23) _ _ _ h6
  have q6 : (TC.ty (.i .u64)).rep (hp w) a6 ((cs.drop 6).take 1) := by
    have e : (cs.drop 6).take (Try.prog.cellsOf 23) = (cs.drop 6).take 1 := congrArg (fun s => (cs.drop 6).take s) (show Try.prog.cellsOf 23 = 1 from by kernel_rfl)
    rw [← e]; exact r6
  obtain ⟨y7, h7⟩ := rd_get hxl hf 7 _ rfl
  obtain ⟨a7, r7, w7⟩ := (rd_slice Try.underlying24 (by kernel_rfl) (rd_int Try.underlying5)) _ _ _ h7
  have q7 : (TC.ty (.sl none (.i .u8))).rep (hp w) a7 ((cs.drop 7).take 1) := by
    have e : (cs.drop 7).take (Try.prog.cellsOf 24) = (cs.drop 7).take 1 := congrArg (fun s => (cs.drop 7).take s) (show Try.prog.cellsOf 24 = 1 from by kernel_rfl)
    rw [← e]; exact r7
  obtain ⟨y8, h8⟩ := rd_get hxl hf 8 _ rfl
  obtain ⟨a8, r8, w8⟩ := (rd_int Try.underlying23) _ _ _ h8
  have q8 : (TC.ty (.i .u64)).rep (hp w) a8 ((cs.drop 8).take 1) := by
    have e : (cs.drop 8).take (Try.prog.cellsOf 23) = (cs.drop 8).take 1 := congrArg (fun s => (cs.drop 8).take s) (show Try.prog.cellsOf 23 = 1 from by kernel_rfl)
    rw [← e]; exact r8
  obtain ⟨y9, h9⟩ := rd_get hxl hf 9 _ rfl
  obtain ⟨a9, r9, w9⟩ := (rd_slice Try.underlying25 (by kernel_rfl) rd44) _ _ _ h9
  have q9 : (TC.ty (.sl none (.pr .s (.pr (.i .i64) (.pr (.i .u64) .b))))).rep (hp w) a9 ((cs.drop 9).take 1) := by
    have e : (cs.drop 9).take (Try.prog.cellsOf 25) = (cs.drop 9).take 1 := congrArg (fun s => (cs.drop 9).take s) (show Try.prog.cellsOf 25 = 1 from by kernel_rfl)
    rw [← e]; exact r9
  obtain ⟨y10, h10⟩ := rd_get hxl hf 10 _ rfl
  obtain ⟨a10, r10, w10⟩ := (rd_slice Try.underlying26 (by kernel_rfl) rd79) _ _ _ h10
  have q10 : (TC.ty (.sl none (.pr (.i .i64) (.pr (.i .u64) (.pr (.i .u32) (.pr (.i .i64) (.i .i64))))))).rep (hp w) a10 ((cs.drop 10).take 1) := by
    have e : (cs.drop 10).take (Try.prog.cellsOf 26) = (cs.drop 10).take 1 := congrArg (fun s => (cs.drop 10).take s) (show Try.prog.cellsOf 26 = 1 from by kernel_rfl)
    rw [← e]; exact r10
  have e10 : (TC.ty (.sl none (.pr (.i .i64) (.pr (.i .u64) (.pr (.i .u32) (.pr (.i .i64) (.i .i64))))))).rep (hp w) a10 (cs.drop 10) := by
    rw [List.take_of_length_le (by rw [List.length_drop]; omega)] at q10; exact q10
  have e9 : (TC.ty (.pr (.sl none (.pr .s (.pr (.i .i64) (.pr (.i .u64) .b)))) (.sl none (.pr (.i .i64) (.pr (.i .u64) (.pr (.i .u32) (.pr (.i .i64) (.i .i64)))))))).rep (hp w) (a9, a10) (cs.drop 9) := tPr_mk 1 q9 (by rw [List.drop_drop]; exact e10)
  have e8 : (TC.ty (.pr (.i .u64) (.pr (.sl none (.pr .s (.pr (.i .i64) (.pr (.i .u64) .b)))) (.sl none (.pr (.i .i64) (.pr (.i .u64) (.pr (.i .u32) (.pr (.i .i64) (.i .i64))))))))).rep (hp w) (a8, a9, a10) (cs.drop 8) := tPr_mk 1 q8 (by rw [List.drop_drop]; exact e9)
  have e7 : (TC.ty (.pr (.sl none (.i .u8)) (.pr (.i .u64) (.pr (.sl none (.pr .s (.pr (.i .i64) (.pr (.i .u64) .b)))) (.sl none (.pr (.i .i64) (.pr (.i .u64) (.pr (.i .u32) (.pr (.i .i64) (.i .i64)))))))))).rep (hp w) (a7, a8, a9, a10) (cs.drop 7) := tPr_mk 1 q7 (by rw [List.drop_drop]; exact e8)
  have e6 : (TC.ty (.pr (.i .u64) (.pr (.sl none (.i .u8)) (.pr (.i .u64) (.pr (.sl none (.pr .s (.pr (.i .i64) (.pr (.i .u64) .b)))) (.sl none (.pr (.i .i64) (.pr (.i .u64) (.pr (.i .u32) (.pr (.i .i64) (.i .i64))))))))))).rep (hp w) (a6, a7, a8, a9, a10) (cs.drop 6) := tPr_mk 1 q6 (by rw [List.drop_drop]; exact e7)
  have e5 : (TC.ty (.pr (.sl none (.i .u8)) (.pr (.i .u64) (.pr (.sl none (.i .u8)) (.pr (.i .u64) (.pr (.sl none (.pr .s (.pr (.i .i64) (.pr (.i .u64) .b)))) (.sl none (.pr (.i .i64) (.pr (.i .u64) (.pr (.i .u32) (.pr (.i .i64) (.i .i64)))))))))))).rep (hp w) (a5, a6, a7, a8, a9, a10) (cs.drop 5) := tPr_mk 1 q5 (by rw [List.drop_drop]; exact e6)
  have e4 : (TC.ty (.pr (.sl none (.i .u8)) (.pr (.sl none (.i .u8)) (.pr (.i .u64) (.pr (.sl none (.i .u8)) (.pr (.i .u64) (.pr (.sl none (.pr .s (.pr (.i .i64) (.pr (.i .u64) .b)))) (.sl none (.pr (.i .i64) (.pr (.i .u64) (.pr (.i .u32) (.pr (.i .i64) (.i .i64))))))))))))).rep (hp w) (a4, a5, a6, a7, a8, a9, a10) (cs.drop 4) := tPr_mk 1 q4 (by rw [List.drop_drop]; exact e5)
  have e3 : (TC.ty (.pr (.i .u64) (.pr (.sl none (.i .u8)) (.pr (.sl none (.i .u8)) (.pr (.i .u64) (.pr (.sl none (.i .u8)) (.pr (.i .u64) (.pr (.sl none (.pr .s (.pr (.i .i64) (.pr (.i .u64) .b)))) (.sl none (.pr (.i .i64) (.pr (.i .u64) (.pr (.i .u32) (.pr (.i .i64) (.i .i64)))))))))))))).rep (hp w) (a3, a4, a5, a6, a7, a8, a9, a10) (cs.drop 3) := tPr_mk 1 q3 (by rw [List.drop_drop]; exact e4)
  have e2 : (TC.ty (.pr (.sl none .s) (.pr (.i .u64) (.pr (.sl none (.i .u8)) (.pr (.sl none (.i .u8)) (.pr (.i .u64) (.pr (.sl none (.i .u8)) (.pr (.i .u64) (.pr (.sl none (.pr .s (.pr (.i .i64) (.pr (.i .u64) .b)))) (.sl none (.pr (.i .i64) (.pr (.i .u64) (.pr (.i .u32) (.pr (.i .i64) (.i .i64))))))))))))))).rep (hp w) (a2, a3, a4, a5, a6, a7, a8, a9, a10) (cs.drop 2) := tPr_mk 1 q2 (by rw [List.drop_drop]; exact e3)
  have e1 : (TC.ty (.pr .s (.pr (.sl none .s) (.pr (.i .u64) (.pr (.sl none (.i .u8)) (.pr (.sl none (.i .u8)) (.pr (.i .u64) (.pr (.sl none (.i .u8)) (.pr (.i .u64) (.pr (.sl none (.pr .s (.pr (.i .i64) (.pr (.i .u64) .b)))) (.sl none (.pr (.i .i64) (.pr (.i .u64) (.pr (.i .u32) (.pr (.i .i64) (.i .i64)))))))))))))))).rep (hp w) (a1, a2, a3, a4, a5, a6, a7, a8, a9, a10) (cs.drop 1) := tPr_mk 1 q1 (by rw [List.drop_drop]; exact e2)
  have e0 : (TC.ty (.pr (.i .i64) (.pr .s (.pr (.sl none .s) (.pr (.i .u64) (.pr (.sl none (.i .u8)) (.pr (.sl none (.i .u8)) (.pr (.i .u64) (.pr (.sl none (.i .u8)) (.pr (.i .u64) (.pr (.sl none (.pr .s (.pr (.i .i64) (.pr (.i .u64) .b)))) (.sl none (.pr (.i .i64) (.pr (.i .u64) (.pr (.i .u32) (.pr (.i .i64) (.i .i64))))))))))))))))).rep (hp w) (a0, a1, a2, a3, a4, a5, a6, a7, a8, a9, a10) (cs.drop 0) := tPr_mk 1 q0 (by rw [List.drop_drop]; exact e1)
  exact ⟨(a0, a1, a2, a3, a4, a5, a6, a7, a8, a9, a10), e0, ⟨w0, w1, w2, w3, w4, w5, w6, w7, w8, w9, w10⟩⟩
theorem own : ownKnob Try.prog.godebug = none := by kernel_rfl
theorem laidOut : laidOutB Try.prog = true := by kernel_rfl
theorem readable : (Try.f3.params.toList.all fun t => Try.prog.readableRec t && decide (t < Try.prog.types.size)) = true := by kernel_rfl
set_option maxRecDepth 100000 in
theorem contract (H : Type) (enc : TypeId × Value → H) (W : World) (base : Nat) (args : Array Value) (ds gs : List (DataW H)) (before : List MemPlace)
    (hval : ∀ (j : Nat) t v, Try.f3.params[j]? = some t → args[j]? = some v → Value.okWide Try.prog W .any base t v)
    (hW : DataW.Whole enc Try.prog Try.f3.params.toList Rows.imageBackSpec.vars false W args.toList ds gs before) :
    Calls Try.prog 3 args W fun e W' => ∃ v, e = .returned v ∧ Rows.imageBackSpec.post enc Try.prog Try.f3 false true false false W args v W' := by
  have hW' := hW
  obtain ⟨p, q, hA0, hV, rfl, hfz, hnd⟩ := hW
  have hA : DataW.TrodAll enc Try.prog W 0 (fun _ => true) true Try.f3.params.toList args.toList ds p := hA0
  rw [Try.params3] at hA hval
  obtain ⟨v0, vs0, d0, ds0, p0, q0, hargs, rfl, rfl, k0, r0⟩ := trodAll_cons hA
  obtain ⟨rfl, rfl, rfl⟩ := trodAll_nil r0
  obtain rfl : args = #[v0] := by cases args; simp_all
  obtain ⟨rfl, rfl⟩ := trodVars_none hV
  obtain ⟨x0, c0, rfl, r0, wf0⟩ := arg_structH (j := 0) hval rfl rfl (t := TC.ty (.pr (.i .i64) (.pr .s (.pr (.sl none .s) (.pr (.i .u64) (.pr (.sl none (.i .u8)) (.pr (.sl none (.i .u8)) (.pr (.i .u64) (.pr (.sl none (.i .u8)) (.pr (.i .u64) (.pr (.sl none (.pr .s (.pr (.i .i64) (.pr (.i .u64) .b)))) (.sl none (.pr (.i .i64) (.pr (.i .u64) (.pr (.i .u32) (.pr (.i .i64) (.i .i64))))))))))))))))) Try.underlying28 rd28 k0
  have hA : ArgsR (hp W) [.v true c27] (x0, ()) [.agg c0.toArray] := ⟨_, _, rfl, ⟨rfl, c0, r0, rfl⟩, rfl⟩
  have hS : ct_law09_ImageBack.S (x0, ()) = some true := ImageBack_true wf0
  refine (Holds.law (vs := [.agg c0.toArray]) law09_ImageBack_ok hS hA).mono ?_
  rintro e W' ⟨v, he, hv, hx⟩
  subst hv
  exact ⟨_, he, law_post hW' laidOut rfl readable 4 rfl Try.underlying4 hx rfl rfl rfl⟩

set_option maxRecDepth 100000 in
theorem lifted (os : Os) (started : os.Started) (H : Type) (enc : TypeId × Value → H) :
    ReturnsInHanded {} Try.checked os 3 .any (Rows.imageBackSpec.pre6 enc Try.prog Try.f3 Rows.imageBackRow.domain false) (Rows.imageBackSpec.post enc Try.prog Try.f3 false true false false) := by
  refine returnsInHanded_of_change (C := Try.checked) own started (by kernel_rfl) Try.func3
    (ChangeSpec.witness6 (enc := enc) (C := Try.checked) false ⟨#[], #[.agg #[.int .i64 0, .string .empty, .slice none 0 0, .int .u64 0, .slice none 0 0, .slice none 0 0, .int .u64 0, .slice none 0 0, .int .u64 0, .slice none 0 0, .slice none 0 0]], []⟩ 8 (by kernel_rfl) (by kernel_rfl) (by kernel_rfl) (by kernel_rfl)) ?_
  intro W base args ds gs before hval hW _ _
  exact contract H enc W base args ds gs before hval hW

theorem proved : Rows.ImageBackSaid :=
  OpenClaim.holds_of_wide 3 Try.f3 rfl rfl rfl rfl rfl rfl rfl ⟨rfl, rfl, rfl, rfl, rfl⟩ rfl rfl rfl rfl rfl (by kernel_rfl) Try.func3 (by kernel_rfl)
    (of_decide_eq_true (by kernel_rfl)) (by unfold Func.isWrapper; first | (rw [if_pos (by decide +kernel)]; kernel_rfl) | (rw [if_neg (by decide +kernel)]; exact ⟨rfl, rfl⟩))
    (fun os started H enc _ => lifted os started H enc)
end Go.Proofs.Ytdfjbnonibcmeaa.imageBack
