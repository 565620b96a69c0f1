/-
  The tables of the walks: what the evaluator is told of the program; printed by a program of this repo. No condition.
-/
import Derived.Test.YtlbilaaofmnbfaaProg
import Derived.Test.YtlbilaaofmnbfaaReg
import Derived.Test.YtlbilaaofmnbfaaS
namespace Dm
open Go Go.RowKit Go.Proofs

def tb : Tb := ⟨[(2, .int .i64), (3, .int .i64), (4, .bool), (5, .int .u8), (9, .string), (22, .int .u64), (25, .struct #[⟨ "Kind", 3, 0, false, "", "", 0⟩, ⟨ "Entry", 22, 1, false, "", "", 8⟩, ⟨ "Segs", 22, 2, false, "", "", 16⟩, ⟨ "Count", 3, 3, false, "", "", 24⟩]), (26, .slice 5), (31, .struct #[⟨ "Kind", 3, 0, false, "", "", 0⟩, ⟨ "Entry", 22, 1, false, "", "", 8⟩, ⟨ "Segs", 22, 2, false, "", "", 16⟩, ⟨ "Count", 3, 3, false, "", "", 24⟩]), (34, .slice 3), (41, .int .u16), (42, .int .u64), (44, .int .u32), (46, .struct #[⟨ "Off", 22, 0, false, "", "", 0⟩, ⟨ "Type", 44, 1, false, "", "", 8⟩, ⟨ "Sym", 44, 2, false, "", "", 12⟩, ⟨ "Add", 2, 3, false, "", "", 16⟩]), (48, .slice 46), (62, .struct #[⟨ "size", 3, 0, false, "", "dormouse/head", 0⟩, ⟨ "value", 22, 1, false, "", "dormouse/head", 8⟩]), (67, .array 3 22), (71, .slice 62)],
  [(2, .int .i64 0, 1, 8), (3, .int .i64 0, 1, 8), (4, .bool false, 1, 1), (5, .int .u8 0, 1, 1), (9, .string ⟨#[]⟩, 1, 16), (22, .int .u64 0, 1, 8), (25, .agg #[.int .i64 0, .int .u64 0, .int .u64 0, .int .i64 0], 4, 32), (26, .slice none 0 0, 1, 24), (31, .agg #[.int .i64 0, .int .u64 0, .int .u64 0, .int .i64 0], 4, 32), (34, .slice none 0 0, 1, 24), (41, .int .u16 0, 1, 2), (42, .int .u64 0, 1, 8), (44, .int .u32 0, 1, 4), (46, .agg #[.int .u64 0, .int .u32 0, .int .u32 0, .int .i64 0], 4, 24), (48, .slice none 0 0, 1, 24), (62, .agg #[.int .i64 0, .int .u64 0], 2, 16), (67, .agg #[.int .u64 0, .int .u64 0, .int .u64 0], 3, 24), (71, .slice none 0 0, 1, 24)], [25, 31, 46]⟩
theorem u2 : asc tb.und 2 = some (.int .i64) := by kernel_rfl
theorem u3 : asc tb.und 3 = some (.int .i64) := by kernel_rfl
theorem u4 : asc tb.und 4 = some (.bool) := by kernel_rfl
theorem u5 : asc tb.und 5 = some (.int .u8) := by kernel_rfl
theorem u9 : asc tb.und 9 = some (.string) := by kernel_rfl
theorem u22 : asc tb.und 22 = some (.int .u64) := by kernel_rfl
theorem u25 : asc tb.und 25 = some (.struct #[⟨ "Kind", 3, 0, false, "", "", 0⟩, ⟨ "Entry", 22, 1, false, "", "", 8⟩, ⟨ "Segs", 22, 2, false, "", "", 16⟩, ⟨ "Count", 3, 3, false, "", "", 24⟩]) := by kernel_rfl
theorem u26 : asc tb.und 26 = some (.slice 5) := by kernel_rfl
theorem u31 : asc tb.und 31 = some (.struct #[⟨ "Kind", 3, 0, false, "", "", 0⟩, ⟨ "Entry", 22, 1, false, "", "", 8⟩, ⟨ "Segs", 22, 2, false, "", "", 16⟩, ⟨ "Count", 3, 3, false, "", "", 24⟩]) := by kernel_rfl
theorem u34 : asc tb.und 34 = some (.slice 3) := by kernel_rfl
theorem u41 : asc tb.und 41 = some (.int .u16) := by kernel_rfl
theorem u42 : asc tb.und 42 = some (.int .u64) := by kernel_rfl
theorem u44 : asc tb.und 44 = some (.int .u32) := by kernel_rfl
theorem u46 : asc tb.und 46 = some (.struct #[⟨ "Off", 22, 0, false, "", "", 0⟩, ⟨ "Type", 44, 1, false, "", "", 8⟩, ⟨ "Sym", 44, 2, false, "", "", 12⟩, ⟨ "Add", 2, 3, false, "", "", 16⟩]) := by kernel_rfl
theorem u48 : asc tb.und 48 = some (.slice 46) := by kernel_rfl
theorem u62 : asc tb.und 62 = some (.struct #[⟨ "size", 3, 0, false, "", "dormouse/head", 0⟩, ⟨ "value", 22, 1, false, "", "dormouse/head", 8⟩]) := by kernel_rfl
theorem u67 : asc tb.und 67 = some (.array 3 22) := by kernel_rfl
theorem u71 : asc tb.und 71 = some (.slice 62) := by kernel_rfl
theorem i2 : asc tb.info 2 = some (.int .i64 0, 1, 8) := by kernel_rfl
theorem i3 : asc tb.info 3 = some (.int .i64 0, 1, 8) := by kernel_rfl
theorem i4 : asc tb.info 4 = some (.bool false, 1, 1) := by kernel_rfl
theorem i5 : asc tb.info 5 = some (.int .u8 0, 1, 1) := by kernel_rfl
theorem i9 : asc tb.info 9 = some (.string ⟨#[]⟩, 1, 16) := by kernel_rfl
theorem i22 : asc tb.info 22 = some (.int .u64 0, 1, 8) := by kernel_rfl
theorem i25 : asc tb.info 25 = some (.agg #[.int .i64 0, .int .u64 0, .int .u64 0, .int .i64 0], 4, 32) := by kernel_rfl
theorem i26 : asc tb.info 26 = some (.slice none 0 0, 1, 24) := by kernel_rfl
theorem i31 : asc tb.info 31 = some (.agg #[.int .i64 0, .int .u64 0, .int .u64 0, .int .i64 0], 4, 32) := by kernel_rfl
theorem i34 : asc tb.info 34 = some (.slice none 0 0, 1, 24) := by kernel_rfl
theorem i41 : asc tb.info 41 = some (.int .u16 0, 1, 2) := by kernel_rfl
theorem i42 : asc tb.info 42 = some (.int .u64 0, 1, 8) := by kernel_rfl
theorem i44 : asc tb.info 44 = some (.int .u32 0, 1, 4) := by kernel_rfl
theorem i46 : asc tb.info 46 = some (.agg #[.int .u64 0, .int .u32 0, .int .u32 0, .int .i64 0], 4, 24) := by kernel_rfl
theorem i48 : asc tb.info 48 = some (.slice none 0 0, 1, 24) := by kernel_rfl
theorem i62 : asc tb.info 62 = some (.agg #[.int .i64 0, .int .u64 0], 2, 16) := by kernel_rfl
theorem i67 : asc tb.info 67 = some (.agg #[.int .u64 0, .int .u64 0, .int .u64 0], 3, 24) := by kernel_rfl
theorem i71 : asc tb.info 71 = some (.slice none 0 0, 1, 24) := by kernel_rfl
theorem tbOk : TbOk Try.prog tb where
  und := by
    intro p hp
    simp only [tb, List.mem_cons, List.not_mem_nil, or_false] at hp
    rcases hp with rfl | rfl | rfl | rfl | rfl | rfl | rfl | rfl | rfl | rfl | rfl | rfl | rfl | rfl | rfl | rfl | rfl | rfl
    · exact Try.underlying2
    · exact Try.underlying3
    · exact Try.underlying4
    · exact Try.underlying5
    · exact Try.underlying9
    · exact Try.underlying22
    · exact Try.underlying25
    · exact Try.underlying26
    · exact Try.underlying31
    · exact Try.underlying34
    · exact Try.underlying41
    · exact Try.underlying42
    · exact Try.underlying44
    · exact Try.underlying46
    · exact Try.underlying48
    · exact Try.underlying62
    · exact Try.underlying67
    · exact Try.underlying71
  info := by
    intro p hp
    simp only [tb, List.mem_cons, List.not_mem_nil, or_false] at hp
    rcases hp with rfl | rfl | rfl | rfl | rfl | rfl | rfl | rfl | rfl | rfl | rfl | rfl | rfl | rfl | rfl | rfl | rfl | rfl
    · kernel_rfl
    · kernel_rfl
    · kernel_rfl
    · kernel_rfl
    · kernel_rfl
    · kernel_rfl
    · kernel_rfl
    · kernel_rfl
    · kernel_rfl
    · kernel_rfl
    · kernel_rfl
    · kernel_rfl
    · kernel_rfl
    · kernel_rfl
    · kernel_rfl
    · kernel_rfl
    · kernel_rfl
    · kernel_rfl
  ag := by
    intro t ht
    simp only [tb, List.mem_cons, List.not_mem_nil, or_false] at ht
    rcases ht with rfl | rfl | rfl
    · exact ⟨by kernel_rfl, by kernel_rfl⟩
    · exact ⟨by kernel_rfl, by kernel_rfl⟩
    · exact ⟨by kernel_rfl, by kernel_rfl⟩
def ty61 : Ty (Int × Int) := tF 2 (fun x => [.int .i64 x.1, .int .u64 x.2]) (fun _ => rfl) (fun x => allOne_ok (l := [.int .i64 x.1, .int .u64 x.2]) rfl)
theorem flat61 : Flat ty61 := flat_tF
def ty45 : Ty (Int × Int × Int × Int) := tF 4 (fun x => [.int .u64 x.1, .int .u32 x.2.1, .int .u32 x.2.2.1, .int .i64 x.2.2.2]) (fun _ => rfl) (fun x => allOne_ok (l := [.int .u64 x.1, .int .u32 x.2.1, .int .u32 x.2.2.1, .int .i64 x.2.2.2]) rfl)
theorem flat45 : Flat ty45 := flat_tF
theorem ent13 : Ent Try.prog 13 := ⟨_, Try.func13, by kernel_rfl, by kernel_rfl⟩
theorem ent14 : Ent Try.prog 14 := ⟨_, Try.func14, by kernel_rfl, by kernel_rfl⟩
theorem ent15 : Ent Try.prog 15 := ⟨_, Try.func15, by kernel_rfl, by kernel_rfl⟩
theorem ent16 : Ent Try.prog 16 := ⟨_, Try.func16, by kernel_rfl, by kernel_rfl⟩
theorem ent17 : Ent Try.prog 17 := ⟨_, Try.func17, by kernel_rfl, by kernel_rfl⟩
theorem ent18 : Ent Try.prog 18 := ⟨_, Try.func18, by kernel_rfl, by kernel_rfl⟩
theorem ent19 : Ent Try.prog 19 := ⟨_, Try.func19, by kernel_rfl, by kernel_rfl⟩
theorem ent20 : Ent Try.prog 20 := ⟨_, Try.func20, by kernel_rfl, by kernel_rfl⟩
theorem ent21 : Ent Try.prog 21 := ⟨_, Try.func21, by kernel_rfl, by kernel_rfl⟩
theorem ent22 : Ent Try.prog 22 := ⟨_, Try.func22, by kernel_rfl, by kernel_rfl⟩
theorem ent23 : Ent Try.prog 23 := ⟨_, Try.func23, by kernel_rfl, by kernel_rfl⟩
theorem ent24 : Ent Try.prog 24 := ⟨_, Try.func24, by kernel_rfl, by kernel_rfl⟩
theorem ent25 : Ent Try.prog 25 := ⟨_, Try.func25, by kernel_rfl, by kernel_rfl⟩
theorem ent26 : Ent Try.prog 26 := ⟨_, Try.func26, by kernel_rfl, by kernel_rfl⟩
theorem ent27 : Ent Try.prog 27 := ⟨_, Try.func27, by kernel_rfl, by kernel_rfl⟩
theorem ent28 : Ent Try.prog 28 := ⟨_, Try.func28, by kernel_rfl, by kernel_rfl⟩
theorem ent29 : Ent Try.prog 29 := ⟨_, Try.func29, by kernel_rfl, by kernel_rfl⟩
theorem ent30 : Ent Try.prog 30 := ⟨_, Try.func30, by kernel_rfl, by kernel_rfl⟩
theorem ent31 : Ent Try.prog 31 := ⟨_, Try.func31, by kernel_rfl, by kernel_rfl⟩
theorem ent32 : Ent Try.prog 32 := ⟨_, Try.func32, by kernel_rfl, by kernel_rfl⟩
theorem ent33 : Ent Try.prog 33 := ⟨_, Try.func33, by kernel_rfl, by kernel_rfl⟩
theorem ent34 : Ent Try.prog 34 := ⟨_, Try.func34, by kernel_rfl, by kernel_rfl⟩
theorem ent35 : Ent Try.prog 35 := ⟨_, Try.func35, by kernel_rfl, by kernel_rfl⟩
theorem ent36 : Ent Try.prog 36 := ⟨_, Try.func36, by kernel_rfl, by kernel_rfl⟩
theorem ent37 : Ent Try.prog 37 := ⟨_, Try.func37, by kernel_rfl, by kernel_rfl⟩
theorem ent38 : Ent Try.prog 38 := ⟨_, Try.func38, by kernel_rfl, by kernel_rfl⟩
theorem ent39 : Ent Try.prog 39 := ⟨_, Try.func39, by kernel_rfl, by kernel_rfl⟩
theorem ent40 : Ent Try.prog 40 := ⟨_, Try.func40, by kernel_rfl, by kernel_rfl⟩
theorem ent41 : Ent Try.prog 41 := ⟨_, Try.func41, by kernel_rfl, by kernel_rfl⟩
theorem ent42 : Ent Try.prog 42 := ⟨_, Try.func42, by kernel_rfl, by kernel_rfl⟩
theorem mixed : Try.prog.follows .mixedOrders = true := by kernel_rfl

end Dm
