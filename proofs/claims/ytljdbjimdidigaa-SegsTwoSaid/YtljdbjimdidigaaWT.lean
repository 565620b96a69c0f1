/-
  The tables of the walks: what the evaluator is told of the program; printed by a program of this repo. No condition.
-/
import Derived.Test.YtljdbjimdidigaaProg
import Derived.Test.YtljdbjimdidigaaReg
import Derived.Test.YtljdbjimdidigaaS
namespace Dm
open Go Go.RowKit Go.Proofs

def tb : Tb := ⟨[(3, .int .i64), (5, .int .u8), (9, .string), (22, .int .u32), (23, .int .u64), (25, .struct #[⟨ "Type", 22, 0, false, "", "", 0⟩, ⟨ "Flags", 22, 1, false, "", "", 4⟩, ⟨ "Off", 23, 2, false, "", "", 8⟩, ⟨ "Vaddr", 23, 3, false, "", "", 16⟩, ⟨ "File", 23, 4, false, "", "", 24⟩, ⟨ "Mem", 23, 5, false, "", "", 32⟩, ⟨ "Align", 23, 6, false, "", "", 40⟩]), (27, .slice 5), (33, .slice 25), (50, .int .u16), (52, .int .u64), (53, .slice 23), (56, .array 7 23), (74, .slice 22)],
  [(3, .int .i64 0, 1, 8), (5, .int .u8 0, 1, 1), (9, .string ⟨#[]⟩, 1, 16), (22, .int .u32 0, 1, 4), (23, .int .u64 0, 1, 8), (25, .agg #[.int .u32 0, .int .u32 0, .int .u64 0, .int .u64 0, .int .u64 0, .int .u64 0, .int .u64 0], 7, 48), (27, .slice none 0 0, 1, 24), (33, .slice none 0 0, 1, 24), (50, .int .u16 0, 1, 2), (52, .int .u64 0, 1, 8), (53, .slice none 0 0, 1, 24), (56, .agg #[.int .u64 0, .int .u64 0, .int .u64 0, .int .u64 0, .int .u64 0, .int .u64 0, .int .u64 0], 7, 56), (74, .slice none 0 0, 1, 24)], [25]⟩
theorem u3 : asc tb.und 3 = some (.int .i64) := by kernel_rfl
theorem u5 : asc tb.und 5 = some (.int .u8) := by kernel_rfl
theorem u9 : asc tb.und 9 = some (.string) := by kernel_rfl
theorem u22 : asc tb.und 22 = some (.int .u32) := by kernel_rfl
theorem u23 : asc tb.und 23 = some (.int .u64) := by kernel_rfl
theorem u25 : asc tb.und 25 = some (.struct #[⟨ "Type", 22, 0, false, "", "", 0⟩, ⟨ "Flags", 22, 1, false, "", "", 4⟩, ⟨ "Off", 23, 2, false, "", "", 8⟩, ⟨ "Vaddr", 23, 3, false, "", "", 16⟩, ⟨ "File", 23, 4, false, "", "", 24⟩, ⟨ "Mem", 23, 5, false, "", "", 32⟩, ⟨ "Align", 23, 6, false, "", "", 40⟩]) := by kernel_rfl
theorem u27 : asc tb.und 27 = some (.slice 5) := by kernel_rfl
theorem u33 : asc tb.und 33 = some (.slice 25) := by kernel_rfl
theorem u50 : asc tb.und 50 = some (.int .u16) := by kernel_rfl
theorem u52 : asc tb.und 52 = some (.int .u64) := by kernel_rfl
theorem u53 : asc tb.und 53 = some (.slice 23) := by kernel_rfl
theorem u56 : asc tb.und 56 = some (.array 7 23) := by kernel_rfl
theorem u74 : asc tb.und 74 = some (.slice 22) := by kernel_rfl
theorem i3 : asc tb.info 3 = some (.int .i64 0, 1, 8) := by kernel_rfl
theorem i5 : asc tb.info 5 = some (.int .u8 0, 1, 1) := by kernel_rfl
theorem i9 : asc tb.info 9 = some (.string ⟨#[]⟩, 1, 16) := by kernel_rfl
theorem i22 : asc tb.info 22 = some (.int .u32 0, 1, 4) := by kernel_rfl
theorem i23 : asc tb.info 23 = some (.int .u64 0, 1, 8) := by kernel_rfl
theorem i25 : asc tb.info 25 = some (.agg #[.int .u32 0, .int .u32 0, .int .u64 0, .int .u64 0, .int .u64 0, .int .u64 0, .int .u64 0], 7, 48) := by kernel_rfl
theorem i27 : asc tb.info 27 = some (.slice none 0 0, 1, 24) := by kernel_rfl
theorem i33 : asc tb.info 33 = some (.slice none 0 0, 1, 24) := by kernel_rfl
theorem i50 : asc tb.info 50 = some (.int .u16 0, 1, 2) := by kernel_rfl
theorem i52 : asc tb.info 52 = some (.int .u64 0, 1, 8) := by kernel_rfl
theorem i53 : asc tb.info 53 = some (.slice none 0 0, 1, 24) := by kernel_rfl
theorem i56 : asc tb.info 56 = some (.agg #[.int .u64 0, .int .u64 0, .int .u64 0, .int .u64 0, .int .u64 0, .int .u64 0, .int .u64 0], 7, 56) := by kernel_rfl
theorem i74 : asc tb.info 74 = some (.slice none 0 0, 1, 24) := by kernel_rfl
theorem tbOk : TbOk Try.prog tb where
  und := by
    intro p hp
    simp only [tb, List.mem_cons, List.not_mem_nil, or_false] at hp
    rcases hp with rfl | rfl | rfl | rfl | rfl | rfl | rfl | rfl | rfl | rfl | rfl | rfl | rfl
    · exact Try.underlying3
    · exact Try.underlying5
    · exact Try.underlying9
    · exact Try.underlying22
    · exact Try.underlying23
    · exact Try.underlying25
    · exact Try.underlying27
    · exact Try.underlying33
    · exact Try.underlying50
    · exact Try.underlying52
    · exact Try.underlying53
    · exact Try.underlying56
    · exact Try.underlying74
  info := by
    intro p hp
    simp only [tb, List.mem_cons, List.not_mem_nil, or_false] at hp
    rcases hp with rfl | rfl | rfl | rfl | rfl | rfl | rfl | rfl | rfl | rfl | rfl | rfl | rfl
    · kernel_rfl
    · kernel_rfl
    · kernel_rfl
    · kernel_rfl
    · kernel_rfl
    · kernel_rfl
    · kernel_rfl
    · kernel_rfl
    · kernel_rfl
    · kernel_rfl
    · kernel_rfl
    · kernel_rfl
    · kernel_rfl
  ag := by
    intro t ht
    simp only [tb, List.mem_cons, List.not_mem_nil, or_false] at ht
    rcases ht with rfl
    · exact ⟨by kernel_rfl, by kernel_rfl⟩
def ty24 : Ty (Int × Int × Int × Int × Int × Int × Int) := tF 7 (fun x => [.int .u32 x.1, .int .u32 x.2.1, .int .u64 x.2.2.1, .int .u64 x.2.2.2.1, .int .u64 x.2.2.2.2.1, .int .u64 x.2.2.2.2.2.1, .int .u64 x.2.2.2.2.2.2]) (fun _ => rfl) (fun x => allOne_ok (l := [.int .u32 x.1, .int .u32 x.2.1, .int .u64 x.2.2.1, .int .u64 x.2.2.2.1, .int .u64 x.2.2.2.2.1, .int .u64 x.2.2.2.2.2.1, .int .u64 x.2.2.2.2.2.2]) rfl)
theorem flat24 : Flat ty24 := flat_tF
theorem ent11 : Ent Try.prog 11 := ⟨_, Try.func11, by kernel_rfl, by kernel_rfl⟩
theorem ent12 : Ent Try.prog 12 := ⟨_, Try.func12, by kernel_rfl, by kernel_rfl⟩
theorem ent13 : Ent Try.prog 13 := ⟨_, Try.func13, by kernel_rfl, by kernel_rfl⟩
theorem ent14 : Ent Try.prog 14 := ⟨_, Try.func14, by kernel_rfl, by kernel_rfl⟩
theorem ent15 : Ent Try.prog 15 := ⟨_, Try.func15, by kernel_rfl, by kernel_rfl⟩
theorem ent16 : Ent Try.prog 16 := ⟨_, Try.func16, by kernel_rfl, by kernel_rfl⟩
theorem ent17 : Ent Try.prog 17 := ⟨_, Try.func17, by kernel_rfl, by kernel_rfl⟩
theorem ent18 : Ent Try.prog 18 := ⟨_, Try.func18, by kernel_rfl, by kernel_rfl⟩
theorem ent19 : Ent Try.prog 19 := ⟨_, Try.func19, by kernel_rfl, by kernel_rfl⟩
theorem ent20 : Ent Try.prog 20 := ⟨_, Try.func20, by kernel_rfl, by kernel_rfl⟩
theorem ent21 : Ent Try.prog 21 := ⟨_, Try.func21, by kernel_rfl, by kernel_rfl⟩
theorem ent22 : Ent Try.prog 22 := ⟨_, Try.func22, by kernel_rfl, by kernel_rfl⟩
theorem ent23 : Ent Try.prog 23 := ⟨_, Try.func23, by kernel_rfl, by kernel_rfl⟩
theorem ent24 : Ent Try.prog 24 := ⟨_, Try.func24, by kernel_rfl, by kernel_rfl⟩
theorem ent25 : Ent Try.prog 25 := ⟨_, Try.func25, by kernel_rfl, by kernel_rfl⟩
theorem ent26 : Ent Try.prog 26 := ⟨_, Try.func26, by kernel_rfl, by kernel_rfl⟩
theorem ent27 : Ent Try.prog 27 := ⟨_, Try.func27, by kernel_rfl, by kernel_rfl⟩
theorem ent28 : Ent Try.prog 28 := ⟨_, Try.func28, by kernel_rfl, by kernel_rfl⟩
theorem ent29 : Ent Try.prog 29 := ⟨_, Try.func29, by kernel_rfl, by kernel_rfl⟩
theorem ent30 : Ent Try.prog 30 := ⟨_, Try.func30, by kernel_rfl, by kernel_rfl⟩
theorem ent31 : Ent Try.prog 31 := ⟨_, Try.func31, by kernel_rfl, by kernel_rfl⟩
theorem ent32 : Ent Try.prog 32 := ⟨_, Try.func32, by kernel_rfl, by kernel_rfl⟩
theorem ent33 : Ent Try.prog 33 := ⟨_, Try.func33, by kernel_rfl, by kernel_rfl⟩
theorem ent34 : Ent Try.prog 34 := ⟨_, Try.func34, by kernel_rfl, by kernel_rfl⟩
theorem ent35 : Ent Try.prog 35 := ⟨_, Try.func35, by kernel_rfl, by kernel_rfl⟩
theorem ent36 : Ent Try.prog 36 := ⟨_, Try.func36, by kernel_rfl, by kernel_rfl⟩
theorem ent37 : Ent Try.prog 37 := ⟨_, Try.func37, by kernel_rfl, by kernel_rfl⟩
theorem ent38 : Ent Try.prog 38 := ⟨_, Try.func38, by kernel_rfl, by kernel_rfl⟩
theorem ent39 : Ent Try.prog 39 := ⟨_, Try.func39, by kernel_rfl, by kernel_rfl⟩
theorem ent40 : Ent Try.prog 40 := ⟨_, Try.func40, by kernel_rfl, by kernel_rfl⟩
theorem ent41 : Ent Try.prog 41 := ⟨_, Try.func41, by kernel_rfl, by kernel_rfl⟩
theorem ent42 : Ent Try.prog 42 := ⟨_, Try.func42, by kernel_rfl, by kernel_rfl⟩
theorem ent43 : Ent Try.prog 43 := ⟨_, Try.func43, by kernel_rfl, by kernel_rfl⟩
theorem ent44 : Ent Try.prog 44 := ⟨_, Try.func44, by kernel_rfl, by kernel_rfl⟩
theorem ent45 : Ent Try.prog 45 := ⟨_, Try.func45, by kernel_rfl, by kernel_rfl⟩
theorem ent46 : Ent Try.prog 46 := ⟨_, Try.func46, by kernel_rfl, by kernel_rfl⟩
theorem ent47 : Ent Try.prog 47 := ⟨_, Try.func47, by kernel_rfl, by kernel_rfl⟩
theorem ent48 : Ent Try.prog 48 := ⟨_, Try.func48, by kernel_rfl, by kernel_rfl⟩
theorem ent49 : Ent Try.prog 49 := ⟨_, Try.func49, by kernel_rfl, by kernel_rfl⟩
theorem ent50 : Ent Try.prog 50 := ⟨_, Try.func50, by kernel_rfl, by kernel_rfl⟩
theorem ent51 : Ent Try.prog 51 := ⟨_, Try.func51, by kernel_rfl, by kernel_rfl⟩
theorem ent52 : Ent Try.prog 52 := ⟨_, Try.func52, by kernel_rfl, by kernel_rfl⟩
theorem ent53 : Ent Try.prog 53 := ⟨_, Try.func53, by kernel_rfl, by kernel_rfl⟩
theorem ent54 : Ent Try.prog 54 := ⟨_, Try.func54, by kernel_rfl, by kernel_rfl⟩
theorem mixed : Try.prog.follows .mixedOrders = true := by kernel_rfl

end Dm
