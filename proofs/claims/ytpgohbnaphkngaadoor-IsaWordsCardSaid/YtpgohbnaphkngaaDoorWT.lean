/-
  The tables of the walks: what the evaluator is told of the program; printed by a program of this repo. No condition.
-/
import Derived.Test.YtpgohbnaphkngaaDoorProg
import Derived.Test.YtpgohbnaphkngaaDoorReg
import Derived.Test.YtpgohbnaphkngaaDoorS
import Derived.Test.YtpgohbnaphkngaaDoorTab
import Derived.Test.YtpgohbnaphkngaaDoorTxt
import Derived.Test.YtpgohbnaphkngaaDoorExt
namespace Dm
open Go Go.RowKit Go.Proofs

theorem bdz {α ρ : Type} {m : Option α} {x : α} {f : α → Option ρ} (h : m = some x) : m.bind f = f x := by rw [h]; rfl

def tb : Tb := ⟨[(2, .int .i64), (3, .int .i64), (5, .int .u8), (9, .string), (21, .int .i32), (24, .struct #[⟨ "Op", 3, 0, false, "", "", 0⟩, ⟨ "A", 3, 1, false, "", "", 8⟩, ⟨ "B", 3, 2, false, "", "", 16⟩, ⟨ "C", 3, 3, false, "", "", 24⟩, ⟨ "Imm", 21, 4, false, "", "", 32⟩]), (25, .int .u64), (31, .struct #[⟨ "Op", 3, 0, false, "", "", 0⟩, ⟨ "A", 3, 1, false, "", "", 8⟩, ⟨ "B", 3, 2, false, "", "", 16⟩, ⟨ "C", 3, 3, false, "", "", 24⟩, ⟨ "Imm", 2, 4, false, "", "", 32⟩]), (42, .int .u16), (43, .int .u32), (44, .int .u64), (49, .slice 5), (53, .slice 9), (56, .struct #[⟨ "number", 3, 0, false, "", "dormouse/isa", 0⟩, ⟨ "word", 9, 1, false, "", "dormouse/isa", 8⟩, ⟨ "fields", 9, 2, false, "", "dormouse/isa", 24⟩]), (60, .array 4 3), (63, .slice 2), (83, .slice 56), (84, .array 38 56)],
  [(2, .int .i64 0, 1, 8), (3, .int .i64 0, 1, 8), (5, .int .u8 0, 1, 1), (9, .string ⟨#[]⟩, 1, 16), (21, .int .i32 0, 1, 4), (24, .agg #[.int .i64 0, .int .i64 0, .int .i64 0, .int .i64 0, .int .i32 0], 5, 40), (25, .int .u64 0, 1, 8), (31, .agg #[.int .i64 0, .int .i64 0, .int .i64 0, .int .i64 0, .int .i64 0], 5, 40), (42, .int .u16 0, 1, 2), (43, .int .u32 0, 1, 4), (44, .int .u64 0, 1, 8), (49, .slice none 0 0, 1, 24), (53, .slice none 0 0, 1, 24), (56, .agg #[.int .i64 0, .string ⟨#[]⟩, .string ⟨#[]⟩], 3, 40), (60, .agg #[.int .i64 0, .int .i64 0, .int .i64 0, .int .i64 0], 4, 32), (63, .slice none 0 0, 1, 24), (83, .slice none 0 0, 1, 24), (84, .agg #[.int .i64 0, .string ⟨#[]⟩, .string ⟨#[]⟩, .int .i64 0, .string ⟨#[]⟩, .string ⟨#[]⟩, .int .i64 0, .string ⟨#[]⟩, .string ⟨#[]⟩, .int .i64 0, .string ⟨#[]⟩, .string ⟨#[]⟩, .int .i64 0, .string ⟨#[]⟩, .string ⟨#[]⟩, .int .i64 0, .string ⟨#[]⟩, .string ⟨#[]⟩, .int .i64 0, .string ⟨#[]⟩, .string ⟨#[]⟩, .int .i64 0, .string ⟨#[]⟩, .string ⟨#[]⟩, .int .i64 0, .string ⟨#[]⟩, .string ⟨#[]⟩, .int .i64 0, .string ⟨#[]⟩, .string ⟨#[]⟩, .int .i64 0, .string ⟨#[]⟩, .string ⟨#[]⟩, .int .i64 0, .string ⟨#[]⟩, .string ⟨#[]⟩, .int .i64 0, .string ⟨#[]⟩, .string ⟨#[]⟩, .int .i64 0, .string ⟨#[]⟩, .string ⟨#[]⟩, .int .i64 0, .string ⟨#[]⟩, .string ⟨#[]⟩, .int .i64 0, .string ⟨#[]⟩, .string ⟨#[]⟩, .int .i64 0, .string ⟨#[]⟩, .string ⟨#[]⟩, .int .i64 0, .string ⟨#[]⟩, .string ⟨#[]⟩, .int .i64 0, .string ⟨#[]⟩, .string ⟨#[]⟩, .int .i64 0, .string ⟨#[]⟩, .string ⟨#[]⟩, .int .i64 0, .string ⟨#[]⟩, .string ⟨#[]⟩, .int .i64 0, .string ⟨#[]⟩, .string ⟨#[]⟩, .int .i64 0, .string ⟨#[]⟩, .string ⟨#[]⟩, .int .i64 0, .string ⟨#[]⟩, .string ⟨#[]⟩, .int .i64 0, .string ⟨#[]⟩, .string ⟨#[]⟩, .int .i64 0, .string ⟨#[]⟩, .string ⟨#[]⟩, .int .i64 0, .string ⟨#[]⟩, .string ⟨#[]⟩, .int .i64 0, .string ⟨#[]⟩, .string ⟨#[]⟩, .int .i64 0, .string ⟨#[]⟩, .string ⟨#[]⟩, .int .i64 0, .string ⟨#[]⟩, .string ⟨#[]⟩, .int .i64 0, .string ⟨#[]⟩, .string ⟨#[]⟩, .int .i64 0, .string ⟨#[]⟩, .string ⟨#[]⟩, .int .i64 0, .string ⟨#[]⟩, .string ⟨#[]⟩, .int .i64 0, .string ⟨#[]⟩, .string ⟨#[]⟩, .int .i64 0, .string ⟨#[]⟩, .string ⟨#[]⟩, .int .i64 0, .string ⟨#[]⟩, .string ⟨#[]⟩, .int .i64 0, .string ⟨#[]⟩, .string ⟨#[]⟩, .int .i64 0, .string ⟨#[]⟩, .string ⟨#[]⟩], 114, 1520)], [24, 31]⟩
theorem u2 : asc tb.und 2 = some (.int .i64) := by kernel_rfl
theorem u3 : asc tb.und 3 = some (.int .i64) := by kernel_rfl
theorem u5 : asc tb.und 5 = some (.int .u8) := by kernel_rfl
theorem u9 : asc tb.und 9 = some (.string) := by kernel_rfl
theorem u21 : asc tb.und 21 = some (.int .i32) := by kernel_rfl
theorem u24 : asc tb.und 24 = some (.struct #[⟨ "Op", 3, 0, false, "", "", 0⟩, ⟨ "A", 3, 1, false, "", "", 8⟩, ⟨ "B", 3, 2, false, "", "", 16⟩, ⟨ "C", 3, 3, false, "", "", 24⟩, ⟨ "Imm", 21, 4, false, "", "", 32⟩]) := by kernel_rfl
theorem u25 : asc tb.und 25 = some (.int .u64) := by kernel_rfl
theorem u31 : asc tb.und 31 = some (.struct #[⟨ "Op", 3, 0, false, "", "", 0⟩, ⟨ "A", 3, 1, false, "", "", 8⟩, ⟨ "B", 3, 2, false, "", "", 16⟩, ⟨ "C", 3, 3, false, "", "", 24⟩, ⟨ "Imm", 2, 4, false, "", "", 32⟩]) := by kernel_rfl
theorem u42 : asc tb.und 42 = some (.int .u16) := by kernel_rfl
theorem u43 : asc tb.und 43 = some (.int .u32) := by kernel_rfl
theorem u44 : asc tb.und 44 = some (.int .u64) := by kernel_rfl
theorem u49 : asc tb.und 49 = some (.slice 5) := by kernel_rfl
theorem u53 : asc tb.und 53 = some (.slice 9) := by kernel_rfl
theorem u56 : asc tb.und 56 = some (.struct #[⟨ "number", 3, 0, false, "", "dormouse/isa", 0⟩, ⟨ "word", 9, 1, false, "", "dormouse/isa", 8⟩, ⟨ "fields", 9, 2, false, "", "dormouse/isa", 24⟩]) := by kernel_rfl
theorem u60 : asc tb.und 60 = some (.array 4 3) := by kernel_rfl
theorem u63 : asc tb.und 63 = some (.slice 2) := by kernel_rfl
theorem u83 : asc tb.und 83 = some (.slice 56) := by kernel_rfl
theorem u84 : asc tb.und 84 = some (.array 38 56) := by kernel_rfl
theorem i2 : asc tb.info 2 = some (.int .i64 0, 1, 8) := by kernel_rfl
theorem i3 : asc tb.info 3 = some (.int .i64 0, 1, 8) := by kernel_rfl
theorem i5 : asc tb.info 5 = some (.int .u8 0, 1, 1) := by kernel_rfl
theorem i9 : asc tb.info 9 = some (.string ⟨#[]⟩, 1, 16) := by kernel_rfl
theorem i21 : asc tb.info 21 = some (.int .i32 0, 1, 4) := by kernel_rfl
theorem i24 : asc tb.info 24 = some (.agg #[.int .i64 0, .int .i64 0, .int .i64 0, .int .i64 0, .int .i32 0], 5, 40) := by kernel_rfl
theorem i25 : asc tb.info 25 = some (.int .u64 0, 1, 8) := by kernel_rfl
theorem i31 : asc tb.info 31 = some (.agg #[.int .i64 0, .int .i64 0, .int .i64 0, .int .i64 0, .int .i64 0], 5, 40) := by kernel_rfl
theorem i42 : asc tb.info 42 = some (.int .u16 0, 1, 2) := by kernel_rfl
theorem i43 : asc tb.info 43 = some (.int .u32 0, 1, 4) := by kernel_rfl
theorem i44 : asc tb.info 44 = some (.int .u64 0, 1, 8) := by kernel_rfl
theorem i49 : asc tb.info 49 = some (.slice none 0 0, 1, 24) := by kernel_rfl
theorem i53 : asc tb.info 53 = some (.slice none 0 0, 1, 24) := by kernel_rfl
theorem i56 : asc tb.info 56 = some (.agg #[.int .i64 0, .string ⟨#[]⟩, .string ⟨#[]⟩], 3, 40) := by kernel_rfl
theorem i60 : asc tb.info 60 = some (.agg #[.int .i64 0, .int .i64 0, .int .i64 0, .int .i64 0], 4, 32) := by kernel_rfl
theorem i63 : asc tb.info 63 = some (.slice none 0 0, 1, 24) := by kernel_rfl
theorem i83 : asc tb.info 83 = some (.slice none 0 0, 1, 24) := by kernel_rfl
theorem i84 : asc tb.info 84 = some (.agg #[.int .i64 0, .string ⟨#[]⟩, .string ⟨#[]⟩, .int .i64 0, .string ⟨#[]⟩, .string ⟨#[]⟩, .int .i64 0, .string ⟨#[]⟩, .string ⟨#[]⟩, .int .i64 0, .string ⟨#[]⟩, .string ⟨#[]⟩, .int .i64 0, .string ⟨#[]⟩, .string ⟨#[]⟩, .int .i64 0, .string ⟨#[]⟩, .string ⟨#[]⟩, .int .i64 0, .string ⟨#[]⟩, .string ⟨#[]⟩, .int .i64 0, .string ⟨#[]⟩, .string ⟨#[]⟩, .int .i64 0, .string ⟨#[]⟩, .string ⟨#[]⟩, .int .i64 0, .string ⟨#[]⟩, .string ⟨#[]⟩, .int .i64 0, .string ⟨#[]⟩, .string ⟨#[]⟩, .int .i64 0, .string ⟨#[]⟩, .string ⟨#[]⟩, .int .i64 0, .string ⟨#[]⟩, .string ⟨#[]⟩, .int .i64 0, .string ⟨#[]⟩, .string ⟨#[]⟩, .int .i64 0, .string ⟨#[]⟩, .string ⟨#[]⟩, .int .i64 0, .string ⟨#[]⟩, .string ⟨#[]⟩, .int .i64 0, .string ⟨#[]⟩, .string ⟨#[]⟩, .int .i64 0, .string ⟨#[]⟩, .string ⟨#[]⟩, .int .i64 0, .string ⟨#[]⟩, .string ⟨#[]⟩, .int .i64 0, .string ⟨#[]⟩, .string ⟨#[]⟩, .int .i64 0, .string ⟨#[]⟩, .string ⟨#[]⟩, .int .i64 0, .string ⟨#[]⟩, .string ⟨#[]⟩, .int .i64 0, .string ⟨#[]⟩, .string ⟨#[]⟩, .int .i64 0, .string ⟨#[]⟩, .string ⟨#[]⟩, .int .i64 0, .string ⟨#[]⟩, .string ⟨#[]⟩, .int .i64 0, .string ⟨#[]⟩, .string ⟨#[]⟩, .int .i64 0, .string ⟨#[]⟩, .string ⟨#[]⟩, .int .i64 0, .string ⟨#[]⟩, .string ⟨#[]⟩, .int .i64 0, .string ⟨#[]⟩, .string ⟨#[]⟩, .int .i64 0, .string ⟨#[]⟩, .string ⟨#[]⟩, .int .i64 0, .string ⟨#[]⟩, .string ⟨#[]⟩, .int .i64 0, .string ⟨#[]⟩, .string ⟨#[]⟩, .int .i64 0, .string ⟨#[]⟩, .string ⟨#[]⟩, .int .i64 0, .string ⟨#[]⟩, .string ⟨#[]⟩, .int .i64 0, .string ⟨#[]⟩, .string ⟨#[]⟩, .int .i64 0, .string ⟨#[]⟩, .string ⟨#[]⟩, .int .i64 0, .string ⟨#[]⟩, .string ⟨#[]⟩, .int .i64 0, .string ⟨#[]⟩, .string ⟨#[]⟩], 114, 1520) := by kernel_rfl
theorem tbOk : TbOk Tryd.prog tb where
  und := by
    intro p hp
    simp only [tb, List.mem_cons, List.not_mem_nil, or_false] at hp
    rcases hp with rfl | rfl | rfl | rfl | rfl | rfl | rfl | rfl | rfl | rfl | rfl | rfl | rfl | rfl | rfl | rfl | rfl | rfl
    · exact Tryd.underlying2
    · exact Tryd.underlying3
    · exact Tryd.underlying5
    · exact Tryd.underlying9
    · exact Tryd.underlying21
    · exact Tryd.underlying24
    · exact Tryd.underlying25
    · exact Tryd.underlying31
    · exact Tryd.underlying42
    · exact Tryd.underlying43
    · exact Tryd.underlying44
    · exact Tryd.underlying49
    · exact Tryd.underlying53
    · exact Tryd.underlying56
    · exact Tryd.underlying60
    · exact Tryd.underlying63
    · exact Tryd.underlying83
    · exact Tryd.underlying84
  info := by
    intro p hp
    simp only [tb, List.mem_cons, List.not_mem_nil, or_false] at hp
    rcases hp with rfl | rfl | rfl | rfl | rfl | rfl | rfl | rfl | rfl | rfl | rfl | rfl | rfl | rfl | rfl | rfl | rfl | rfl
    · kernel_rfl
    · kernel_rfl
    · kernel_rfl
    · kernel_rfl
    · kernel_rfl
    · kernel_rfl
    · kernel_rfl
    · kernel_rfl
    · kernel_rfl
    · kernel_rfl
    · kernel_rfl
    · kernel_rfl
    · kernel_rfl
    · kernel_rfl
    · kernel_rfl
    · kernel_rfl
    · kernel_rfl
    · kernel_rfl
  ag := by
    intro t ht
    simp only [tb, List.mem_cons, List.not_mem_nil, or_false] at ht
    rcases ht with rfl | rfl
    · exact ⟨by kernel_rfl, by kernel_rfl⟩
    · exact ⟨by kernel_rfl, by kernel_rfl⟩
def ty55 : Ty (Int × (List UInt8) × (List UInt8)) := tF 3 (fun x => [.int .i64 x.1, strV x.2.1, strV x.2.2]) (fun _ => rfl) (fun x => allOne_ok (l := [.int .i64 x.1, strV x.2.1, strV x.2.2]) rfl)
theorem flat55 : Flat ty55 := flat_tF
theorem ent10 : Ent Tryd.prog 10 := ⟨_, Tryd.func10, by kernel_rfl, by kernel_rfl⟩
theorem ent11 : Ent Tryd.prog 11 := ⟨_, Tryd.func11, by kernel_rfl, by kernel_rfl⟩
theorem ent12 : Ent Tryd.prog 12 := ⟨_, Tryd.func12, by kernel_rfl, by kernel_rfl⟩
theorem ent13 : Ent Tryd.prog 13 := ⟨_, Tryd.func13, by kernel_rfl, by kernel_rfl⟩
theorem ent14 : Ent Tryd.prog 14 := ⟨_, Tryd.func14, by kernel_rfl, by kernel_rfl⟩
theorem ent15 : Ent Tryd.prog 15 := ⟨_, Tryd.func15, by kernel_rfl, by kernel_rfl⟩
theorem ent16 : Ent Tryd.prog 16 := ⟨_, Tryd.func16, by kernel_rfl, by kernel_rfl⟩
theorem ent17 : Ent Tryd.prog 17 := ⟨_, Tryd.func17, by kernel_rfl, by kernel_rfl⟩
theorem ent18 : Ent Tryd.prog 18 := ⟨_, Tryd.func18, by kernel_rfl, by kernel_rfl⟩
theorem ent19 : Ent Tryd.prog 19 := ⟨_, Tryd.func19, by kernel_rfl, by kernel_rfl⟩
theorem ent20 : Ent Tryd.prog 20 := ⟨_, Tryd.func20, by kernel_rfl, by kernel_rfl⟩
theorem ent21 : Ent Tryd.prog 21 := ⟨_, Tryd.func21, by kernel_rfl, by kernel_rfl⟩
theorem ent22 : Ent Tryd.prog 22 := ⟨_, Tryd.func22, by kernel_rfl, by kernel_rfl⟩
theorem ent23 : Ent Tryd.prog 23 := ⟨_, Tryd.func23, by kernel_rfl, by kernel_rfl⟩
theorem ent24 : Ent Tryd.prog 24 := ⟨_, Tryd.func24, by kernel_rfl, by kernel_rfl⟩
theorem ent25 : Ent Tryd.prog 25 := ⟨_, Tryd.func25, by kernel_rfl, by kernel_rfl⟩
theorem ent26 : Ent Tryd.prog 26 := ⟨_, Tryd.func26, by kernel_rfl, by kernel_rfl⟩
theorem ent27 : Ent Tryd.prog 27 := ⟨_, Tryd.func27, by kernel_rfl, by kernel_rfl⟩
theorem ent28 : Ent Tryd.prog 28 := ⟨_, Tryd.func28, by kernel_rfl, by kernel_rfl⟩
theorem ent29 : Ent Tryd.prog 29 := ⟨_, Tryd.func29, by kernel_rfl, by kernel_rfl⟩
theorem ent30 : Ent Tryd.prog 30 := ⟨_, Tryd.func30, by kernel_rfl, by kernel_rfl⟩
theorem ent31 : Ent Tryd.prog 31 := ⟨_, Tryd.func31, by kernel_rfl, by kernel_rfl⟩
theorem ent32 : Ent Tryd.prog 32 := ⟨_, Tryd.func32, by kernel_rfl, by kernel_rfl⟩
theorem ent33 : Ent Tryd.prog 33 := ⟨_, Tryd.func33, by kernel_rfl, by kernel_rfl⟩
theorem ent34 : Ent Tryd.prog 34 := ⟨_, Tryd.func34, by kernel_rfl, by kernel_rfl⟩
theorem ent35 : Ent Tryd.prog 35 := ⟨_, Tryd.func35, by kernel_rfl, by kernel_rfl⟩
theorem ent36 : Ent Tryd.prog 36 := ⟨_, Tryd.func36, by kernel_rfl, by kernel_rfl⟩
theorem ent37 : Ent Tryd.prog 37 := ⟨_, Tryd.func37, by kernel_rfl, by kernel_rfl⟩
theorem ent38 : Ent Tryd.prog 38 := ⟨_, Tryd.func38, by kernel_rfl, by kernel_rfl⟩
theorem ent39 : Ent Tryd.prog 39 := ⟨_, Tryd.func39, by kernel_rfl, by kernel_rfl⟩
theorem ent42 : Ent Tryd.prog 42 := ⟨_, Tryd.func42, by kernel_rfl, by kernel_rfl⟩
theorem ent43 : Ent Tryd.prog 43 := ⟨_, Tryd.func43, by kernel_rfl, by kernel_rfl⟩
theorem ent44 : Ent Tryd.prog 44 := ⟨_, Tryd.func44, by kernel_rfl, by kernel_rfl⟩
theorem ent53 : Ent Tryd.prog 53 := ⟨_, Tryd.func53, by kernel_rfl, by kernel_rfl⟩
theorem ent54 : Ent Tryd.prog 54 := ⟨_, Tryd.func54, by kernel_rfl, by kernel_rfl⟩
theorem ent64 : Ent Tryd.prog 64 := ⟨_, Tryd.func64, by kernel_rfl, by kernel_rfl⟩
theorem ent65 : Ent Tryd.prog 65 := ⟨_, Tryd.func65, by kernel_rfl, by kernel_rfl⟩
theorem mixed : Tryd.prog.follows .mixedOrders = true := by kernel_rfl
abbrev gth0 : Th := thTab 0 (gx0.flatMap fun x => [.int .i64 x.1, strV x.2.1, strV x.2.2])
abbrev gth1 : Th := thNum 1
abbrev gth2 : Th := thTab 2 (Go.Lib.pow10Tab.map (Value.int .u64))
theorem gro0 {F : SH} (h : RO F (tTab 0 (gx0.flatMap fun x => [.int .i64 x.1, strV x.2.1, strV x.2.2])) (.slice none 1 1) [()]) : RO F ty55 (.slice (some ⟨0, 0, none⟩) gx0.length gx0.length) gx0 := tab_RO h

end Dm
