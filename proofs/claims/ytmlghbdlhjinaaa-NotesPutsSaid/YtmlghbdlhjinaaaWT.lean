/-
  The tables of the walks: what the evaluator is told of the program; printed by a program of this repo. No condition.
-/
import Derived.Test.YtmlghbdlhjinaaaProg
import Derived.Test.YtmlghbdlhjinaaaReg
import Derived.Test.YtmlghbdlhjinaaaS
import Derived.Test.YtmlghbdlhjinaaaStr
namespace Dm
open Go Go.RowKit Go.Proofs

theorem bdz {α ρ : Type} {m : Option α} {x : α} {f : α → Option ρ} (h : m = some x) : m.bind f = f x := by rw [h]; rfl

def tb : Tb := ⟨[(3, .int .i64), (4, .bool), (5, .int .u8), (9, .string), (22, .slice 5), (23, .int .u64), (30, .slice 9), (32, .slice 23), (37, .slice 54), (42, .slice 65), (50, .int .u32), (54, .struct #[⟨ "Name", 9, 0, false, "", "", 0⟩, ⟨ "Type", 50, 1, false, "", "", 16⟩, ⟨ "Desc", 22, 2, false, "", "", 24⟩]), (57, .int .u64), (60, .map 9 23), (64, .slice 22), (65, .struct #[⟨ "Name", 9, 0, false, "", "", 0⟩, ⟨ "Type", 50, 1, false, "", "", 16⟩, ⟨ "Desc", 22, 2, false, "", "", 24⟩]), (68, .func #[23] #[22, 25] false), (69, .array 3 23)],
  [(3, .int .i64 0, 1, 8), (4, .bool false, 1, 1), (5, .int .u8 0, 1, 1), (9, .string ⟨#[]⟩, 1, 16), (22, .slice none 0 0, 1, 24), (23, .int .u64 0, 1, 8), (30, .slice none 0 0, 1, 24), (32, .slice none 0 0, 1, 24), (37, .slice none 0 0, 1, 24), (42, .slice none 0 0, 1, 24), (50, .int .u32 0, 1, 4), (54, .agg #[.string ⟨#[]⟩, .int .u32 0, .slice none 0 0], 3, 48), (57, .int .u64 0, 1, 8), (60, .map none, 1, 8), (64, .slice none 0 0, 1, 24), (65, .agg #[.string ⟨#[]⟩, .int .u32 0, .slice none 0 0], 3, 48), (68, .nilFunc, 1, 8), (69, .agg #[.int .u64 0, .int .u64 0, .int .u64 0], 3, 24)], []⟩
theorem u3 : asc tb.und 3 = some (.int .i64) := by kernel_rfl
theorem u4 : asc tb.und 4 = some (.bool) := by kernel_rfl
theorem u5 : asc tb.und 5 = some (.int .u8) := by kernel_rfl
theorem u9 : asc tb.und 9 = some (.string) := by kernel_rfl
theorem u22 : asc tb.und 22 = some (.slice 5) := by kernel_rfl
theorem u23 : asc tb.und 23 = some (.int .u64) := by kernel_rfl
theorem u30 : asc tb.und 30 = some (.slice 9) := by kernel_rfl
theorem u32 : asc tb.und 32 = some (.slice 23) := by kernel_rfl
theorem u37 : asc tb.und 37 = some (.slice 54) := by kernel_rfl
theorem u42 : asc tb.und 42 = some (.slice 65) := by kernel_rfl
theorem u50 : asc tb.und 50 = some (.int .u32) := by kernel_rfl
theorem u54 : asc tb.und 54 = some (.struct #[⟨ "Name", 9, 0, false, "", "", 0⟩, ⟨ "Type", 50, 1, false, "", "", 16⟩, ⟨ "Desc", 22, 2, false, "", "", 24⟩]) := by kernel_rfl
theorem u57 : asc tb.und 57 = some (.int .u64) := by kernel_rfl
theorem u60 : asc tb.und 60 = some (.map 9 23) := by kernel_rfl
theorem u64 : asc tb.und 64 = some (.slice 22) := by kernel_rfl
theorem u65 : asc tb.und 65 = some (.struct #[⟨ "Name", 9, 0, false, "", "", 0⟩, ⟨ "Type", 50, 1, false, "", "", 16⟩, ⟨ "Desc", 22, 2, false, "", "", 24⟩]) := by kernel_rfl
theorem u68 : asc tb.und 68 = some (.func #[23] #[22, 25] false) := by kernel_rfl
theorem u69 : asc tb.und 69 = some (.array 3 23) := by kernel_rfl
theorem i3 : asc tb.info 3 = some (.int .i64 0, 1, 8) := by kernel_rfl
theorem i4 : asc tb.info 4 = some (.bool false, 1, 1) := by kernel_rfl
theorem i5 : asc tb.info 5 = some (.int .u8 0, 1, 1) := by kernel_rfl
theorem i9 : asc tb.info 9 = some (.string ⟨#[]⟩, 1, 16) := by kernel_rfl
theorem i22 : asc tb.info 22 = some (.slice none 0 0, 1, 24) := by kernel_rfl
theorem i23 : asc tb.info 23 = some (.int .u64 0, 1, 8) := by kernel_rfl
theorem i30 : asc tb.info 30 = some (.slice none 0 0, 1, 24) := by kernel_rfl
theorem i32 : asc tb.info 32 = some (.slice none 0 0, 1, 24) := by kernel_rfl
theorem i37 : asc tb.info 37 = some (.slice none 0 0, 1, 24) := by kernel_rfl
theorem i42 : asc tb.info 42 = some (.slice none 0 0, 1, 24) := by kernel_rfl
theorem i50 : asc tb.info 50 = some (.int .u32 0, 1, 4) := by kernel_rfl
theorem i54 : asc tb.info 54 = some (.agg #[.string ⟨#[]⟩, .int .u32 0, .slice none 0 0], 3, 48) := by kernel_rfl
theorem i57 : asc tb.info 57 = some (.int .u64 0, 1, 8) := by kernel_rfl
theorem i60 : asc tb.info 60 = some (.map none, 1, 8) := by kernel_rfl
theorem i64 : asc tb.info 64 = some (.slice none 0 0, 1, 24) := by kernel_rfl
theorem i65 : asc tb.info 65 = some (.agg #[.string ⟨#[]⟩, .int .u32 0, .slice none 0 0], 3, 48) := by kernel_rfl
theorem i68 : asc tb.info 68 = some (.nilFunc, 1, 8) := by kernel_rfl
theorem i69 : asc tb.info 69 = some (.agg #[.int .u64 0, .int .u64 0, .int .u64 0], 3, 24) := by kernel_rfl
theorem tbOk : TbOk Try.prog tb where
  und := by
    intro p hp
    simp only [tb, List.mem_cons, List.not_mem_nil, or_false] at hp
    rcases hp with rfl | rfl | rfl | rfl | rfl | rfl | rfl | rfl | rfl | rfl | rfl | rfl | rfl | rfl | rfl | rfl | rfl | rfl
    · exact Try.underlying3
    · exact Try.underlying4
    · exact Try.underlying5
    · exact Try.underlying9
    · exact Try.underlying22
    · exact Try.underlying23
    · exact Try.underlying30
    · exact Try.underlying32
    · exact Try.underlying37
    · exact Try.underlying42
    · exact Try.underlying50
    · exact Try.underlying54
    · exact Try.underlying57
    · exact Try.underlying60
    · exact Try.underlying64
    · exact Try.underlying65
    · exact Try.underlying68
    · exact Try.underlying69
  info := by
    intro p hp
    simp only [tb, List.mem_cons, List.not_mem_nil, or_false] at hp
    rcases hp with rfl | rfl | rfl | rfl | rfl | rfl | rfl | rfl | rfl | rfl | rfl | rfl | rfl | rfl | rfl | rfl | rfl | rfl
    · kernel_rfl
    · kernel_rfl
    · kernel_rfl
    · kernel_rfl
    · kernel_rfl
    · kernel_rfl
    · kernel_rfl
    · kernel_rfl
    · kernel_rfl
    · kernel_rfl
    · kernel_rfl
    · kernel_rfl
    · kernel_rfl
    · kernel_rfl
    · kernel_rfl
    · kernel_rfl
    · kernel_rfl
    · kernel_rfl
  ag := by intro t ht; simp [tb] at ht
def ty53 : Ty ((List UInt8) × Int × (List Int)) where
  size := 3
  rep := fun F x c => ∃ (ao1 : Option Addr) (cp1 : Nat), c = [strV x.1, .int .u32 x.2.1, .slice ao1 x.2.2.length cp1] ∧ RO F (tI .u8) (.slice ao1 x.2.2.length cp1) x.2.2
  mono := by
    rintro F F' x c hl ⟨ao1, cp1, rfl, h1⟩
    exact ⟨ao1, cp1, rfl, h1.mono hl⟩
  len := by
    rintro F x c ⟨ao1, cp1, rfl, _⟩
    rfl
  one := by
    rintro F x c ⟨ao1, cp1, rfl, _⟩
    exact allOne_ok rfl
theorem ent15 : Ent Try.prog 15 := ⟨_, Try.func15, by kernel_rfl, by kernel_rfl⟩
theorem ent16 : Ent Try.prog 16 := ⟨_, Try.func16, by kernel_rfl, by kernel_rfl⟩
theorem ent17 : Ent Try.prog 17 := ⟨_, Try.func17, by kernel_rfl, by kernel_rfl⟩
theorem ent18 : Ent Try.prog 18 := ⟨_, Try.func18, by kernel_rfl, by kernel_rfl⟩
theorem ent19 : Ent Try.prog 19 := ⟨_, Try.func19, by kernel_rfl, by kernel_rfl⟩
theorem ent20 : Ent Try.prog 20 := ⟨_, Try.func20, by kernel_rfl, by kernel_rfl⟩
theorem ent21 : Ent Try.prog 21 := ⟨_, Try.func21, by kernel_rfl, by kernel_rfl⟩
theorem ent22 : Ent Try.prog 22 := ⟨_, Try.func22, by kernel_rfl, by kernel_rfl⟩
theorem ent23 : Ent Try.prog 23 := ⟨_, Try.func23, by kernel_rfl, by kernel_rfl⟩
theorem ent24 : Ent Try.prog 24 := ⟨_, Try.func24, by kernel_rfl, by kernel_rfl⟩
theorem ent25 : Ent Try.prog 25 := ⟨_, Try.func25, by kernel_rfl, by kernel_rfl⟩
theorem ent26 : Ent Try.prog 26 := ⟨_, Try.func26, by kernel_rfl, by kernel_rfl⟩
theorem ent27 : Ent Try.prog 27 := ⟨_, Try.func27, by kernel_rfl, by kernel_rfl⟩
theorem ent28 : Ent Try.prog 28 := ⟨_, Try.func28, by kernel_rfl, by kernel_rfl⟩
theorem ent29 : Ent Try.prog 29 := ⟨_, Try.func29, by kernel_rfl, by kernel_rfl⟩
theorem ent30 : Ent Try.prog 30 := ⟨_, Try.func30, by kernel_rfl, by kernel_rfl⟩
theorem ent31 : Ent Try.prog 31 := ⟨_, Try.func31, by kernel_rfl, by kernel_rfl⟩
theorem ent32 : Ent Try.prog 32 := ⟨_, Try.func32, by kernel_rfl, by kernel_rfl⟩
theorem ent33 : Ent Try.prog 33 := ⟨_, Try.func33, by kernel_rfl, by kernel_rfl⟩
theorem ent34 : Ent Try.prog 34 := ⟨_, Try.func34, by kernel_rfl, by kernel_rfl⟩
theorem ent35 : Ent Try.prog 35 := ⟨_, Try.func35, by kernel_rfl, by kernel_rfl⟩
theorem ent36 : Ent Try.prog 36 := ⟨_, Try.func36, by kernel_rfl, by kernel_rfl⟩
theorem ent37 : Ent Try.prog 37 := ⟨_, Try.func37, by kernel_rfl, by kernel_rfl⟩
theorem ent38 : Ent Try.prog 38 := ⟨_, Try.func38, by kernel_rfl, by kernel_rfl⟩
theorem ent39 : Ent Try.prog 39 := ⟨_, Try.func39, by kernel_rfl, by kernel_rfl⟩
theorem ent40 : Ent Try.prog 40 := ⟨_, Try.func40, by kernel_rfl, by kernel_rfl⟩
theorem ent41 : Ent Try.prog 41 := ⟨_, Try.func41, by kernel_rfl, by kernel_rfl⟩
theorem ent42 : Ent Try.prog 42 := ⟨_, Try.func42, by kernel_rfl, by kernel_rfl⟩
theorem ent43 : Ent Try.prog 43 := ⟨_, Try.func43, by kernel_rfl, by kernel_rfl⟩
theorem ent44 : Ent Try.prog 44 := ⟨_, Try.func44, by kernel_rfl, by kernel_rfl⟩
theorem ent45 : Ent Try.prog 45 := ⟨_, Try.func45, by kernel_rfl, by kernel_rfl⟩
theorem ent47 : Ent Try.prog 47 := ⟨_, Try.func47, by kernel_rfl, by kernel_rfl⟩
theorem ent48 : Ent Try.prog 48 := ⟨_, Try.func48, by kernel_rfl, by kernel_rfl⟩
theorem ent49 : Ent Try.prog 49 := ⟨_, Try.func49, by kernel_rfl, by kernel_rfl⟩
theorem ent50 : Ent Try.prog 50 := ⟨_, Try.func50, by kernel_rfl, by kernel_rfl⟩
theorem ent51 : Ent Try.prog 51 := ⟨_, Try.func51, by kernel_rfl, by kernel_rfl⟩
theorem ent53 : Ent Try.prog 53 := ⟨_, Try.func53, by kernel_rfl, by kernel_rfl⟩
theorem ent54 : Ent Try.prog 54 := ⟨_, Try.func54, by kernel_rfl, by kernel_rfl⟩
theorem ent55 : Ent Try.prog 55 := ⟨_, Try.func55, by kernel_rfl, by kernel_rfl⟩
theorem mixed : Try.prog.follows .mixedOrders = true := by kernel_rfl

end Dm
