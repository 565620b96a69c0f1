/-
  The tables of the walks: what the evaluator is told of the program; printed by a program of this repo. No condition.
-/
import Derived.Test.YtdigooncdjnfbaaProg
import Derived.Test.YtdigooncdjnfbaaReg
import Derived.Test.YtdigooncdjnfbaaS
namespace Dm
open Go Go.RowKit Go.Proofs

theorem bdz {α ρ : Type} {m : Option α} {x : α} {f : α → Option ρ} (h : m = some x) : m.bind f = f x := by rw [h]; rfl

def tb : Tb := ⟨[(3, .int .i64), (5, .int .u8), (9, .string), (22, .slice 5), (23, .int .u64), (38, .int .u64), (40, .array 8 5)],
  [(3, .int .i64 0, 1, 8), (5, .int .u8 0, 1, 1), (9, .string ⟨#[]⟩, 1, 16), (22, .slice none 0 0, 1, 24), (23, .int .u64 0, 1, 8), (38, .int .u64 0, 1, 8), (40, .agg #[.int .u8 0, .int .u8 0, .int .u8 0, .int .u8 0, .int .u8 0, .int .u8 0, .int .u8 0, .int .u8 0], 8, 8)], []⟩
theorem u3 : asc tb.und 3 = some (.int .i64) := by kernel_rfl
theorem u5 : asc tb.und 5 = some (.int .u8) := by kernel_rfl
theorem u9 : asc tb.und 9 = some (.string) := by kernel_rfl
theorem u22 : asc tb.und 22 = some (.slice 5) := by kernel_rfl
theorem u23 : asc tb.und 23 = some (.int .u64) := by kernel_rfl
theorem u38 : asc tb.und 38 = some (.int .u64) := by kernel_rfl
theorem u40 : asc tb.und 40 = some (.array 8 5) := by kernel_rfl
theorem i3 : asc tb.info 3 = some (.int .i64 0, 1, 8) := by kernel_rfl
theorem i5 : asc tb.info 5 = some (.int .u8 0, 1, 1) := by kernel_rfl
theorem i9 : asc tb.info 9 = some (.string ⟨#[]⟩, 1, 16) := by kernel_rfl
theorem i22 : asc tb.info 22 = some (.slice none 0 0, 1, 24) := by kernel_rfl
theorem i23 : asc tb.info 23 = some (.int .u64 0, 1, 8) := by kernel_rfl
theorem i38 : asc tb.info 38 = some (.int .u64 0, 1, 8) := by kernel_rfl
theorem i40 : asc tb.info 40 = some (.agg #[.int .u8 0, .int .u8 0, .int .u8 0, .int .u8 0, .int .u8 0, .int .u8 0, .int .u8 0, .int .u8 0], 8, 8) := by kernel_rfl
theorem tbOk : TbOk Try.prog tb where
  und := by
    intro p hp
    simp only [tb, List.mem_cons, List.not_mem_nil, or_false] at hp
    rcases hp with rfl | rfl | rfl | rfl | rfl | rfl | rfl
    · exact Try.underlying3
    · exact Try.underlying5
    · exact Try.underlying9
    · exact Try.underlying22
    · exact Try.underlying23
    · exact Try.underlying38
    · exact Try.underlying40
  info := by
    intro p hp
    simp only [tb, List.mem_cons, List.not_mem_nil, or_false] at hp
    rcases hp with rfl | rfl | rfl | rfl | rfl | rfl | rfl
    · kernel_rfl
    · kernel_rfl
    · kernel_rfl
    · kernel_rfl
    · kernel_rfl
    · kernel_rfl
    · kernel_rfl
  ag := by intro t ht; simp [tb] at ht
theorem ent11 : Ent Try.prog 11 := ⟨_, Try.func11, by kernel_rfl, by kernel_rfl⟩
theorem ent12 : Ent Try.prog 12 := ⟨_, Try.func12, by kernel_rfl, by kernel_rfl⟩
theorem ent13 : Ent Try.prog 13 := ⟨_, Try.func13, by kernel_rfl, by kernel_rfl⟩
theorem ent14 : Ent Try.prog 14 := ⟨_, Try.func14, by kernel_rfl, by kernel_rfl⟩
theorem ent16 : Ent Try.prog 16 := ⟨_, Try.func16, by kernel_rfl, by kernel_rfl⟩
theorem ent17 : Ent Try.prog 17 := ⟨_, Try.func17, by kernel_rfl, by kernel_rfl⟩
theorem ent18 : Ent Try.prog 18 := ⟨_, Try.func18, by kernel_rfl, by kernel_rfl⟩
theorem ent20 : Ent Try.prog 20 := ⟨_, Try.func20, by kernel_rfl, by kernel_rfl⟩
theorem ent23 : Ent Try.prog 23 := ⟨_, Try.func23, by kernel_rfl, by kernel_rfl⟩
theorem ent24 : Ent Try.prog 24 := ⟨_, Try.func24, by kernel_rfl, by kernel_rfl⟩
theorem ent25 : Ent Try.prog 25 := ⟨_, Try.func25, by kernel_rfl, by kernel_rfl⟩
theorem ent26 : Ent Try.prog 26 := ⟨_, Try.func26, by kernel_rfl, by kernel_rfl⟩
theorem ent27 : Ent Try.prog 27 := ⟨_, Try.func27, by kernel_rfl, by kernel_rfl⟩
theorem ent28 : Ent Try.prog 28 := ⟨_, Try.func28, by kernel_rfl, by kernel_rfl⟩
theorem ent30 : Ent Try.prog 30 := ⟨_, Try.func30, by kernel_rfl, by kernel_rfl⟩
theorem mixed : Try.prog.follows .mixedOrders = true := by kernel_rfl

end Dm
