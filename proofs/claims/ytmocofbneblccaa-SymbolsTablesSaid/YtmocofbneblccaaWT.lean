/-
  The tables of the walks: what the evaluator is told of the program; printed by a program of this repo. No condition.
-/
import Derived.Test.YtmocofbneblccaaProg
import Derived.Test.YtmocofbneblccaaReg
import Derived.Test.YtmocofbneblccaaS
namespace Dm
open Go Go.RowKit Go.Proofs

theorem bdz {α ρ : Type} {m : Option α} {x : α} {f : α → Option ρ} (h : m = some x) : m.bind f = f x := by rw [h]; rfl

def tb : Tb := ⟨[(3, .int .i64), (4, .bool), (5, .int .u8), (9, .string), (22, .slice 5), (23, .int .u64), (24, .slice 61), (31, .int .u32), (35, .slice 56), (36, .slice 58), (39, .slice 48), (42, .slice 46), (46, .struct #[⟨ "Addr", 23, 0, false, "", "", 0⟩, ⟨ "Prot", 3, 1, false, "", "", 8⟩, ⟨ "Dirty", 4, 2, false, "", "", 16⟩, ⟨ "File", 9, 3, false, "", "", 24⟩, ⟨ "Off", 23, 4, false, "", "", 40⟩, ⟨ "B", 9, 5, false, "", "", 48⟩]), (48, .struct #[⟨ "P", 46, 0, false, "", "", 0⟩, ⟨ "Whole", 4, 6, false, "", "", 64⟩, ⟨ "Sum", 31, 7, false, "", "", 68⟩]), (56, .struct #[⟨ "Addr", 23, 0, false, "", "", 0⟩, ⟨ "Prot", 3, 1, false, "", "", 8⟩, ⟨ "Dirty", 4, 2, false, "", "", 16⟩, ⟨ "File", 9, 3, false, "", "", 24⟩, ⟨ "Off", 23, 4, false, "", "", 40⟩, ⟨ "Bytes", 22, 5, false, "", "", 48⟩]), (58, .struct #[⟨ "Addr", 23, 0, false, "", "", 0⟩, ⟨ "Prot", 3, 1, false, "", "", 8⟩, ⟨ "Dirty", 4, 2, false, "", "", 16⟩, ⟨ "File", 9, 3, false, "", "", 24⟩, ⟨ "Off", 23, 4, false, "", "", 40⟩, ⟨ "Whole", 4, 5, false, "", "", 48⟩, ⟨ "Sum", 31, 6, false, "", "", 52⟩]), (59, .array 256 5), (61, .struct #[⟨ "Name", 9, 0, false, "", "", 0⟩, ⟨ "Bytes", 22, 1, false, "", "", 16⟩]), (63, .int .u16), (65, .struct #[⟨ "Name", 31, 0, false, "", "", 0⟩, ⟨ "Info", 5, 1, false, "", "", 4⟩, ⟨ "Other", 5, 2, false, "", "", 5⟩, ⟨ "Sect", 63, 3, false, "", "", 6⟩, ⟨ "Value", 23, 4, false, "", "", 8⟩, ⟨ "Size", 23, 5, false, "", "", 16⟩]), (69, .slice 65), (79, .int .u64), (93, .slice 3)],
  [(3, .int .i64 0, 1, 8), (4, .bool false, 1, 1), (5, .int .u8 0, 1, 1), (9, .string ⟨#[]⟩, 1, 16), (22, .slice none 0 0, 1, 24), (23, .int .u64 0, 1, 8), (24, .slice none 0 0, 1, 24), (31, .int .u32 0, 1, 4), (35, .slice none 0 0, 1, 24), (36, .slice none 0 0, 1, 24), (39, .slice none 0 0, 1, 24), (42, .slice none 0 0, 1, 24), (46, .agg #[.int .u64 0, .int .i64 0, .bool false, .string ⟨#[]⟩, .int .u64 0, .string ⟨#[]⟩], 6, 64), (48, .agg #[.int .u64 0, .int .i64 0, .bool false, .string ⟨#[]⟩, .int .u64 0, .string ⟨#[]⟩, .bool false, .int .u32 0], 8, 72), (56, .agg #[.int .u64 0, .int .i64 0, .bool false, .string ⟨#[]⟩, .int .u64 0, .slice none 0 0], 6, 72), (58, .agg #[.int .u64 0, .int .i64 0, .bool false, .string ⟨#[]⟩, .int .u64 0, .bool false, .int .u32 0], 7, 56), (59, .agg (Array.replicate 256 (.int .u8 0)), 256, 256), (61, .agg #[.string ⟨#[]⟩, .slice none 0 0], 2, 40), (63, .int .u16 0, 1, 2), (65, .agg #[.int .u32 0, .int .u8 0, .int .u8 0, .int .u16 0, .int .u64 0, .int .u64 0], 6, 24), (69, .slice none 0 0, 1, 24), (79, .int .u64 0, 1, 8), (93, .slice none 0 0, 1, 24)], [46, 48, 65]⟩
theorem u3 : asc tb.und 3 = some (.int .i64) := by kernel_rfl
theorem u4 : asc tb.und 4 = some (.bool) := by kernel_rfl
theorem u5 : asc tb.und 5 = some (.int .u8) := by kernel_rfl
theorem u9 : asc tb.und 9 = some (.string) := by kernel_rfl
theorem u22 : asc tb.und 22 = some (.slice 5) := by kernel_rfl
theorem u23 : asc tb.und 23 = some (.int .u64) := by kernel_rfl
theorem u24 : asc tb.und 24 = some (.slice 61) := by kernel_rfl
theorem u31 : asc tb.und 31 = some (.int .u32) := by kernel_rfl
theorem u35 : asc tb.und 35 = some (.slice 56) := by kernel_rfl
theorem u36 : asc tb.und 36 = some (.slice 58) := by kernel_rfl
theorem u39 : asc tb.und 39 = some (.slice 48) := by kernel_rfl
theorem u42 : asc tb.und 42 = some (.slice 46) := by kernel_rfl
theorem u46 : asc tb.und 46 = some (.struct #[⟨ "Addr", 23, 0, false, "", "", 0⟩, ⟨ "Prot", 3, 1, false, "", "", 8⟩, ⟨ "Dirty", 4, 2, false, "", "", 16⟩, ⟨ "File", 9, 3, false, "", "", 24⟩, ⟨ "Off", 23, 4, false, "", "", 40⟩, ⟨ "B", 9, 5, false, "", "", 48⟩]) := by kernel_rfl
theorem u48 : asc tb.und 48 = some (.struct #[⟨ "P", 46, 0, false, "", "", 0⟩, ⟨ "Whole", 4, 6, false, "", "", 64⟩, ⟨ "Sum", 31, 7, false, "", "", 68⟩]) := by kernel_rfl
theorem u56 : asc tb.und 56 = some (.struct #[⟨ "Addr", 23, 0, false, "", "", 0⟩, ⟨ "Prot", 3, 1, false, "", "", 8⟩, ⟨ "Dirty", 4, 2, false, "", "", 16⟩, ⟨ "File", 9, 3, false, "", "", 24⟩, ⟨ "Off", 23, 4, false, "", "", 40⟩, ⟨ "Bytes", 22, 5, false, "", "", 48⟩]) := by kernel_rfl
theorem u58 : asc tb.und 58 = some (.struct #[⟨ "Addr", 23, 0, false, "", "", 0⟩, ⟨ "Prot", 3, 1, false, "", "", 8⟩, ⟨ "Dirty", 4, 2, false, "", "", 16⟩, ⟨ "File", 9, 3, false, "", "", 24⟩, ⟨ "Off", 23, 4, false, "", "", 40⟩, ⟨ "Whole", 4, 5, false, "", "", 48⟩, ⟨ "Sum", 31, 6, false, "", "", 52⟩]) := by kernel_rfl
theorem u59 : asc tb.und 59 = some (.array 256 5) := by kernel_rfl
theorem u61 : asc tb.und 61 = some (.struct #[⟨ "Name", 9, 0, false, "", "", 0⟩, ⟨ "Bytes", 22, 1, false, "", "", 16⟩]) := by kernel_rfl
theorem u63 : asc tb.und 63 = some (.int .u16) := by kernel_rfl
theorem u65 : asc tb.und 65 = some (.struct #[⟨ "Name", 31, 0, false, "", "", 0⟩, ⟨ "Info", 5, 1, false, "", "", 4⟩, ⟨ "Other", 5, 2, false, "", "", 5⟩, ⟨ "Sect", 63, 3, false, "", "", 6⟩, ⟨ "Value", 23, 4, false, "", "", 8⟩, ⟨ "Size", 23, 5, false, "", "", 16⟩]) := by kernel_rfl
theorem u69 : asc tb.und 69 = some (.slice 65) := by kernel_rfl
theorem u79 : asc tb.und 79 = some (.int .u64) := by kernel_rfl
theorem u93 : asc tb.und 93 = some (.slice 3) := by kernel_rfl
theorem i3 : asc tb.info 3 = some (.int .i64 0, 1, 8) := by kernel_rfl
theorem i4 : asc tb.info 4 = some (.bool false, 1, 1) := by kernel_rfl
theorem i5 : asc tb.info 5 = some (.int .u8 0, 1, 1) := by kernel_rfl
theorem i9 : asc tb.info 9 = some (.string ⟨#[]⟩, 1, 16) := by kernel_rfl
theorem i22 : asc tb.info 22 = some (.slice none 0 0, 1, 24) := by kernel_rfl
theorem i23 : asc tb.info 23 = some (.int .u64 0, 1, 8) := by kernel_rfl
theorem i24 : asc tb.info 24 = some (.slice none 0 0, 1, 24) := by kernel_rfl
theorem i31 : asc tb.info 31 = some (.int .u32 0, 1, 4) := by kernel_rfl
theorem i35 : asc tb.info 35 = some (.slice none 0 0, 1, 24) := by kernel_rfl
theorem i36 : asc tb.info 36 = some (.slice none 0 0, 1, 24) := by kernel_rfl
theorem i39 : asc tb.info 39 = some (.slice none 0 0, 1, 24) := by kernel_rfl
theorem i42 : asc tb.info 42 = some (.slice none 0 0, 1, 24) := by kernel_rfl
theorem i46 : asc tb.info 46 = some (.agg #[.int .u64 0, .int .i64 0, .bool false, .string ⟨#[]⟩, .int .u64 0, .string ⟨#[]⟩], 6, 64) := by kernel_rfl
theorem i48 : asc tb.info 48 = some (.agg #[.int .u64 0, .int .i64 0, .bool false, .string ⟨#[]⟩, .int .u64 0, .string ⟨#[]⟩, .bool false, .int .u32 0], 8, 72) := by kernel_rfl
theorem i56 : asc tb.info 56 = some (.agg #[.int .u64 0, .int .i64 0, .bool false, .string ⟨#[]⟩, .int .u64 0, .slice none 0 0], 6, 72) := by kernel_rfl
theorem i58 : asc tb.info 58 = some (.agg #[.int .u64 0, .int .i64 0, .bool false, .string ⟨#[]⟩, .int .u64 0, .bool false, .int .u32 0], 7, 56) := by kernel_rfl
theorem i59 : asc tb.info 59 = some (.agg (Array.replicate 256 (.int .u8 0)), 256, 256) := by kernel_rfl
theorem i61 : asc tb.info 61 = some (.agg #[.string ⟨#[]⟩, .slice none 0 0], 2, 40) := by kernel_rfl
theorem i63 : asc tb.info 63 = some (.int .u16 0, 1, 2) := by kernel_rfl
theorem i65 : asc tb.info 65 = some (.agg #[.int .u32 0, .int .u8 0, .int .u8 0, .int .u16 0, .int .u64 0, .int .u64 0], 6, 24) := by kernel_rfl
theorem i69 : asc tb.info 69 = some (.slice none 0 0, 1, 24) := by kernel_rfl
theorem i79 : asc tb.info 79 = some (.int .u64 0, 1, 8) := by kernel_rfl
theorem i93 : asc tb.info 93 = some (.slice none 0 0, 1, 24) := by kernel_rfl
theorem tbOk : TbOk Try.prog tb where
  und := by
    intro p hp
    simp only [tb, List.mem_cons, List.not_mem_nil, or_false] at hp
    rcases hp with rfl | rfl | rfl | rfl | rfl | rfl | rfl | rfl | rfl | rfl | rfl | rfl | rfl | rfl | rfl | rfl | rfl | rfl | rfl | rfl | rfl | rfl | rfl
    · exact Try.underlying3
    · exact Try.underlying4
    · exact Try.underlying5
    · exact Try.underlying9
    · exact Try.underlying22
    · exact Try.underlying23
    · exact Try.underlying24
    · exact Try.underlying31
    · exact Try.underlying35
    · exact Try.underlying36
    · exact Try.underlying39
    · exact Try.underlying42
    · exact Try.underlying46
    · exact Try.underlying48
    · exact Try.underlying56
    · exact Try.underlying58
    · exact Try.underlying59
    · exact Try.underlying61
    · exact Try.underlying63
    · exact Try.underlying65
    · exact Try.underlying69
    · exact Try.underlying79
    · exact Try.underlying93
  info := by
    intro p hp
    simp only [tb, List.mem_cons, List.not_mem_nil, or_false] at hp
    rcases hp with rfl | rfl | rfl | rfl | rfl | rfl | rfl | rfl | rfl | rfl | rfl | rfl | rfl | rfl | rfl | rfl | rfl | rfl | rfl | rfl | rfl | rfl | rfl
    · kernel_rfl
    · kernel_rfl
    · kernel_rfl
    · kernel_rfl
    · kernel_rfl
    · kernel_rfl
    · kernel_rfl
    · kernel_rfl
    · kernel_rfl
    · kernel_rfl
    · kernel_rfl
    · kernel_rfl
    · kernel_rfl
    · kernel_rfl
    · kernel_rfl
    · kernel_rfl
    · kernel_rfl
    · kernel_rfl
    · kernel_rfl
    · kernel_rfl
    · kernel_rfl
    · kernel_rfl
    · kernel_rfl
  ag := by
    intro t ht
    simp only [tb, List.mem_cons, List.not_mem_nil, or_false] at ht
    rcases ht with rfl | rfl | rfl
    · exact ⟨by kernel_rfl, by kernel_rfl⟩
    · exact ⟨by kernel_rfl, by kernel_rfl⟩
    · exact ⟨by kernel_rfl, by kernel_rfl⟩
def ty60 : Ty ((List UInt8) × (List Int)) where
  size := 2
  rep := fun F x c => ∃ (ao1 : Option Addr) (cp1 : Nat), c = [strV x.1, .slice ao1 x.2.length cp1] ∧ RO F (tI .u8) (.slice ao1 x.2.length cp1) x.2
  mono := by
    rintro F F' x c hl ⟨ao1, cp1, rfl, h1⟩
    exact ⟨ao1, cp1, rfl, h1.mono hl⟩
  len := by
    rintro F x c ⟨ao1, cp1, rfl, _⟩
    rfl
  one := by
    rintro F x c ⟨ao1, cp1, rfl, _⟩
    exact allOne_ok rfl
def ty55 : Ty (Int × Int × Bool × (List UInt8) × Int × (List Int)) where
  size := 6
  rep := fun F x c => ∃ (ao1 : Option Addr) (cp1 : Nat), c = [.int .u64 x.1, .int .i64 x.2.1, .bool x.2.2.1, strV x.2.2.2.1, .int .u64 x.2.2.2.2.1, .slice ao1 x.2.2.2.2.2.length cp1] ∧ RO F (tI .u8) (.slice ao1 x.2.2.2.2.2.length cp1) x.2.2.2.2.2
  mono := by
    rintro F F' x c hl ⟨ao1, cp1, rfl, h1⟩
    exact ⟨ao1, cp1, rfl, h1.mono hl⟩
  len := by
    rintro F x c ⟨ao1, cp1, rfl, _⟩
    rfl
  one := by
    rintro F x c ⟨ao1, cp1, rfl, _⟩
    exact allOne_ok rfl
def ty57 : Ty (Int × Int × Bool × (List UInt8) × Int × Bool × Int) := tF 7 (fun x => [.int .u64 x.1, .int .i64 x.2.1, .bool x.2.2.1, strV x.2.2.2.1, .int .u64 x.2.2.2.2.1, .bool x.2.2.2.2.2.1, .int .u32 x.2.2.2.2.2.2]) (fun _ => rfl) (fun x => allOne_ok (l := [.int .u64 x.1, .int .i64 x.2.1, .bool x.2.2.1, strV x.2.2.2.1, .int .u64 x.2.2.2.2.1, .bool x.2.2.2.2.2.1, .int .u32 x.2.2.2.2.2.2]) rfl)
theorem flat57 : Flat ty57 := flat_tF
def ty45 : Ty (Int × Int × Bool × (List UInt8) × Int × (List UInt8)) := tF 6 (fun x => [.int .u64 x.1, .int .i64 x.2.1, .bool x.2.2.1, strV x.2.2.2.1, .int .u64 x.2.2.2.2.1, strV x.2.2.2.2.2]) (fun _ => rfl) (fun x => allOne_ok (l := [.int .u64 x.1, .int .i64 x.2.1, .bool x.2.2.1, strV x.2.2.2.1, .int .u64 x.2.2.2.2.1, strV x.2.2.2.2.2]) rfl)
theorem flat45 : Flat ty45 := flat_tF
def ty47 : Ty ((Int × Int × Bool × (List UInt8) × Int × (List UInt8)) × Bool × Int) := tF 8 (fun x => [.int .u64 x.1.1, .int .i64 x.1.2.1, .bool x.1.2.2.1, strV x.1.2.2.2.1, .int .u64 x.1.2.2.2.2.1, strV x.1.2.2.2.2.2, .bool x.2.1, .int .u32 x.2.2]) (fun _ => rfl) (fun x => allOne_ok (l := [.int .u64 x.1.1, .int .i64 x.1.2.1, .bool x.1.2.2.1, strV x.1.2.2.2.1, .int .u64 x.1.2.2.2.2.1, strV x.1.2.2.2.2.2, .bool x.2.1, .int .u32 x.2.2]) rfl)
theorem flat47 : Flat ty47 := flat_tF
def ty64 : Ty (Int × Int × Int × Int × Int × Int) := tF 6 (fun x => [.int .u32 x.1, .int .u8 x.2.1, .int .u8 x.2.2.1, .int .u16 x.2.2.2.1, .int .u64 x.2.2.2.2.1, .int .u64 x.2.2.2.2.2]) (fun _ => rfl) (fun x => allOne_ok (l := [.int .u32 x.1, .int .u8 x.2.1, .int .u8 x.2.2.1, .int .u16 x.2.2.2.1, .int .u64 x.2.2.2.2.1, .int .u64 x.2.2.2.2.2]) rfl)
theorem flat64 : Flat ty64 := flat_tF
theorem ent13 : Ent Try.prog 13 := ⟨_, Try.func13, by kernel_rfl, by kernel_rfl⟩
theorem ent14 : Ent Try.prog 14 := ⟨_, Try.func14, by kernel_rfl, by kernel_rfl⟩
theorem ent15 : Ent Try.prog 15 := ⟨_, Try.func15, by kernel_rfl, by kernel_rfl⟩
theorem ent16 : Ent Try.prog 16 := ⟨_, Try.func16, by kernel_rfl, by kernel_rfl⟩
theorem ent17 : Ent Try.prog 17 := ⟨_, Try.func17, by kernel_rfl, by kernel_rfl⟩
theorem ent18 : Ent Try.prog 18 := ⟨_, Try.func18, by kernel_rfl, by kernel_rfl⟩
theorem ent19 : Ent Try.prog 19 := ⟨_, Try.func19, by kernel_rfl, by kernel_rfl⟩
theorem ent20 : Ent Try.prog 20 := ⟨_, Try.func20, by kernel_rfl, by kernel_rfl⟩
theorem ent21 : Ent Try.prog 21 := ⟨_, Try.func21, by kernel_rfl, by kernel_rfl⟩
theorem ent22 : Ent Try.prog 22 := ⟨_, Try.func22, by kernel_rfl, by kernel_rfl⟩
theorem ent23 : Ent Try.prog 23 := ⟨_, Try.func23, by kernel_rfl, by kernel_rfl⟩
theorem ent24 : Ent Try.prog 24 := ⟨_, Try.func24, by kernel_rfl, by kernel_rfl⟩
theorem ent25 : Ent Try.prog 25 := ⟨_, Try.func25, by kernel_rfl, by kernel_rfl⟩
theorem ent26 : Ent Try.prog 26 := ⟨_, Try.func26, by kernel_rfl, by kernel_rfl⟩
theorem ent27 : Ent Try.prog 27 := ⟨_, Try.func27, by kernel_rfl, by kernel_rfl⟩
theorem ent28 : Ent Try.prog 28 := ⟨_, Try.func28, by kernel_rfl, by kernel_rfl⟩
theorem ent29 : Ent Try.prog 29 := ⟨_, Try.func29, by kernel_rfl, by kernel_rfl⟩
theorem ent30 : Ent Try.prog 30 := ⟨_, Try.func30, by kernel_rfl, by kernel_rfl⟩
theorem ent31 : Ent Try.prog 31 := ⟨_, Try.func31, by kernel_rfl, by kernel_rfl⟩
theorem ent32 : Ent Try.prog 32 := ⟨_, Try.func32, by kernel_rfl, by kernel_rfl⟩
theorem ent33 : Ent Try.prog 33 := ⟨_, Try.func33, by kernel_rfl, by kernel_rfl⟩
theorem ent34 : Ent Try.prog 34 := ⟨_, Try.func34, by kernel_rfl, by kernel_rfl⟩
theorem ent35 : Ent Try.prog 35 := ⟨_, Try.func35, by kernel_rfl, by kernel_rfl⟩
theorem ent36 : Ent Try.prog 36 := ⟨_, Try.func36, by kernel_rfl, by kernel_rfl⟩
theorem ent37 : Ent Try.prog 37 := ⟨_, Try.func37, by kernel_rfl, by kernel_rfl⟩
theorem ent38 : Ent Try.prog 38 := ⟨_, Try.func38, by kernel_rfl, by kernel_rfl⟩
theorem ent39 : Ent Try.prog 39 := ⟨_, Try.func39, by kernel_rfl, by kernel_rfl⟩
theorem ent40 : Ent Try.prog 40 := ⟨_, Try.func40, by kernel_rfl, by kernel_rfl⟩
theorem ent41 : Ent Try.prog 41 := ⟨_, Try.func41, by kernel_rfl, by kernel_rfl⟩
theorem ent42 : Ent Try.prog 42 := ⟨_, Try.func42, by kernel_rfl, by kernel_rfl⟩
theorem ent43 : Ent Try.prog 43 := ⟨_, Try.func43, by kernel_rfl, by kernel_rfl⟩
theorem ent44 : Ent Try.prog 44 := ⟨_, Try.func44, by kernel_rfl, by kernel_rfl⟩
theorem ent45 : Ent Try.prog 45 := ⟨_, Try.func45, by kernel_rfl, by kernel_rfl⟩
theorem ent46 : Ent Try.prog 46 := ⟨_, Try.func46, by kernel_rfl, by kernel_rfl⟩
theorem ent47 : Ent Try.prog 47 := ⟨_, Try.func47, by kernel_rfl, by kernel_rfl⟩
theorem ent48 : Ent Try.prog 48 := ⟨_, Try.func48, by kernel_rfl, by kernel_rfl⟩
theorem ent49 : Ent Try.prog 49 := ⟨_, Try.func49, by kernel_rfl, by kernel_rfl⟩
theorem ent50 : Ent Try.prog 50 := ⟨_, Try.func50, by kernel_rfl, by kernel_rfl⟩
theorem ent51 : Ent Try.prog 51 := ⟨_, Try.func51, by kernel_rfl, by kernel_rfl⟩
theorem ent52 : Ent Try.prog 52 := ⟨_, Try.func52, by kernel_rfl, by kernel_rfl⟩
theorem ent53 : Ent Try.prog 53 := ⟨_, Try.func53, by kernel_rfl, by kernel_rfl⟩
theorem ent54 : Ent Try.prog 54 := ⟨_, Try.func54, by kernel_rfl, by kernel_rfl⟩
theorem ent55 : Ent Try.prog 55 := ⟨_, Try.func55, by kernel_rfl, by kernel_rfl⟩
theorem mixed : Try.prog.follows .mixedOrders = true := by kernel_rfl

end Dm
