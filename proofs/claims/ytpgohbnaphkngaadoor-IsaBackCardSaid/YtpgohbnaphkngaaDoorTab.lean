/-
  Tables of the program and of Go's library: package-level variables that nothing writes, told as facts on the heap that does not change; and the library's contracts in the form of the walks. No condition.
-/
import Derived.Test.YtpgohbnaphkngaaDoorShl
import Derived.Test.YtpgohbnaphkngaaDoorExt
import Derived.Test.YtpgohbnaphkngaaDoorReg
import Derived.Lib.LaidTab
namespace Dm
open Go Go.RowKit

/-- the heap holds just these cells in block g -/
def tTab (g : Nat) (cs : List Value) : Ty Unit where
  size := 0
  rep := fun h _ c => c = [] ∧ ∃ T fz, h g = some (.cells cs.toArray T fz)
  mono := by
    rintro h h' x c hl ⟨rfl, T, fz, e⟩
    exact ⟨rfl, T, fz, hl _ _ e⟩
  len := by
    rintro h x c ⟨rfl, _⟩
    rfl
  one := by
    rintro h x c ⟨rfl, _⟩ u hu
    cases hu
/-- the heap holds one int in block g -/
def tNum (g : Nat) : Ty Unit where
  size := 0
  rep := fun h _ c => c = [] ∧ ∃ m, cellH h g 0 = some (.int .i64 m)
  mono := by
    rintro h h' x c hl ⟨rfl, m, e⟩
    exact ⟨rfl, m, cellH_mono hl e⟩
  len := by
    rintro h x c ⟨rfl, _⟩
    rfl
  one := by
    rintro h x c ⟨rfl, _⟩ u hu
    cases hu
abbrev thTab (g : Nat) (cs : List Value) : Th := .ro (tTab g cs) (.slice none 1 1) [()]
abbrev thNum (g : Nat) : Th := .ro (tNum g) (.slice none 1 1) [()]
theorem tab_of {F : SH} {g : Nat} {cs : List Value} (h : RO F (tTab g cs) (.slice none 1 1) [()]) : ∃ T fz, F g = some (.cells cs.toArray T fz) := by
  obtain ⟨ao, cap, ds, _, _, ⟨c, r, _, hc, _⟩, _⟩ := h
  exact hc.2
theorem num_of {F : SH} {g : Nat} (h : RO F (tNum g) (.slice none 1 1) [()]) : ∃ m, cellH F g 0 = some (.int .i64 m) := by
  obtain ⟨ao, cap, ds, _, _, ⟨c, r, _, hc, _⟩, _⟩ := h
  exact hc.2
theorem tab_mk {F : SH} {g : Nat} {cs : List Value} {T : TypeId} {fz : Nat × Nat} (h : F g = some (.cells cs.toArray T fz)) : RO F (tTab g cs) (.slice none 1 1) [()] :=
  ⟨none, 1, [], rfl, Nat.le_refl _, ⟨[], [], rfl, ⟨rfl, T, fz, h⟩, rfl⟩, fun j u hj => by simp at hj⟩
theorem num_mk {F : SH} {g : Nat} {m : Int} (h : cellH F g 0 = some (.int .i64 m)) : RO F (tNum g) (.slice none 1 1) [()] :=
  ⟨none, 1, [], rfl, Nat.le_refl _, ⟨[], [], rfl, ⟨rfl, m, h⟩, rfl⟩, fun j u hj => by simp at hj⟩
/-- what a table of so many elements of a flat type is as a slice -/
theorem tab_RO {α : Type} {n : Nat} {enc : α → List Value} {hl : ∀ x, (enc x).length = n} {ho : ∀ x, ∀ u ∈ enc x, u.oneCell' = true} {F : SH} {g : Nat} {xs : List α} (h : RO F (tTab g (xs.flatMap enc)) (.slice none 1 1) [()]) : RO F (tF n enc hl ho) (.slice (some ⟨g, 0, none⟩) xs.length xs.length) xs := by
  obtain ⟨T, fz, hF⟩ := tab_of h
  have hr : ∀ ys : List α, Reps (tF n enc hl ho) F ys (ys.flatMap enc) := fun ys => by
    induction ys with
    | nil => exact rfl
    | cons y ys ih => exact ⟨enc y, ys.flatMap enc, by simp, rfl, ih⟩
  refine ⟨_, xs.length, xs.flatMap enc, rfl, Nat.le_refl _, hr xs, fun j u hj => ⟨g, 0, rfl, ?_⟩⟩
  unfold cellH
  rw [hF]
  simpa using hj
theorem tab_cells {F : SH} {w : World} (hl : LeH F (hp w)) {g : Nat} {cs : List Value} (h : RO F (tTab g cs) (.slice none 1 1) [()]) : ∃ T fz, w.heap[g]? = some (.cells cs.toArray T fz) := by
  obtain ⟨T, fz, hF⟩ := tab_of h
  exact ⟨T, fz, hl _ _ hF⟩
theorem tab_is {P : Program} {F : SH} {w : World} (hl : LeH F (hp w)) {g : Nat} {k : IntKind} {zs : List Int} (h : RO F (tTab g (zs.map (Value.int k))) (.slice none 1 1) [()]) {name : String} (hn : P.globalNamed name = some g) : Lib.TabIs P w name k zs := by
  obtain ⟨T, fz, hF⟩ := tab_cells hl h
  unfold Lib.TabIs World.var?
  rw [hn]
  simp only [Option.bind_some, hF]
theorem num_cell {F : SH} {w : World} (hl : LeH F (hp w)) {g : Nat} (h : RO F (tNum g) (.slice none 1 1) [()]) : ∃ m, w.cell? ⟨g, 0, none⟩ = some (.int .i64 m) := by
  obtain ⟨m, hF⟩ := num_of h
  exact ⟨m, cellH_cell hl hF⟩

section tab
variable {P : Program} {tb : Tb} {N : Nat} {L : List (Nat × Value)} {ops : Array Oper} {Q : Exit → Act → World → Prop} {rest : List Oper} {a : Act} {w : World} {d : Nat}
/-- v[:], v a package-level array -/
theorem slG (htb : TbOk P tb) {T n e s b0 : Nat} {zv : Value} (hu : asc tb.und T = some (.array n e)) (hti : asc tb.info e = some (zv, s, b0)) {b : Nat} {x : Operand} {g : Option (Nat × Bool)} {pos : String} {after : Array Edge} {ty : TypeId} (hf : Fr N L a) (hd : Nat.blt d N = true) (hg : grd ops L g = some true)
    (hx : evO L x = some (.pointer (some ⟨b, 0, none⟩))) {α : Type} {xs : List α} (hl : xs.length = n) (K : ∀ a', Fr N ((d, .slice (some ⟨b, 0, none⟩) xs.length xs.length) :: er d L) a' → wpList P ops Q rest a' w) :
    wpList P ops Q ({ dst := some d, op := .slice T x none none none, type := ty, pos := pos, after := after, guard := g } :: rest) a w := by
  obtain ⟨inf, hinf, _, hs, _⟩ := htb.i hti
  subst hl
  refine stp hf (v := .slice (some ⟨b, 0, none⟩) xs.length xs.length) hg ?_ (K _ (hf.put hd _))
  have hrun : (Instr.sliceBounds false xs.length xs.length none none none).run P w = .ok (0, xs.length, xs.length) w := by
    unfold Instr.sliceBounds
    simp [Sem.run_pure]
  have e2 : (if xs.length = 0 then (⟨b, 0, none⟩ : Addr) else (⟨b, 0, none⟩ : Addr).add (0 * s)) = ⟨b, 0, none⟩ := by
    split
    · rfl
    · simp [Addr.add]
  simp only [execOp, evO_ok hf hx, Option.map_none, Sem.run_bind, Instr.sliceAt, Instr.sureAddr, Sem.run_pure, asc_und htb hu, Result.andThen, hrun, run_sizeOf w hinf, cellsOf_of hinf hs, Nat.sub_zero, e2]
/-- v[i], v a package-level array: the address -/
theorem ixG (htb : TbOk P tb) {T n e s b0 : Nat} {zv : Value} (hu : asc tb.und T = some (.array n e)) (hti : asc tb.info e = some (zv, s, b0)) (hs : Nat.blt 0 s = true) {α : Type} [Inhabited α] {t : Ty α} (ht : t.size = s) {h F : SH} {b : Nat} {xs : List α} (hln : xs.length = n)
    (hra : RA h F t (.slice (some ⟨b, 0, none⟩) xs.length xs.length) xs) {k : IntKind} {i : Int} (hn : 0 ≤ i ∧ i < xs.length) {x y : Operand} {g : Option (Nat × Bool)} {pos : String} {after : Array Edge} {ty : TypeId} (hf : Fr N L a) (hd : Nat.blt d N = true) (hg : grd ops L g = some true)
    (hx : evO L x = some (.pointer (some ⟨b, 0, none⟩))) (hy : evO L y = some (.int k i)) (K : ∀ pb po c a', CellsAt h ⟨pb, po, none⟩ c → t.rep F (gt xs i) c → Fr N ((d, .pointer (some ⟨pb, po, none⟩)) :: er d L) a' → wpList P ops Q rest a' w) :
    wpList P ops Q ({ dst := some d, op := .indexAddr T x y, type := ty, pos := pos, after := after, guard := g } :: rest) a w := by
  obtain ⟨inf, hinf, _, hsz, _⟩ := htb.i hti
  obtain ⟨bl, o, cap, e1, c, hc, hr⟩ := hra.at (by rw [ht]; exact Nat.le_of_ble_eq_true hs) (gt_at hn.1 hn.2)
  simp only [Value.slice.injEq, Option.some.injEq, Addr.mk.injEq] at e1
  obtain ⟨⟨rfl, rfl, _⟩, _, _⟩ := e1
  refine stp hf (v := .pointer (some ⟨b, 0 + i.toNat * s, none⟩)) hg ?_ (K _ _ c _ (ht ▸ hc) hr (hf.put hd _))
  have hn2 : 0 ≤ i ∧ i < n := by omega
  have hrun : (Instr.indexAt T (.pointer (some ⟨b, 0, none⟩)) (.int k i)).run P w = .ok (.pointer (some ⟨b, 0 + i.toNat * s, none⟩)) w := by
    unfold Instr.indexAt Instr.sureAddr asIntOf
    simp only [Sem.run_bind, Sem.run_pure, asc_und htb hu, Result.andThen]
    rw [if_pos hn2]
    simp only [Sem.run_bind, run_sizeOf w hinf, cellsOf_of hinf hsz, Sem.run_pure, Result.andThen, Addr.add_lit]
  simp only [execOp, evO_ok hf hx, evO_ok hf hy, Sem.run_bind, hrun, Result.andThen, Sem.run_pure]
end tab
end Dm
