/-
  More rules for the walks: boxes (variables in memory, told cell by cell), parts of structs read and written through addresses, results in cells. No condition; nothing of a program is named here.
-/
import Derived.Test.YtpgohbnaphkngaaDoorLib
import Derived.Deep.MidRow
namespace Dm
open Go Go.RowKit

def allOne : List Value → Bool
  | [] => true
  | u :: us => match u.oneCell' with
    | true => allOne us
    | false => false
theorem allOne_ok : ∀ {l : List Value}, allOne l = true → ∀ u ∈ l, u.oneCell' = true
  | [], _, u, hu => by simp at hu
  | x :: xs, h, u, hu => by
    simp only [allOne] at h
    split at h
    · rename_i hx
      rw [List.mem_cons] at hu
      rcases hu with rfl | hu
      · exact hx
      · exact allOne_ok h u hu
    · simp at h
theorem allOne_of : ∀ {l : List Value}, (∀ u ∈ l, u.oneCell' = true) → allOne l = true
  | [], _ => rfl
  | x :: xs, h => by simp only [allOne, h x (by simp)]; exact allOne_of fun u hu => h u (by simp [hu])
/-- a variable of the call's own: its block, its cells -/
structure Bx (w : World) (B b : Nat) (T : TypeId) (cs : List Value) : Prop where
  base : B ≤ b
  obj : w.heap[b]? = some (.cells cs.toArray T (0, 0))
  one : allOne cs = true
/-- as a slice: what the laws on rows apart speak of -/
abbrev bv (b : Nat) : Value := .slice (some ⟨b, 0, none⟩) 1 1
section bx
variable {w w' : World} {B b : Nat} {T : TypeId} {cs : List Value}
theorem Bx.hi (H : Bx w B b T cs) : b < w.heap.size := hp_lt (w := w) H.obj
theorem Bx.lt (H : Bx w B b T cs) : ∀ k, (bv b).ownBlock = some k → B ≤ k ∧ k < w.heap.size := fun k hk => by
  simp only [Value.ownBlock, Option.some.injEq] at hk; subst hk; exact ⟨H.base, H.hi⟩
theorem Bx.rebase {B' : Nat} (hB : B' ≤ B) (H : Bx w B b T cs) : Bx w B' b T cs := ⟨Nat.le_trans hB H.base, H.obj, H.one⟩
theorem Bx.keep {row : Option Nat} (H : Bx w B b T cs) (hg : w.grownBy w' row) (hne : (bv b).ownBlock = none ∨ (bv b).ownBlock ≠ row) : Bx w' B b T cs := by
  refine ⟨H.base, ?_, H.one⟩
  have hne' : some b ≠ row := by
    rcases hne with h | h
    · simp [Value.ownBlock] at h
    · simpa [Value.ownBlock] using h
  rw [hg.block b H.hi hne']; exact H.obj
theorem Bx.ext (H : Bx w B b T cs) (hx : Ext w w') : Bx w' B b T cs := H.keep hx.grown (.inr (by simp [Value.ownBlock]))
theorem Bx.cells (H : Bx w B b T cs) : CellsAt (hp w) ⟨b, 0, none⟩ cs := ⟨rfl, fun j u hj => by
  unfold cellH hp
  rw [H.obj]
  simpa using hj⟩
end bx
theorem Dj.two {w w' : World} {B : Nat} {v v' : Value} (h : ∀ k, v.ownBlock = some k → B ≤ k ∧ k < w.heap.size) (h' : ∀ k, v'.ownBlock = some k → w.heap.size ≤ k ∧ k < w'.heap.size) : Dj v v' :=
  fun k a b => by have h1 := (h k a).2; have h2 := (h' k b).1; omega
theorem CellsAt.lit {h : SH} {p : Addr} {c : List Value} (H : CellsAt h p c) : ∃ b o, p = ⟨b, o, none⟩ := by
  obtain ⟨h1, _⟩ := H
  obtain ⟨b, o, s⟩ := p
  exact ⟨b, o, by simp only at h1; rw [h1]⟩
theorem CellsAt.mono {h h' : SH} (hl : LeH h h') {p : Addr} {c : List Value} (H : CellsAt h p c) : CellsAt h' p c := ⟨H.1, fun j u hj => cellH_mono hl (H.2 j u hj)⟩

section mem
variable {P : Program} {tb : Tb} {ops : Array Oper} {Q : Exit → Act → World → Prop} {N : Nat} {L : List (Nat × Value)} {a : Act} {w : World} {rest : List Oper} {o : Oper} {d : Nat}
theorem ext_alloc (w : World) (ob : Obj) : Ext w (w.alloc ob) := (Below.refl _ _).alloc (Nat.le_refl _) _
theorem bx_new (w : World) {T : TypeId} {cs : List Value} (h1 : allOne cs = true) : Bx (w.alloc (.cells cs.toArray T)) w.heap.size w.heap.size T cs := ⟨Nat.le_refl _, heap_alloc_new w _, h1⟩
/-- x's own variable, with a first value -/
theorem bx {T : TypeId} {x : Operand} {v : Value} (cs : List Value) (hcs : v.cells = cs.toArray) (h1 : allOne cs = true) {g : Option (Nat × Bool)} {pos : String} {after : Array Edge} {ty : TypeId} (hf : Fr N L a) (hd : Nat.blt d N = true) (hg : grd ops L g = some true) (hx : evO L x = some v)
    (K : ∀ w' a', Bx w' w.heap.size w.heap.size T cs → Ext w w' → w.heap.size < w'.heap.size → Fr N ((d, .pointer (some ⟨w.heap.size, 0, none⟩)) :: er d L) a' → wpList P ops Q rest a' w') :
    wpList P ops Q ({ dst := some d, op := .box T x, type := ty, pos := pos, after := after, guard := g } :: rest) a w := by
  refine stp hf (v := .pointer (some ⟨w.heap.size, 0, none⟩)) (w' := w.alloc (.cells cs.toArray T)) hg ?_ (K _ _ (bx_new w h1) (ext_alloc w _) (by simp) (hf.put hd _))
  simp only [execOp, evO_ok hf hx, Instr.box, newVar, hcs, newRow, Sem.run_bind, run_newObj_alloc, Result.andThen, Sem.run_pure]
theorem al (htb : TbOk P tb) {T s b : Nat} {zv : Value} (hti : asc tb.info T = some (zv, s, b)) (cs : List Value) (hcs : zv.cells = cs.toArray) (h1 : allOne cs = true) {g : Option (Nat × Bool)} {pos : String} {after : Array Edge} {ty : TypeId} (hf : Fr N L a) (hd : Nat.blt d N = true) (hg : grd ops L g = some true)
    (K : ∀ w' a', Bx w' w.heap.size w.heap.size T cs → Ext w w' → w.heap.size < w'.heap.size → Fr N ((d, .pointer (some ⟨w.heap.size, 0, none⟩)) :: er d L) a' → wpList P ops Q rest a' w') :
    wpList P ops Q ({ dst := some d, op := .alloc T, type := ty, pos := pos, after := after, guard := g } :: rest) a w := by
  obtain ⟨inf, hinf, hzero, hsize, hby⟩ := htb.i hti
  refine stp hf (v := .pointer (some ⟨w.heap.size, 0, none⟩)) (w' := w.alloc (.cells cs.toArray T)) hg ?_ (K _ _ (bx_new w h1) (ext_alloc w _) (by simp) (hf.put hd _))
  simp only [execOp, Instr.alloc, zeroValue, typeInfo, Sem.run_bind, run_program, Result.andThen, hinf, hzero, Sem.run_pure, newVar, hcs, newRow, run_newObj_alloc]
/-- the value that stands in so many cells -/
def subV (tb : Tb) (T : Nat) (cs : List Value) (o : Nat) : Option Value :=
  match asc tb.und T with
  | some d => (match isAg d with
    | true => (match asc tb.info T with
      | some i => (match Nat.ble (o + i.2.1) cs.length with
        | true => some (.agg ((cs.drop o).take i.2.1).toArray)
        | false => none)
      | none => none)
    | false => cs[o]?)
  | none => none
theorem CellsAt.cell {h : SH} (hl : LeH h (hp w)) {b o : Nat} {cs : List Value} (H : CellsAt h ⟨b, o, none⟩ cs) {j : Nat} {u : Value} (hj : cs[j]? = some u) : w.cell? ⟨b, o + j, none⟩ = some u := cellH_cell hl (H.2 j u hj)
theorem isAg_row (d : TypeDesc) : isAg d = d.isRow := by cases d <;> rfl
theorem run_ldC (htb : TbOk P tb) {T : Nat} {h : SH} {b o : Nat} {cs : List Value} (hc : CellsAt h ⟨b, o, none⟩ cs) {w : World} (hl : LeH h (hp w)) {off : Nat} {v : Value} (hv : subV tb T cs off = some v) :
    (Instr.loadAt T (.pointer (some ⟨b, o + off, none⟩))).run P w = .ok v w := by
  unfold subV at hv
  split at hv
  · rename_i d hu
    split at hv
    · rename_i hag
      split at hv
      · rename_i i hi
        split at hv
        · rename_i hle
          simp only [Option.some.injEq] at hv; subst hv
          obtain ⟨z, s, bb⟩ := i
          obtain ⟨inf, hinf, _, hs, _⟩ := htb.i hi
          have hle' : off + s ≤ cs.length := Nat.le_of_ble_eq_true hle
          refine run_loadAt_mid w b (o + off) T ((cs.drop off).take s) d ?_ (htb.u hu) (by rw [← isAg_row]; exact hag) ?_
          · intro j u hj
            have hj2 : j < s := by
              rcases Nat.lt_or_ge j s with h' | h'
              · exact h'
              · rw [List.getElem?_take_eq_none h'] at hj; cases hj
            rw [List.getElem?_take_of_lt hj2, List.getElem?_drop] at hj
            have := hc.cell hl hj
            rw [Nat.add_assoc]; exact this
          · rw [hinf, Option.map_some, hs, List.length_take, List.length_drop]; congr 1; omega
        · simp at hv
      · simp at hv
    · rename_i hag
      have h2 := hc.cell hl hv
      unfold Instr.loadAt Instr.sureAddr loadVar isAgg
      simp only [Sem.run_bind, Sem.run_pure, Result.andThen, asc_und htb hu]
      cases d <;> simp [isAg] at hag <;> simp [h2]
  · simp at hv
theorem ldC (htb : TbOk P tb) {T : Nat} {h : SH} {b o : Nat} {cs : List Value} (hc : CellsAt h ⟨b, o, none⟩ cs) (hl : LeH h (hp w)) (off : Nat) (v : Value) {x : Operand} {g : Option (Nat × Bool)} {pos : String} {after : Array Edge} {ty : TypeId} (hf : Fr N L a) (hd : Nat.blt d N = true) (hg : grd ops L g = some true)
    (hx : evO L x = some (.pointer (some ⟨b, o + off, none⟩))) (hv : subV tb T cs off = some v) (K : ∀ a', Fr N ((d, v) :: er d L) a' → wpList P ops Q rest a' w) :
    wpList P ops Q ({ dst := some d, op := .load T x, type := ty, pos := pos, after := after, guard := g } :: rest) a w := by
  refine stp hf (v := v) hg ?_ (K _ (hf.put hd _))
  simp only [execOp, evO_ok hf hx, Sem.run_bind, run_ldC htb hc hl hv, Result.andThen, Sem.run_pure]
theorem ldCQ (htb : TbOk P tb) {R : Act → Prop} {T : Nat} {h : SH} {b o : Nat} {cs : List Value} (hc : CellsAt h ⟨b, o, none⟩ cs) (hl : LeH h (hp w)) (off : Nat) (v : Value) {x : Operand} {g : Option (Nat × Bool)} {pos : String} {after : Array Edge} {ty : TypeId} (hf : Fr N L a) (hd : Nat.blt d N = true) (hg : grd ops L g = some true)
    (hx : evO L x = some (.pointer (some ⟨b, o + off, none⟩))) (hv : subV tb T cs off = some v) (K : ∀ a', Fr N ((d, v) :: er d L) a' → wpQuiet P ops (Ext w) R rest a') :
    wpQuiet P ops (Ext w) R ({ dst := some d, op := .load T x, type := ty, pos := pos, after := after, guard := g } :: rest) a := by
  refine stpQ hf (v := v) hg (fun w' hw' => ?_) (K _ (hf.put hd _))
  simp only [execOp, evO_ok hf hx, Sem.run_bind, run_ldC htb hc (hl.trans hw'.le) hv, Result.andThen, Sem.run_pure]

/-! stores -/
def spl : List Value → Nat → List Value → List Value
  | cs, _, [] => cs
  | cs, o, u :: us => spl (cs.set o u) (o + 1) us
theorem spl_length : ∀ (us cs : List Value) (o : Nat), (spl cs o us).length = cs.length
  | [], _, _ => rfl
  | u :: us, cs, o => by rw [spl, spl_length us, List.length_set]
theorem setCells_any : ∀ (us : List Value) (cur : Array Value) (o : Nat) {w : World} {b : Nat} {T : TypeId} {fz : Nat × Nat}, w.heap[b]? = some (.cells cur T fz) →
    (w.setCells b o us).heap[b]? = some (.cells (spl cur.toList o us).toArray T fz) ∧ (∀ k, k ≠ b → (w.setCells b o us).heap[k]? = w.heap[k]?) ∧ (w.setCells b o us).heap.size = w.heap.size ∧
      (w.setCells b o us).os = w.os ∧ (w.setCells b o us).tape = w.tape ∧ (w.setCells b o us).output = w.output
  | [], cur, _, _, _, _, _, h => ⟨h, fun _ _ => rfl, rfl, rfl, rfl, rfl⟩
  | u :: us, cur, o, w, b, T, fz, h => by
    have h1 : (w.setCell ⟨b, o, none⟩ u).heap[b]? = some (.cells (cur.setIfInBounds o u) T fz) := by
      simp only [World.setCell, Array.getElem?_modify, if_true, h, Option.map_some]
      simp
    have h2 : ∀ k, k ≠ b → (w.setCell ⟨b, o, none⟩ u).heap[k]? = w.heap[k]? := by
      intro k hk
      simp only [World.setCell, Array.getElem?_modify, if_neg (Ne.symm hk)]
    obtain ⟨a1, a2, a3, a4, a5, a6⟩ := setCells_any us (cur.setIfInBounds o u) (o + 1) h1
    have hs : (w.setCell ⟨b, o, none⟩ u).heap.size = w.heap.size := by simp [World.setCell]
    refine ⟨?_, fun k hk => (a2 k hk).trans (h2 k hk), a3.trans hs, a4, a5, a6⟩
    rw [Array.toList_setIfInBounds] at a1
    exact a1
theorem setCells_box (us cs : List Value) (o : Nat) {w : World} {b : Nat} {T : TypeId} (h : w.heap[b]? = some (.cells cs.toArray T (0, 0))) :
    (w.setCells b o us).heap[b]? = some (.cells (spl cs o us).toArray T (0, 0)) ∧ (∀ k, k ≠ b → (w.setCells b o us).heap[k]? = w.heap[k]?) ∧ (w.setCells b o us).heap.size = w.heap.size ∧
      (w.setCells b o us).os = w.os ∧ (w.setCells b o us).tape = w.tape ∧ (w.setCells b o us).output = w.output := setCells_any us cs.toArray o h
theorem spl_zero : ∀ (us cs : List Value), us.length ≤ cs.length → spl cs 0 us = us ++ cs.drop us.length
  | [], cs, _ => rfl
  | u :: us, c :: cs, h => by
    have key : ∀ (us : List Value) (cs : List Value) (c : Value) (o : Nat), spl (c :: cs) (o + 1) us = c :: spl cs o us := by
      intro us
      induction us with
      | nil => intro cs c o; rfl
      | cons v us ih => intro cs c o; simp only [spl, List.set_cons_succ]; exact ih _ _ _
    simp only [spl, List.set_cons_zero]
    rw [key, spl_zero us cs (by simpa using h)]
    rfl
theorem spl_mid : ∀ (l : List Value) (n : Nat) (us : List Value), n + us.length ≤ l.length → spl l n us = l.take n ++ (us ++ l.drop (n + us.length))
  | l, 0, us, h => by rw [spl_zero us l (by omega), List.take_zero, List.nil_append, Nat.zero_add]
  | [], n + 1, us, h => by simp at h
  | c :: l, n + 1, us, h => by
    have key : ∀ (us : List Value) (cs : List Value) (c : Value) (o : Nat), spl (c :: cs) (o + 1) us = c :: spl cs o us := by
      intro us
      induction us with
      | nil => intro cs c o; rfl
      | cons v us ih => intro cs c o; simp only [spl, List.set_cons_succ]; exact ih _ _ _
    rw [key, spl_mid l n us (by simp at h; omega), List.take_succ_cons, List.cons_append, show n + 1 + us.length = (n + us.length) + 1 by omega, List.drop_succ_cons]
/-- a part of a variable is written -/
theorem stB (htb : TbOk P tb) {T s b0 : Nat} {zv : Value} (hti : asc tb.info T = some (zv, s, b0)) {B b : Nat} {T' : TypeId} {cs : List Value} (H : Bx w B b T' cs) (off : Nat) (us cs' : List Value) {x y : Operand} {v : Value} (hus : v.cells = us.toArray) (hn : us.length = s) (h1 : allOne us = true)
    (hle : Nat.ble (off + s) cs.length = true) (hcs : spl cs off us = cs') (h2 : allOne cs' = true) {g : Option (Nat × Bool)} {pos : String} {after : Array Edge} {ty : TypeId} (hf : Fr N L a) (hg : grd ops L g = some true)
    (hx : evO L x = some (.pointer (some ⟨b, off, none⟩))) (hy : evO L y = some v)
    (K : ∀ w' a', Bx w' B b T' cs' → w.grownBy w' (bv b).ownBlock → w'.heap.size = w.heap.size → Fr N L a' → wpList P ops Q rest a' w') :
    wpList P ops Q ({ dst := none, op := .store T x y, type := ty, pos := pos, after := after, guard := g } :: rest) a w := by
  obtain ⟨inf, hinf, _, hsize, _⟩ := htb.i hti
  have hle' : off + s ≤ cs.length := Nat.le_of_ble_eq_true hle
  have hcell : ∀ j, j < s → (w.cell? ⟨b, off + j, none⟩).isSome = true ∧ w.frozen? ⟨b, off + j, none⟩ = false := by
    intro j hj
    have h3 : off + j < cs.length := by omega
    constructor
    · have h4 := CellsAt.cell (w := w) (LeH.refl _) H.cells (List.getElem?_eq_getElem h3)
      rw [Nat.zero_add] at h4
      rw [h4]; rfl
    · unfold World.frozen?
      simp [H.obj]
  have hrun : (Instr.storeAt T (.pointer (some ⟨b, off, none⟩)) v).run P w = .ok () (w.setCells b off us) := by
    have h3 := run_storeCells_cells (P := P) b off us 0 w (fun j hj => by simpa using (hcell j (by omega)).1) (fun j hj => by simpa using (hcell j (by omega)).2) (allOne_ok h1)
    simp only [Nat.add_zero] at h3
    unfold Instr.storeAt Instr.sureAddr storeVar
    simp only [Sem.run_bind, Sem.run_pure, Result.andThen, run_sizeOf w hinf, cellsOf_of' hinf hsize, hus]
    simp only [List.size_toArray, hn, ne_eq, not_true_eq_false, if_false, h3]
  obtain ⟨a1, a2, a3, a4, a5, a6⟩ := setCells_box us cs off H.obj
  refine stpS hf (w' := w.setCells b off us) hg ?_ (K _ _ ⟨H.base, by rw [a1, hcs], h2⟩ ⟨a4, a5, a6, Nat.le_of_eq a3.symm, fun k hk hne => a2 k (by simpa [Value.ownBlock] using hne)⟩ a3 (hf.put_none _))
  simp only [execOp, evO_ok hf hx, evO_ok hf hy, Sem.run_bind, hrun, Result.andThen, Sem.run_pure]
end mem

/-! a row of the caller's, handed in to be written -/
theorem _root_.Go.World.grownBy.rfl0 (w : World) (row : Option Nat) : w.grownBy w row := ⟨rfl, rfl, rfl, Nat.le_refl _, fun _ _ _ => rfl⟩
theorem _root_.Go.World.grownBy.tr {w0 w w' : World} {row : Option Nat} (h : w0.grownBy w row) (k : Ext w w') : w0.grownBy w' row :=
  ⟨k.os.trans h.os, k.tape.trans h.tape, k.output.trans h.output, Nat.le_trans h.size k.size, fun i hi hne => (k.block i (Nat.lt_of_lt_of_le hi h.size)).trans (h.block i hi hne)⟩
def Loc (row : Option Nat) (w : World) (v : Value) : Prop := ∀ k, v.ownBlock = some k → row = some k ∨ w.heap.size ≤ k
theorem _root_.Go.World.grownBy.growL {w0 w w' : World} {row : Option Nat} {v : Value} (h : w0.grownBy w row) (hg : w.grownBy w' v.ownBlock) (hr : Loc row w0 v) : w0.grownBy w' row :=
  ⟨hg.os.trans h.os, hg.tape.trans h.tape, hg.output.trans h.output, Nat.le_trans h.size hg.size, fun i hi hne => by
    refine (hg.block i (Nat.lt_of_lt_of_le hi h.size) fun e => ?_).trans (h.block i hi hne)
    rcases hr i e.symm with h' | h'
    · exact hne h'.symm
    · omega⟩
theorem Loc.new {row : Option Nat} {w : World} {v : Value} {w' : World} (h : ∀ k, v.ownBlock = some k → w.heap.size ≤ k ∧ k < w'.heap.size) : Loc row w v := fun k hk => .inr (h k hk).1
theorem Loc.self {w : World} {v : Value} : Loc v.ownBlock w v := fun _ hk => .inl hk
theorem Loc.nil {row : Option Nat} {w : World} : Loc row w (.slice none 0 0) := fun k hk => by simp [Value.ownBlock] at hk
theorem Loc.app {row : Option Nat} {w0 w : World} {v v' : Value} (h : Loc row w0 v) (hloc : ∀ k, v'.ownBlock = some k → v.ownBlock = some k ∨ w.heap.size ≤ k) (hs : w0.heap.size ≤ w.heap.size) : Loc row w0 v' := fun k hk => by
  rcases hloc k hk with h' | h'
  · exact h k h'
  · exact .inr (by omega)

section arr
variable {P : Program} {tb : Tb} {ops : Array Oper} {Q : Exit → Act → World → Prop} {N : Nat} {L : List (Nat × Value)} {a : Act} {w : World} {rest : List Oper} {o : Oper} {d : Nat}
/-! arrays -/
theorem run_ixA (htb : TbOk P tb) {T e n : Nat} (hu : asc tb.und T = some (.array n e)) {D : TypeDesc} (hue : asc tb.und e = some D) (hD : isAg D = false) {z : Value} {b : Nat} (hti : asc tb.info e = some (z, 1, b)) {α : Type} [Inhabited α] (enc : α → Value) {xs : List α} (hn : xs.length = n) {k : IntKind} {i : Int} (hb : 0 ≤ i ∧ i < n) (w : World) :
    (Instr.index T (.agg (xs.map enc).toArray) (.int k i)).run P w = .ok (enc (gt xs i)) w := by
  obtain ⟨inf, hinf, _, hs, _⟩ := htb.i hti
  have hlt : i.toNat < xs.length := by omega
  have hp : (part e (xs.map enc).toArray (i.toNat * 1)).run P w = .ok (enc (gt xs i)) w := by
    refine partT_ok htb ?_ w
    unfold partT
    simp only [hue, hD, Nat.mul_one]
    unfold gt
    rw [List.getD_eq_getElem?_getD, List.getElem?_eq_getElem hlt]
    simp [hlt]
  unfold Instr.index asIntOf
  simp only [Sem.run_bind, Sem.run_pure, asc_und htb hu, Result.andThen]
  rw [if_pos hb]
  simp only [Sem.run_bind, run_sizeOf w hinf, cellsOf_of' hinf hs, Result.andThen, hp]
theorem ixA (htb : TbOk P tb) {T e n : Nat} (hu : asc tb.und T = some (.array n e)) {D : TypeDesc} (hue : asc tb.und e = some D) (hD : isAg D = false) {z : Value} {b : Nat} (hti : asc tb.info e = some (z, 1, b)) {α : Type} [Inhabited α] (enc : α → Value) (xs : List α) (hn : xs.length = n) {k : IntKind} {i : Int} (hb : 0 ≤ i ∧ i < n)
    {x y : Operand} {g : Option (Nat × Bool)} {pos : String} {after : Array Edge} {ty : TypeId} (hf : Fr N L a) (hd : Nat.blt d N = true) (hg : grd ops L g = some true) (hx : evO L x = some (.agg (xs.map enc).toArray)) (hy : evO L y = some (.int k i))
    (K : ∀ a', Fr N ((d, enc (gt xs i)) :: er d L) a' → wpList P ops Q rest a' w) :
    wpList P ops Q ({ dst := some d, op := .index T x y, type := ty, pos := pos, after := after, guard := g } :: rest) a w := by
  refine stp hf (v := enc (gt xs i)) hg ?_ (K _ (hf.put hd _))
  simp only [execOp, evO_ok hf hx, evO_ok hf hy, Sem.run_bind, run_ixA htb hu hue hD hti enc hn hb, Result.andThen, Sem.run_pure]
theorem ixAQ {C : World → Prop} {R : Act → Prop} (htb : TbOk P tb) {T e n : Nat} (hu : asc tb.und T = some (.array n e)) {D : TypeDesc} (hue : asc tb.und e = some D) (hD : isAg D = false) {z : Value} {b : Nat} (hti : asc tb.info e = some (z, 1, b)) {α : Type} [Inhabited α] (enc : α → Value) (xs : List α) (hn : xs.length = n) {k : IntKind} {i : Int} (hb : 0 ≤ i ∧ i < n)
    {x y : Operand} {g : Option (Nat × Bool)} {pos : String} {after : Array Edge} {ty : TypeId} (hf : Fr N L a) (hd : Nat.blt d N = true) (hg : grd ops L g = some true) (hx : evO L x = some (.agg (xs.map enc).toArray)) (hy : evO L y = some (.int k i))
    (K : ∀ a', Fr N ((d, enc (gt xs i)) :: er d L) a' → wpQuiet P ops C R rest a') :
    wpQuiet P ops C R ({ dst := some d, op := .index T x y, type := ty, pos := pos, after := after, guard := g } :: rest) a := by
  refine stpQ hf (v := enc (gt xs i)) hg (fun w _ => ?_) (K _ (hf.put hd _))
  simp only [execOp, evO_ok hf hx, evO_ok hf hy, Sem.run_bind, run_ixA htb hu hue hD hti enc hn hb, Result.andThen, Sem.run_pure]
end arr

/-! results, of which some stand in cells -/
section res
variable {P : Program} {tb : Tb} {N : Nat}
inductive Res1 (P : Program) (L : List (Nat × Value)) (w : World) : ResultVar → Value → Prop where
  | tmp {t v} (h : asc L t = some v) : Res1 P L w (.tmp t) v
  | cell {x T b off v cs} {tb : Tb} (htb : TbOk P tb) (hc : CellsAt (hp w) ⟨b, 0, none⟩ cs) (hx : asc L x = some (.pointer (some ⟨b, 0 + off, none⟩))) (hv : subV tb T cs off = some v) : Res1 P L w (.cell x T) v
inductive ResR (P : Program) (L : List (Nat × Value)) (w : World) : List ResultVar → List Value → Prop where
  | nil : ResR P L w [] []
  | cons {r v rs vs} : Res1 P L w r v → ResR P L w rs vs → ResR P L w (r :: rs) (v :: vs)
theorem mapM_resC {L : List (Nat × Value)} {a : Act} {w : World} (hf : Fr N L a) : ∀ {rs : List ResultVar} {vs : List Value}, ResR P L w rs vs →
    (rs.mapM (fun (r : ResultVar) => (match r with
      | .tmp t => pure (a.tmps.getD t undef)
      | .cell x t => do loadVar t (← asAddr (a.tmps.getD x undef)) : Sem Value))).run P w = .ok vs w
  | _, _, .nil => rfl
  | _, _, .cons (rs := rs) (vs := vs) h hr => by
    rw [List.mapM_cons]
    have ih := mapM_resC hf hr
    cases h with
    | tmp h => simp only [Sem.run_bind, Sem.run_pure, Result.andThen, ih, hf.look h]
    | cell htb hc hx hv =>
      have h1 := run_ldC htb hc (LeH.refl _) hv
      unfold Instr.loadAt Instr.sureAddr at h1
      simp only [Sem.run_bind, Sem.run_pure, Result.andThen] at h1
      have ha : ∀ p, asAddr (.pointer (some p)) = pure p := fun _ => rfl
      simp only [Sem.run_bind, Sem.run_pure, Result.andThen, hf.look hx, ha, h1, ih]
theorem ret_okC {fn : Func} {L : List (Nat × Value)} {a : Act} {w : World} {T : Value → World → Prop} {vs : List Value} (hf : Fr N L a) (hr : ResR P L w fn.results.toList vs) (hT : T (packRes vs) w) :
    bodyPost P fn (Gives T) .ret a w := by
  refine ⟨hf.base.2, packRes vs, ?_, _, rfl, hT⟩
  unfold results
  have h := mapM_resC (P := P) (w := w) hf hr
  rw [Array.mapM_eq_mapM_toList]
  simp only [Sem.run_bind, map_eq_pure_bind, bind_assoc, pure_bind]
  refine Eq.trans (congrArg (fun r => Result.andThen r _) h) ?_
  simp only [Result.andThen, Sem.run_pure]
  clear h hr hT
  match vs with
  | [] => rfl
  | [v] => rfl
  | u :: v :: r => simp [packRes]
end res
end Dm
