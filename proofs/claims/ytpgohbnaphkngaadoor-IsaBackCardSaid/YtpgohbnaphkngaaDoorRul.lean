/-
  Rules for single operations over things (see Sep): elements read and written, append, slices of slices, texts, make, literals, calls of functions and of closures. No condition; nothing of a program is named here.
-/
import Derived.Test.YtpgohbnaphkngaaDoorSep
namespace Dm
open Go Go.RowKit

section rul
variable {P : Program} {tb : Tb} {ops : Array Oper} {Q : Exit → Act → World → Prop} {N : Nat} {L : List (Nat × Value)} {a : Act} {w : World} {rest : List Oper} {o : Oper} {d : Nat}

/-! elements that are read -/
theorem RA.at {α : Type} {t : Ty α} {h F : SH} {v : Value} {xs : List α} (hs : 0 < t.size) (H : RA h F t v xs) {i : Nat} {x : α} (hx : xs[i]? = some x) :
    ∃ b o cap, v = .slice (some ⟨b, o, none⟩) xs.length cap ∧ ∃ c, CellsAt h ⟨b, o + i * t.size, none⟩ c ∧ t.rep F x c := by
  obtain ⟨ao, cap, cs, h1, h2, h3, h4⟩ := H
  have hr := Reps.at i h3 hx
  have hlen := h3.length
  have hi : i < xs.length := by
    rcases Nat.lt_or_ge i xs.length with h' | h'
    · exact h'
    · rw [List.getElem?_eq_none h'] at hx; cases hx
  have hpos : i * t.size < cs.length := by rw [hlen]; exact Nat.mul_lt_mul_of_pos_right hi hs
  obtain ⟨b, o, e1, _⟩ := h4 (i * t.size) _ (List.getElem?_eq_getElem hpos)
  subst e1
  refine ⟨b, o, cap, h1, _, ⟨rfl, fun j u hj => ?_⟩, hr⟩
  have hj2 : j < t.size := by
    rcases Nat.lt_or_ge j t.size with h' | h'
    · exact h'
    · rw [List.getElem?_take_eq_none h'] at hj; cases hj
  rw [List.getElem?_take_of_lt hj2, List.getElem?_drop] at hj
  obtain ⟨b', o', e1, e2⟩ := h4 _ _ hj
  simp only [Option.some.injEq, Addr.mk.injEq] at e1
  obtain ⟨rfl, rfl, _⟩ := e1
  simpa [Nat.add_assoc] using e2
theorem exec_ixR (htb : TbOk P tb) {T e s b : Nat} {zv : Value} (hu : asc tb.und T = some (.slice e)) (hi : asc tb.info e = some (zv, s, b)) (hs : 0 < s) {α : Type} [Inhabited α] {t : Ty α} (ht : t.size = s) {h F : SH} {v : Value} {xs : List α}
    (hra : RA h F t v xs) {k : IntKind} {n : Int} (h0 : 0 ≤ n) (h1 : n < xs.length) :
    ∃ pb po c, CellsAt h ⟨pb, po, none⟩ c ∧ t.rep F (gt xs n) c ∧ ∀ w, (Instr.indexAt T v (.int k n)).run P w = .ok (.pointer (some ⟨pb, po, none⟩)) w := by
  obtain ⟨bl, o, cap, e1, c, hc, hr⟩ := hra.at (by rw [ht]; exact hs) (gt_at h0 h1)
  refine ⟨_, _, c, hc, hr, fun w => ?_⟩
  rw [e1, ht]
  exact run_ix htb hu hi h0 h1 w
/-- xs[n], the address -/
theorem ixR (htb : TbOk P tb) {T e s b : Nat} {zv : Value} (hu : asc tb.und T = some (.slice e)) (hi : asc tb.info e = some (zv, s, b)) (hs : Nat.blt 0 s = true) {α : Type} [Inhabited α] {t : Ty α} (ht : t.size = s) {h F : SH} {v : Value} {xs : List α}
    (hra : RA h F t v xs) {x i : Operand} {k : IntKind} {n : Int} (hn : 0 ≤ n ∧ n < xs.length) {g : Option (Nat × Bool)} {pos : String} {after : Array Edge} {ty : TypeId} (hf : Fr N L a) (hd : Nat.blt d N = true) (hg : grd ops L g = some true)
    (hx : evO L x = some v) (hi2 : evO L i = some (.int k n)) (K : ∀ pb po c a', CellsAt h ⟨pb, po, none⟩ c → t.rep F (gt xs n) c → Fr N ((d, .pointer (some ⟨pb, po, none⟩)) :: er d L) a' → wpList P ops Q rest a' w) :
    wpList P ops Q ({ dst := some d, op := .indexAddr T x i, type := ty, pos := pos, after := after, guard := g } :: rest) a w := by
  obtain ⟨pb, po, c, hc, hr, hrun⟩ := exec_ixR htb hu hi (Nat.le_of_ble_eq_true hs) ht hra (k := k) hn.1 hn.2
  refine stp hf (v := .pointer (some ⟨pb, po, none⟩)) hg ?_ (K pb po c _ hc hr (hf.put hd _))
  simp only [execOp, evO_ok hf hx, evO_ok hf hi2, Sem.run_bind, hrun, Result.andThen, Sem.run_pure]
theorem ixRQ (htb : TbOk P tb) {C : World → Prop} {R : Act → Prop} {T e s b : Nat} {zv : Value} (hu : asc tb.und T = some (.slice e)) (hi : asc tb.info e = some (zv, s, b)) (hs : Nat.blt 0 s = true) {α : Type} [Inhabited α] {t : Ty α} (ht : t.size = s) {h F : SH} {v : Value} {xs : List α}
    (hra : RA h F t v xs) {x i : Operand} {k : IntKind} {n : Int} (hn : 0 ≤ n ∧ n < xs.length) {g : Option (Nat × Bool)} {pos : String} {after : Array Edge} {ty : TypeId} (hf : Fr N L a) (hd : Nat.blt d N = true) (hg : grd ops L g = some true)
    (hx : evO L x = some v) (hi2 : evO L i = some (.int k n)) (K : ∀ pb po c a', CellsAt h ⟨pb, po, none⟩ c → t.rep F (gt xs n) c → Fr N ((d, .pointer (some ⟨pb, po, none⟩)) :: er d L) a' → wpQuiet P ops C R rest a') :
    wpQuiet P ops C R ({ dst := some d, op := .indexAddr T x i, type := ty, pos := pos, after := after, guard := g } :: rest) a := by
  obtain ⟨pb, po, c, hc, hr, hrun⟩ := exec_ixR htb hu hi (Nat.le_of_ble_eq_true hs) ht hra (k := k) hn.1 hn.2
  refine stpQ hf (v := .pointer (some ⟨pb, po, none⟩)) hg (fun w _ => ?_) (K pb po c _ hc hr (hf.put hd _))
  simp only [execOp, evO_ok hf hx, evO_ok hf hi2, Sem.run_bind, hrun, Result.andThen, Sem.run_pure]

/-! append -/
theorem run_apR (htb : TbOk P tb) {T e s b : Nat} {zv : Value} (hu : asc tb.und T = some (.slice e)) (hti : asc tb.info e = some (zv, s, b)) (hs : 0 < s) (hz : zv.cells.size = s) (hb1 : 0 < b) {α : Type} {t : Ty α} (ht : t.size = s) {h : SH} {B : Nat} {v : Value} {xs ys : List α} {ao : Option Addr} {cap n : Nat}
    (hown : Own w B h e t v xs) (hB : B ≤ w.heap.size) (hh : LeH h (hp w)) (hro : RA (hp w) h t (.slice ao n cap) ys) (hbd : (xs.length + ys.length) * b ≤ 140737488355328) (ty : TypeId) :
    ∃ v' w', (Builtin.append_ #[T, T] ty #[v, .slice ao n cap]).run P w = .ok v' w' ∧ Own w' B h e t v' (xs ++ ys) ∧ w.grownBy w' v.ownBlock ∧ (∀ k, v'.ownBlock = some k → v.ownBlock = some k ∨ w.heap.size ≤ k) := by
  obtain ⟨inf, hinf, hzero, hsz, hby⟩ := htb.i hti
  obtain ⟨cs, hor, hr, hn⟩ := hown
  obtain ⟨ao', cap', ds, e1, hc2, hr2, hcell⟩ := hro
  simp only [Value.slice.injEq] at e1
  obtain ⟨rfl, rfl, rfl⟩ := e1
  have hlen := hr2.length
  cases ao with
  | none =>
    have hds : ds = [] := by
      cases ds with
      | nil => rfl
      | cons u r => obtain ⟨_, _, h1, _⟩ := hcell 0 u rfl; cases h1
    have hys : ys = [] := by
      rw [hds, ht] at hlen
      have : ys.length = 0 := by
        rcases Nat.eq_zero_or_pos ys.length with h' | h'
        · exact h'
        · have := Nat.mul_pos h' hs; simp at hlen; omega
      exact List.eq_nil_of_length_eq_zero this
    subst hys
    refine ⟨v, w, ?_, ⟨cs, by simpa using hor, by simpa using hr, hn⟩, ⟨rfl, rfl, rfl, Nat.le_refl _, fun _ _ _ => rfl⟩, fun k hk => .inl hk⟩
    have hu' := htb.u hu
    rcases hor.2 with ⟨rfl, h0⟩ | ⟨g, cp, cur, rfl, _, _, hcp, _⟩
    · simp [Builtin.append_, run_underlying hu', Go.sizeOf, typeInfo, hinf, Builtin.lenOf, Builtin.firstCells]
    · simp [Builtin.append_, run_underlying hu', Go.sizeOf, typeInfo, hinf, Builtin.lenOf, Builtin.firstCells, hcp, storeCells]
  | some p =>
    have hcells : ∀ (j : Nat) (u : Value), ds[j]? = some u → w.cell? (p.add j) = some u := by
      intro j u hj
      obtain ⟨bl, o, h1, h2⟩ := hcell j u hj
      simp only [Option.some.injEq] at h1; subst h1
      rw [Addr.add_lit]; exact cellH_cell (LeH.refl _) h2
    have hle : (xs.length + ys.length) ≤ maxLen := by
      have : (xs.length + ys.length) * 1 ≤ (xs.length + ys.length) * b := Nat.mul_le_mul_left _ hb1
      unfold maxLen; omega
    obtain ⟨v', w', hrun, hor', hgr, hnil⟩ := run_append_own (P := P) w B T ty e inf zv s b (htb.u hu) hinf hzero hsz hby hz hs v xs.length cs (by rw [ht] at hor; exact hor) p ys.length cap ds (by rw [hlen, ht]) hcells (fun u hu => hr2.one u hu) hle hbd hB
    have hloc : ∀ k, v'.ownBlock = some k → v.ownBlock = some k ∨ w.heap.size ≤ k := by
      intro k hk
      rcases hor.2 with ⟨rfl, h0⟩ | ⟨g, cp, cur, rfl, _, hg, hcp, _, hcs, _⟩
      · rcases Nat.eq_zero_or_pos ys.length with hm | hm
        · rw [hnil.2 ⟨rfl, hm⟩] at hk; simp [Value.ownBlock] at hk
        · have h1 : xs.length + ys.length = ys.length := by omega
          rw [h1] at hbd hle
          have h2 := run_append_nil (P := P) w T ty e inf zv (htb.u hu) hinf hzero p ys.length cap ds (by rw [hlen, ht, hsz]) hcells hm (by unfold maxLen at hle; omega) (by rw [hby]; omega)
          rw [hrun] at h2
          simp only [Result.ok.injEq] at h2
          rw [h2.1] at hk; simp only [Value.ownBlock, Option.some.injEq] at hk
          exact .inr (by omega)
      · by_cases hroom : xs.length + ys.length ≤ cp
        · have h2 := run_append_room (P := P) w T ty e inf (htb.u hu) hinf g xs.length cp cur hg p ys.length cap ds (by rw [hlen, ht, hsz]) hcells (fun u hu => hr2.one u hu) hroom
            (by rw [hlen, hsz, hcs, ht, ← Nat.add_mul]; exact Nat.mul_le_mul_right _ hroom)
          rw [hrun] at h2
          simp only [Result.ok.injEq] at h2
          rw [h2.1] at hk
          exact .inl hk
        · have h2 := run_append_grow (P := P) w T ty e inf zv (htb.u hu) hinf hzero ⟨g, 0, none⟩ xs.length cp cs (by rw [hor.1, ht, hsz]) (hor.cells (g := g) rfl) p ys.length cap ds (by rw [hlen, ht, hsz]) hcells (by omega) (by unfold maxLen at hle; omega) (growslice_fits (by omega) (by rw [hby]; exact hbd))
          rw [hrun] at h2
          simp only [Result.ok.injEq] at h2
          rw [h2.1] at hk; simp only [Value.ownBlock, Option.some.injEq] at hk
          exact .inr (by omega)
    refine ⟨v', w', hrun, ⟨cs ++ ds, ?_, hr.append hr2, fun k hk => ?_⟩, hgr, hloc⟩
    · rw [List.length_append, ht]; exact hor'
    · rcases hloc k hk with h' | h'
      · exact hn k h'
      · exact LeH_none hh h'
/-- v = append(v, ys...) : v owned, ys read -/
theorem apR (htb : TbOk P tb) {T e s b : Nat} {zv : Value} (hu : asc tb.und T = some (.slice e)) (hti : asc tb.info e = some (zv, s, b)) (hs : Nat.blt 0 s = true) (hz : zv.cells.size = s) (hb1 : Nat.blt 0 b = true) {α : Type} {t : Ty α} (ht : t.size = s) {F : SH} {v : Value} {xs ys : List α} {ao : Option Addr} {cap n : Nat}
    (hF : LeH F (hp w)) (hown : Own w 0 F e t v xs) (hro : RA (hp w) F t (.slice ao n cap) ys) (hbd : (xs.length + ys.length) * b ≤ 140737488355328)
    {x y : Operand} {g : Option (Nat × Bool)} {pos : String} {after : Array Edge} {ty : TypeId} (hf : Fr N L a) (hd : Nat.blt d N = true) (hg : grd ops L g = some true) (hx : evO L x = some v) (hy : evO L y = some (.slice ao n cap))
    (K : ∀ ao' cap' w' a', Own w' 0 F e t (.slice ao' (xs ++ ys).length cap') (xs ++ ys) → w.grownBy w' v.ownBlock → (∀ k, (Value.slice ao' (xs ++ ys).length cap').ownBlock = some k → v.ownBlock = some k ∨ w.heap.size ≤ k) → Fr N ((d, .slice ao' (xs ++ ys).length cap') :: er d L) a' → wpList P ops Q rest a' w') :
    wpList P ops Q ({ dst := some d, op := .call { callee := .builtin .append, args := #[x, y], argTypes := #[T, T] }, type := ty, pos := pos, after := after, guard := g } :: rest) a w := by
  obtain ⟨v', w', hrun, hown', hgr, hloc⟩ := run_apR htb hu hti (Nat.le_of_ble_eq_true hs) hz (Nat.le_of_ble_eq_true hb1) ht hown (Nat.zero_le _) hF hro hbd ty
  obtain ⟨ao', cap', e1⟩ := hown'.shape
  subst e1
  refine stp hf (v := .slice ao' (xs ++ ys).length cap') (w' := w') hg ?_ (K ao' cap' w' _ hown' hgr hloc (hf.put hd _))
  refine exec_builtin (A := [x, y]) (vs := [v, .slice ao n cap]) hf (by simp only [evL, hx, hy]) fun consts => ?_
  simp only [builtin, Sem.run_bind, hrun, Result.andThen, Sem.run_pure]

/-! stores into rows of the call's own -/
theorem Reps.setE {α : Type} {t : Ty α} {h : SH} {y : α} {c' : List Value} (hy : t.rep h y c') : ∀ {xs : List α} {cs : List Value} (i : Nat), i < xs.length → Reps t h xs cs → Reps t h (xs.set i y) (cs.take (i * t.size) ++ (c' ++ cs.drop ((i + 1) * t.size)))
  | [], cs, i, hi, _ => by simp at hi
  | x :: xs, cs, 0, _, ⟨c, r, e, hc, hr⟩ => by
    have h1 := t.len hc
    refine ⟨c', r, ?_, hy, hr⟩
    rw [e, Nat.zero_mul, List.take_zero, List.nil_append, Nat.zero_add, Nat.one_mul, ← h1, List.drop_left]
  | x :: xs, cs, i + 1, hi, ⟨c, r, e, hc, hr⟩ => by
    have h1 := t.len hc
    refine ⟨c, r.take (i * t.size) ++ (c' ++ r.drop ((i + 1) * t.size)), ?_, hc, Reps.setE hy i (by simpa using hi) hr⟩
    have e1 : (i + 1) * t.size = c.length + i * t.size := by rw [h1, Nat.add_mul, Nat.one_mul, Nat.add_comm]
    have e2 : (i + 1 + 1) * t.size = c.length + (i + 1) * t.size := by rw [h1, Nat.add_mul (i + 1), Nat.one_mul, Nat.add_comm]
    rw [e, e2, List.drop_length_add_append, e1, List.take_length_add_append, List.append_assoc]
theorem spl_app (us : List Value) : ∀ (xs ys : List Value) (o : Nat), spl (xs ++ ys) (xs.length + o) us = xs ++ spl ys o us := by
  induction us with
  | nil => intro xs ys o; rfl
  | cons u us ih =>
    intro xs ys o
    simp only [spl]
    rw [List.set_append_right _ _ (by omega), show xs.length + o - xs.length = o by omega, Nat.add_assoc, ih]
theorem spl_left (us : List Value) : ∀ (ys zs : List Value) (o : Nat), o + us.length ≤ ys.length → spl (ys ++ zs) o us = spl ys o us ++ zs := by
  induction us with
  | nil => intro ys zs o _; rfl
  | cons u us ih =>
    intro ys zs o h
    simp only [List.length_cons] at h
    simp only [spl]
    rw [List.set_append_left _ _ (by omega), ih _ _ _ (by rw [List.length_set]; omega)]
theorem setCells_row : ∀ (us : List Value) (cur : Array Value) (o : Nat) {w : World} {b : Nat} {T : TypeId}, w.heap[b]? = some (.cells cur T (0, 0)) →
    (w.setCells b o us).heap[b]? = some (.cells (spl cur.toList o us).toArray T (0, 0)) ∧ (∀ k, k ≠ b → (w.setCells b o us).heap[k]? = w.heap[k]?) ∧ (w.setCells b o us).heap.size = w.heap.size ∧
      (w.setCells b o us).os = w.os ∧ (w.setCells b o us).tape = w.tape ∧ (w.setCells b o us).output = w.output := fun us cur o w b T h => setCells_box us cur.toList o (by simpa using h)
/-- part of an element of a row of the call's own: its address -/
def OwnF (v : Value) (s : Nat) (n : Int) (off : Nat) (p : Addr) : Prop := ∃ g len cap, v = .slice (some ⟨g, 0, none⟩) len cap ∧ p = ⟨g, n.toNat * s + off, none⟩
theorem ixW {w2 : World} (htb : TbOk P tb) {T e s b : Nat} {zv : Value} (hu : asc tb.und T = some (.slice e)) (hti : asc tb.info e = some (zv, s, b)) {α : Type} {t : Ty α} {h : SH} {B : Nat} {v : Value} {xs : List α} (hown : Own w2 B h e t v xs) {x i : Operand} {k : IntKind} {n : Int} (hn : 0 ≤ n ∧ n < xs.length)
    {g : Option (Nat × Bool)} {pos : String} {after : Array Edge} {ty : TypeId} (hf : Fr N L a) (hd : Nat.blt d N = true) (hg : grd ops L g = some true)
    (hx : evO L x = some v) (hi2 : evO L i = some (.int k n)) (K : ∀ pb po a', OwnF v s n 0 ⟨pb, po, none⟩ → Fr N ((d, .pointer (some ⟨pb, po, none⟩)) :: er d L) a' → wpList P ops Q rest a' w) :
    wpList P ops Q ({ dst := some d, op := .indexAddr T x i, type := ty, pos := pos, after := after, guard := g } :: rest) a w := by
  obtain ⟨cs, hor, hr, hnn⟩ := hown
  rcases hor.2 with ⟨_, h0⟩ | ⟨gb, cp, cur, rfl, _⟩
  · omega
  · refine stp hf (v := .pointer (some ⟨gb, 0 + n.toNat * s, none⟩)) hg ?_ (K _ _ _ ⟨gb, _, _, rfl, by rw [Nat.zero_add]; rfl⟩ (hf.put hd _))
    simp only [execOp, evO_ok hf hx, evO_ok hf hi2, Sem.run_bind, run_ix htb hu hti hn.1 hn.2 w, Result.andThen, Sem.run_pure]
theorem ixWQ {w2 : World} (htb : TbOk P tb) {C : World → Prop} {R : Act → Prop} {T e s b : Nat} {zv : Value} (hu : asc tb.und T = some (.slice e)) (hti : asc tb.info e = some (zv, s, b)) {α : Type} {t : Ty α} {h : SH} {B : Nat} {v : Value} {xs : List α} (hown : Own w2 B h e t v xs) {x i : Operand} {k : IntKind} {n : Int} (hn : 0 ≤ n ∧ n < xs.length)
    {g : Option (Nat × Bool)} {pos : String} {after : Array Edge} {ty : TypeId} (hf : Fr N L a) (hd : Nat.blt d N = true) (hg : grd ops L g = some true)
    (hx : evO L x = some v) (hi2 : evO L i = some (.int k n)) (K : ∀ pb po a', OwnF v s n 0 ⟨pb, po, none⟩ → Fr N ((d, .pointer (some ⟨pb, po, none⟩)) :: er d L) a' → wpQuiet P ops C R rest a') :
    wpQuiet P ops C R ({ dst := some d, op := .indexAddr T x i, type := ty, pos := pos, after := after, guard := g } :: rest) a := by
  obtain ⟨cs, hor, hr, hnn⟩ := hown
  rcases hor.2 with ⟨_, h0⟩ | ⟨gb, cp, cur, rfl, _⟩
  · omega
  · refine stpQ hf (v := .pointer (some ⟨gb, 0 + n.toNat * s, none⟩)) hg (fun w' _ => ?_) (K _ _ _ ⟨gb, _, _, rfl, by rw [Nat.zero_add]; rfl⟩ (hf.put hd _))
    simp only [execOp, evO_ok hf hx, evO_ok hf hi2, Sem.run_bind, run_ix htb hu hti hn.1 hn.2 w', Result.andThen, Sem.run_pure]
/-- v[n].f = y : off: where in the element; z: the element behind it, c' its cells -/
theorem stW (htb : TbOk P tb) {T s' b : Nat} {zv : Value} (hti : asc tb.info T = some (zv, s', b)) {e : TypeId} {α : Type} [Inhabited α] {t : Ty α} {s : Nat} (ht : t.size = s) {F : SH} {v : Value} {xs : List α} (hown : Own w 0 F e t v xs) {n : Int} (hn : 0 ≤ n ∧ n < xs.length) {pb po : Nat} (off : Nat) (hp' : OwnF v s n 0 ⟨pb, po, none⟩)
    (us : List Value) {z : α} (hz : ∀ c, t.rep F (gt xs n) c → t.rep F z (spl c off us)) {u : Value} (hus : u.cells = us.toArray) (hul : us.length = s') (h1 : allOne us = true) (hoff : Nat.ble (off + s') s = true)
    {x y : Operand} {g : Option (Nat × Bool)} {pos : String} {after : Array Edge} {ty : TypeId} (hf : Fr N L a) (hg : grd ops L g = some true)
    (hx : evO L x = some (.pointer (some ⟨pb, po + off, none⟩))) (hy : evO L y = some u)
    (K : ∀ w' a', Own w' 0 F e t v (xs.set n.toNat z) → w.grownBy w' v.ownBlock → Fr N L a' → wpList P ops Q rest a' w') :
    wpList P ops Q ({ dst := none, op := .store T x y, type := ty, pos := pos, after := after, guard := g } :: rest) a w := by
  obtain ⟨inf, hinf, hzero, hsize, hby⟩ := htb.i hti
  obtain ⟨gb, len, cap, hv, hpe⟩ := hp'
  simp only [Addr.mk.injEq, and_true] at hpe
  obtain ⟨rfl, rfl⟩ := hpe
  obtain ⟨cs, hor, hr, hnn⟩ := hown
  have hor2 := hor
  obtain ⟨hl0, hor'⟩ := hor2
  have hoff' : off + s' ≤ s := Nat.le_of_ble_eq_true hoff
  obtain ⟨m, rfl⟩ := Int.eq_ofNat_of_zero_le hn.1
  have hm : m < xs.length := by omega
  simp only [Int.toNat_natCast] at *
  rcases hor' with ⟨e1, h0⟩ | ⟨g2, cp, cur, e1, hB, hh, hc, hmx, hsz, htk⟩
  · omega
  subst hv
  simp only [Value.slice.injEq, Option.some.injEq, Addr.mk.injEq, and_true] at e1
  obtain ⟨rfl, rfl, rfl⟩ := e1
  rw [ht] at hsz htk hl0
  have hms : (m + 1) * s ≤ xs.length * s := Nat.mul_le_mul_right _ hm
  have hms' : (m + 1) * s = m * s + s := by rw [Nat.add_mul, Nat.one_mul]
  have hxc : xs.length * s ≤ cap * s := Nat.mul_le_mul_right _ hc
  have hcl : cur.toList.length = cap * s := by rw [Array.length_toList, hsz]
  have hcell : ∀ j, j < s' → (w.cell? ⟨pb, m * s + off + j, none⟩).isSome = true ∧ w.frozen? ⟨pb, m * s + off + j, none⟩ = false := by
    intro j hj
    constructor
    · unfold World.cell?
      have : m * s + off + j < cur.size := by rw [hsz]; omega
      simp [hh, this]
    · unfold World.frozen?
      simp [hh]
  have hrun : (Instr.storeAt T (.pointer (some ⟨pb, m * s + 0 + off, none⟩)) u).run P w = .ok () (w.setCells pb (m * s + off) us) := by
    have h3 := run_storeCells_cells (P := P) pb (m * s + off) us 0 w (fun j hj => by simpa using (hcell j (by omega)).1) (fun j hj => by simpa using (hcell j (by omega)).2) (allOne_ok h1)
    simp only [Nat.add_zero] at h3
    unfold Instr.storeAt Instr.sureAddr storeVar
    simp only [Sem.run_bind, Sem.run_pure, Result.andThen, run_sizeOf w hinf, cellsOf_of' hinf hsize, hus, Nat.add_zero]
    simp only [List.size_toArray, hul, ne_eq, not_true_eq_false, if_false, h3]
  obtain ⟨a1, a2, a3, a4, a5, a6⟩ := setCells_row us cur (m * s + off) hh
  have hgt : xs[m]? = some (gt xs (m : Int)) := by
    have := gt_at (xs := xs) (n := (m : Int)) (by omega) (by omega)
    simpa using this
  have hrm := Reps.at m hr hgt
  rw [ht] at hrm
  have hnew := Reps.setE (hz _ hrm) m hm hr
  rw [ht] at hnew
  have hcut : cs.length = xs.length * s := hl0
  have hmid : ((cs.drop (m * s)).take s).length = s := by rw [List.length_take, List.length_drop]; omega
  have hcs : spl cs (m * s + off) us = cs.take (m * s) ++ (spl ((cs.drop (m * s)).take s) off us ++ cs.drop ((m + 1) * s)) := by
    have e2 : cs = cs.take (m * s) ++ ((cs.drop (m * s)).take s ++ cs.drop ((m + 1) * s)) := by
      have : (cs.drop (m * s)).drop s = cs.drop ((m + 1) * s) := by rw [List.drop_drop, hms']
      rw [← this, List.take_append_drop, List.take_append_drop]
    have e3 : (cs.take (m * s)).length = m * s := by rw [List.length_take]; omega
    conv => lhs; rw [e2]
    rw [show m * s + off = (cs.take (m * s)).length + off by rw [e3], spl_app, spl_left us _ _ off (by rw [hmid, hul]; exact hoff')]
  refine stpS hf (w' := w.setCells pb (m * s + off) us) hg ?_ (K _ _ ⟨spl cs (m * s + off) us, ⟨?_, .inr ⟨pb, cap, (spl cur.toList (m * s + off) us).toArray, ?_, Nat.zero_le _, a1, ?_, hmx, ?_, ?_⟩⟩, ?_, hnn⟩ ⟨a4, a5, a6, Nat.le_of_eq a3.symm, fun k hk hne => a2 k (by simpa [Value.ownBlock] using hne)⟩ (hf.put_none _))
  · simp only [execOp, evO_ok hf hx, evO_ok hf hy, Sem.run_bind, hrun, Result.andThen, Sem.run_pure]
  · rw [spl_length, List.length_set, hcut, ht]
  · rw [List.length_set]
  · rw [List.length_set]; exact hc
  · rw [List.size_toArray, spl_length, hcl, ht]
  · rw [List.length_set, ht, ← htk]
    have e4 : cur.toList = cur.toList.take (xs.length * s) ++ cur.toList.drop (xs.length * s) := (List.take_append_drop _ _).symm
    have e5 : (cur.toList.take (xs.length * s)).length = xs.length * s := by rw [List.length_take, hcl]; omega
    conv => lhs; arg 2; rw [List.toList_toArray, e4]
    rw [spl_left us _ _ _ (by rw [e5, hul]; omega), List.take_append_of_le_length (by rw [spl_length, e5]; exact Nat.le_refl _), List.take_of_length_le (by rw [spl_length, e5]; exact Nat.le_refl _)]
  · rw [hcs]; exact hnew

/-! string(xs) -/
theorem b2sR (htb : TbOk P tb) {src dst e : Nat} (h1 : asc tb.und src = some (.slice e)) (h2 : asc tb.und e = some (.int .u8)) (h3 : asc tb.und dst = some .string) {F : SH} {v : Value} {xs : List Int} (hra : RA (hp w) F (tI .u8) v xs)
    {x : Operand} {g : Option (Nat × Bool)} {pos : String} {after : Array Edge} {ty : TypeId} (hf : Fr N L a) (hd : Nat.blt d N = true) (hg : grd ops L g = some true) (hx : evO L x = some v) (K : ∀ a', Fr N ((d, strV (toStr xs)) :: er d L) a' → wpList P ops Q rest a' w) :
    wpList P ops Q ({ dst := some d, op := .convert src dst x, type := ty, pos := pos, after := after, guard := g } :: rest) a w :=
  b2s htb h1 h2 h3 (hro := by
    obtain ⟨ao, cap, cs, e1, e2, e3, e4⟩ := hra
    exact (⟨ao, cap, cs, e1, e2, e3.flat (flat_I _), e4⟩ : RO (hp w) (tI .u8) v xs)) (LeH.refl _) hf hd hg hx K
theorem b2sRQ (htb : TbOk P tb) {R : Act → Prop} {src dst e : Nat} (h1 : asc tb.und src = some (.slice e)) (h2 : asc tb.und e = some (.int .u8)) (h3 : asc tb.und dst = some .string) {F : SH} {v : Value} {xs : List Int} (hra : RA (hp w) F (tI .u8) v xs)
    {x : Operand} {g : Option (Nat × Bool)} {pos : String} {after : Array Edge} {ty : TypeId} (hf : Fr N L a) (hd : Nat.blt d N = true) (hg : grd ops L g = some true) (hx : evO L x = some v) (K : ∀ a', Fr N ((d, strV (toStr xs)) :: er d L) a' → wpQuiet P ops (Ext w) R rest a') :
    wpQuiet P ops (Ext w) R ({ dst := some d, op := .convert src dst x, type := ty, pos := pos, after := after, guard := g } :: rest) a :=
  b2sQ htb h1 h2 h3 (hro := by
    obtain ⟨ao, cap, cs, e1, e2, e3, e4⟩ := hra
    exact (⟨ao, cap, cs, e1, e2, e3.flat (flat_I _), e4⟩ : RO (hp w) (tI .u8) v xs)) (LeH.refl _) hf hd hg hx K

/-! literals, make -/
theorem bsR (htb : TbOk P tb) {T e s b : Nat} {zv : Value} (hu : asc tb.und T = some (.slice e)) (hti : asc tb.info e = some (zv, s, b)) (hs : Nat.blt 0 s = true) {α : Type} {t : Ty α} {n : Nat} {ps : List (Nat × Operand)} {vs : List (Nat × Value)} {cells : Array Value} (xs : List α) {F : SH} (hF : LeH F (hp w))
    {g : Option (Nat × Bool)} {pos : String} {after : Array Edge} {ty : TypeId} (hf : Fr N L a) (hd : Nat.blt d N = true) (hg : grd ops L g = some true) (hps : evP L ps = some vs) (hsz : Nat.ble (n * s) 16777216 = true) (hc : litCells s n zv vs = some cells)
    (hr : Reps t F xs cells.toList) (hlen : xs.length = n) (K : ∀ w' a', Own w' w.heap.size F e t (.slice (some ⟨w.heap.size, 0, none⟩) xs.length xs.length) xs → Ext w w' → Fr N ((d, .slice (some ⟨w.heap.size, 0, none⟩) xs.length xs.length) :: er d L) a' → wpList P ops Q rest a' w') :
    wpList P ops Q ({ dst := some d, op := .buildSlice T n ps.toArray, type := ty, pos := pos, after := after, guard := g } :: rest) a w := by
  obtain ⟨inf, hinf, hzero, hsize, hby⟩ := htb.i hti
  have hsz' : n * s ≤ 16777216 := Nat.le_of_ble_eq_true hsz
  have hown := own_new (w := w) (e := e) hr (LeH_none hF (Nat.le_refl _)) (by
    rw [hlen]
    have : n * 1 ≤ n * s := Nat.mul_le_mul_left _ (Nat.le_of_ble_eq_true hs)
    unfold maxLen; omega)
  refine stp hf (v := .slice (some ⟨w.heap.size, 0, none⟩) xs.length xs.length) (w' := w.alloc (.cells cells e)) hg ?_ (K _ _ hown ((Below.refl _ _).alloc (Nat.le_refl _) _) (hf.put hd _))
  have hparts : ps.toArray.map (fun (p : Nat × Operand) => (p.1, a.eval p.2)) = vs.toArray := by rw [List.map_toArray, evP_ok hf hps]
  have hrun : (Instr.buildSlice T n vs.toArray).run P w = .ok (.slice (some ⟨w.heap.size, 0, none⟩) n n) (w.alloc (.cells cells e)) := by
    unfold Instr.buildSlice
    simp only [Sem.run_bind, asc_und htb hu, Result.andThen, run_sizeOf w hinf, cellsOf_of hinf hsize]
    rw [if_neg (by omega)]
    unfold litCells at hc
    by_cases h0 : n * s = 0
    · have e0 : ∀ f : Nat → Value, (Array.range 0).map f = #[] := fun f => by simp
      simp only [h0, if_true]
      rw [h0] at hc
      simp only [e0] at hc ⊢
      simp only [hc, newRow, Sem.run_bind, run_newObj_alloc, Result.andThen, Sem.run_pure]
    · simp only [h0, if_false, zeroValue, typeInfo, Sem.run_bind, run_program, Result.andThen, hinf, hzero, Sem.run_pure]
      simp only [hc, newRow, Sem.run_bind, run_newObj_alloc, Result.andThen, Sem.run_pure]
  simp only [execOp, hparts, Sem.run_bind, hrun, Result.andThen, Sem.run_pure, hlen]
theorem made_any {zc : Array Value} (_ : 0 < zc.size) (n : Nat) : (madeCells zc (n * zc.size)).toList = (List.replicate n zc.toList).flatten := by
  induction n with
  | zero => simp [madeCells]
  | succ n ih =>
    rw [List.replicate_succ', List.flatten_append, ← ih]
    unfold madeCells
    simp only [Array.toList_map, Array.toList_range, List.flatten_cons, List.flatten_nil, List.append_nil]
    rw [Nat.add_mul, Nat.one_mul, List.range_add, List.map_append, List.map_map]
    congr 1
    refine List.ext_getElem (by simp) fun i h1 h2 => ?_
    have hi : i < zc.size := by simpa using h2
    simp only [List.getElem_map, List.getElem_range, Function.comp_apply]
    rw [Nat.mul_comm n, Nat.mul_add_mod, Nat.mod_eq_of_lt hi]
    simp [hi]
/-- make([]T, n) -/
theorem mkR (htb : TbOk P tb) {T e s b : Nat} {zv : Value} (hu : asc tb.und T = some (.slice e)) (hti : asc tb.info e = some (zv, s, b)) (hs : Nat.blt 0 s = true) (hb1 : Nat.blt 0 b = true) {α : Type} {t : Ty α} (ht : t.size = s) (hzs : zv.cells.size = s) (z : α) {F : SH} (hF : LeH F (hp w)) (hz : t.rep F z zv.cells.toList) {x y : Operand} {k k' : IntKind} {n : Int}
    (hn : 0 ≤ n ∧ n * b ≤ 281474976710656) {g : Option (Nat × Bool)} {pos : String} {after : Array Edge} {ty : TypeId} (hf : Fr N L a) (hd : Nat.blt d N = true) (hg : grd ops L g = some true) (hx : evO L x = some (.int k n)) (hy : evO L y = some (.int k' n))
    (K : ∀ w' a', Own w' w.heap.size F e t (.slice (some ⟨w.heap.size, 0, none⟩) (List.replicate n.toNat z).length n.toNat) (List.replicate n.toNat z) → Ext w w' → Fr N ((d, .slice (some ⟨w.heap.size, 0, none⟩) (List.replicate n.toNat z).length n.toNat) :: er d L) a' → wpList P ops Q rest a' w') :
    wpList P ops Q ({ dst := some d, op := .makeSlice T x y, type := ty, pos := pos, after := after, guard := g } :: rest) a w := by
  obtain ⟨inf, hinf, hzero, hsize, hby⟩ := htb.i hti
  obtain ⟨m, rfl⟩ := Int.eq_ofNat_of_zero_le hn.1
  have hb1' : 0 < b := Nat.le_of_ble_eq_true hb1
  have hs' : 0 < s := Nat.le_of_ble_eq_true hs
  have h48 : b * m ≤ 281474976710656 := by
    have h2 := hn.2
    have h3 : ((m * b : Nat) : Int) ≤ 281474976710656 := by push_cast; exact h2
    rw [Nat.mul_comm]; omega
  have hm : m ≤ maxLen := by
    have : 1 * m ≤ b * m := Nat.mul_le_mul_right _ hb1'
    unfold maxLen; omega
  obtain ⟨w', hrun, hor, hgr⟩ := run_make_full (P := P) w w.heap.size T e inf zv s (htb.u hu) hinf hzero hsize k k' m (by rw [hby]; exact h48) hm (Nat.le_refl _)
  have hrl : (List.replicate m z).length = m := List.length_replicate
  have hlt : w.heap.size < w'.heap.size := (hor.lt _ rfl).2
  have hown : Own w' w.heap.size F e t (.slice (some ⟨w.heap.size, 0, none⟩) (List.replicate m z).length m) (List.replicate m z) := by
    rw [hrl]
    refine ⟨(madeCells zv.cells (m * s)).toList, by rw [hrl, ht]; exact hor, ?_, fun k hk => ?_⟩
    · rw [← hzs, made_any (by omega)]; exact reps_rep hz m
    · simp only [Value.ownBlock, Option.some.injEq] at hk; rw [← hk]; exact LeH_none hF (Nat.le_refl _)
  refine stp hf (v := .slice (some ⟨w.heap.size, 0, none⟩) m m) (w' := w') hg ?_ ?_
  · simp only [execOp, evO_ok hf hx, evO_ok hf hy, Sem.run_bind, hrun, Result.andThen, Sem.run_pure]
  · refine K w' _ (by simpa using hown) (ext_of_grown hgr) ?_
    simp only [Int.toNat_natCast, hrl]
    exact hf.put hd _

/-! calls of values: functions, closures -/
section calls
variable {f : Nat} {A : List Operand} {vs caps : List Value} {T : Value → World → Prop} {c : Operand}
theorem exec_callV (hent : Ent P f) (hf : Fr N L a) (hA : evL L A = some vs) (hc : evO L c = some (.func (.func f) #[] caps.toArray)) {dst : Option Tmp} {ty : TypeId} {at_ : Array TypeId} {pos : String} {after : Array Edge} {g : Option (Nat × Bool)} :
    (execOp a.eval { dst := dst, op := .call { callee := .value c, args := A.toArray, argTypes := at_ }, type := ty, pos := pos, after := after, guard := g }).run P w = .ok (.enter f (vs ++ caps).toArray) w := by
  simp only [execOp, resolve, List.map_toArray, evL_ok hf hA, evO_ok hf hc, Deferred.ofValue]
  simp only [Sem.run_bind, Sem.run_pure, Result.andThen, invoke]
  simp only [List.append_toArray, List.nil_append]
  exact run_enter hent _ _
theorem clV (hent : Ent P f) {g : Option (Nat × Bool)} {at_ : Array TypeId} {pos : String} {after : Array Edge} {ty : TypeId} (hf : Fr N L a) (hd : Nat.blt d N = true) (hg : grd ops L g = some true) (hA : evL L A = some vs) (hc : evO L c = some (.func (.func f) #[] caps.toArray))
    (hcall : Calls P f (vs ++ caps).toArray w (Gives T)) (k : ∀ v w' a', T v w' → Fr N ((d, v) :: er d L) a' → wpList P ops Q rest a' w') :
    wpList P ops Q ({ dst := some d, op := .call { callee := .value c, args := A.toArray, argTypes := at_ }, type := ty, pos := pos, after := after, guard := g } :: rest) a w := by
  unfold wpList
  rw [if_pos (grd_ok hf hg)]
  refine Or.inl ?_
  unfold Oper.wp
  rw [exec_callV hent hf hA hc]
  simp only [Oper.upon]
  refine hcall.mono fun e w' ⟨v, he, ht⟩ => ?_
  subst he
  exact k v w' _ ht (hf.put hd v)
theorem clVN (hent : Ent P f) {g : Option (Nat × Bool)} {at_ : Array TypeId} {pos : String} {after : Array Edge} {ty : TypeId} (hf : Fr N L a) (hg : grd ops L g = some true) (hA : evL L A = some vs) (hc : evO L c = some (.func (.func f) #[] caps.toArray))
    (hcall : Calls P f (vs ++ caps).toArray w (Gives T)) (k : ∀ v w' a', T v w' → Fr N L a' → wpList P ops Q rest a' w') :
    wpList P ops Q ({ dst := none, op := .call { callee := .value c, args := A.toArray, argTypes := at_ }, type := ty, pos := pos, after := after, guard := g } :: rest) a w := by
  unfold wpList
  rw [if_pos (grd_ok hf hg)]
  refine Or.inl ?_
  unfold Oper.wp
  rw [exec_callV hent hf hA hc]
  simp only [Oper.upon]
  refine hcall.mono fun e w' ⟨v, he, ht⟩ => ?_
  subst he
  exact k v w' _ ht (hf.put_none _)
theorem clVQ {R : Act → Prop} (hent : Ent P f) {g : Option (Nat × Bool)} {at_ : Array TypeId} {pos : String} {after : Array Edge} {ty : TypeId} (hf : Fr N L a) (hd : Nat.blt d N = true) (hg : grd ops L g = some true) (hA : evL L A = some vs) (hc : evO L c = some (.func (.func f) #[] caps.toArray)) (v : Value)
    (hcall : ∀ w', Ext w w' → Calls P f (vs ++ caps).toArray w' (Gives fun u w'' => u = v ∧ Ext w' w'')) (K : ∀ a', Fr N ((d, v) :: er d L) a' → wpQuiet P ops (Ext w) R rest a') :
    wpQuiet P ops (Ext w) R ({ dst := some d, op := .call { callee := .value c, args := A.toArray, argTypes := at_ }, type := ty, pos := pos, after := after, guard := g } :: rest) a := by
  unfold wpQuiet
  rw [if_pos (grd_ok hf hg)]
  refine ⟨v, fun w' hw' => ?_, K _ (hf.put hd _)⟩
  unfold Oper.quietAt
  rw [exec_callV hent hf hA hc]
  refine ⟨rfl, (hcall w' hw').mono ?_⟩
  rintro e w'' ⟨u, he, hu, hx⟩
  exact ⟨by rw [he, hu], hw'.tr hx⟩
end calls
theorem Gives.mono {e : Ending} {w : World} {T T' : Value → World → Prop} (h : ∀ v, T v w → T' v w) (g : Gives T e w) : Gives T' e w := let ⟨v, a, b⟩ := g; ⟨v, a, h v b⟩
end rul
end Dm
