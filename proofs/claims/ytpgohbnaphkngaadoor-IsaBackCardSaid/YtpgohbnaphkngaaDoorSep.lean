/-
  What a call knows of the memory, in one place: a heap F that does not change any more, and things: slices that are read there, rows and variables of the call's own, all apart. No condition; nothing of a program is named here.
-/
import Derived.Test.YtpgohbnaphkngaaDoorMem
namespace Dm
open Go Go.RowKit

/-- a slice that can be read now, with cells in the heap h; what its elements lead to stands in F -/
def RA {α : Type} (h F : SH) (t : Ty α) (v : Value) (xs : List α) : Prop :=
  ∃ (ao : Option Addr) (cap : Nat) (cs : List Value), v = .slice ao xs.length cap ∧ xs.length ≤ cap ∧ Reps t F xs cs ∧
    ∀ j u, cs[j]? = some u → ∃ b o, ao = some ⟨b, o, none⟩ ∧ cellH h b (o + j) = some u
theorem RO.ra {α : Type} {F h : SH} {t : Ty α} {v : Value} {xs : List α} (H : RO F t v xs) (hl : LeH F h) : RA h F t v xs := by
  obtain ⟨ao, cap, cs, h1, h2, h3, h4⟩ := H
  exact ⟨ao, cap, cs, h1, h2, h3, fun j u hj => let ⟨b, o, e1, e2⟩ := h4 j u hj; ⟨b, o, e1, cellH_mono hl e2⟩⟩
theorem RA.mono {α : Type} {F F' h h' : SH} {t : Ty α} {v : Value} {xs : List α} (H : RA h F t v xs) (hl : LeH h h') (hF : LeH F F') : RA h' F' t v xs := by
  obtain ⟨ao, cap, cs, h1, h2, h3, h4⟩ := H
  exact ⟨ao, cap, cs, h1, h2, h3.mono hF, fun j u hj => let ⟨b, o, e1, e2⟩ := h4 j u hj; ⟨b, o, e1, cellH_mono hl e2⟩⟩
theorem RA.shape {α : Type} {F h : SH} {t : Ty α} {v : Value} {xs : List α} (H : RA h F t v xs) : ∃ ao cap, v = .slice ao xs.length cap := let ⟨ao, cap, _, h1, _⟩ := H; ⟨ao, cap, h1⟩
theorem RA.toRO {α : Type} {F h : SH} {t : Ty α} {v : Value} {xs : List α} (H : RA h F t v xs) (hF : LeH F h) : RO h t v xs := by
  obtain ⟨ao, cap, cs, h1, h2, h3, h4⟩ := H
  exact ⟨ao, cap, cs, h1, h2, h3.mono hF, h4⟩

/-! ### things -/
inductive Th : Type 1 where
  | ro {α : Type} (t : Ty α) (v : Value) (xs : List α)
  | row {α : Type} (e : TypeId) (t : Ty α) (v : Value) (xs : List α)
  | box (b : Nat) (T : TypeId) (cs : List Value)
  | cel (b o : Nat) (cs : List Value)
  | srow (e : TypeId) (v : Value) (xs : List Int)
  | mp {κ β : Type} (ek : κ → Value) (ev : β → Value) (r : Nat) (kvs : List (κ × β))
  | mq {κ β : Type} (ek : κ → Value) (ev : β → Value) (r : Nat) (kvs : List (κ × β))
def Th.blk : Th → Option Nat
  | .ro .. => none
  | .row _ _ v _ => v.ownBlock
  | .box b _ _ => some b
  | .cel .. => none
  | .srow _ v _ => v.ownBlock
  | .mp _ _ r _ => some r
  | .mq .. => none
def Th.per : Th → Bool
  | .ro .. => true
  | .row .. => false
  | .box .. => false
  | .cel .. => true
  | .srow .. => false
  | .mp .. => false
  | .mq .. => true
def rowO (e : TypeId) (s : Nat) (v : Value) (n : Nat) (cs : List Value) (o : Option Obj) : Prop :=
  cs.length = n * s ∧ ((v = .slice none 0 0 ∧ n = 0) ∨
    ∃ g cap cur, v = .slice (some ⟨g, 0, none⟩) n cap ∧ o = some (.cells cur e (0, 0)) ∧ n ≤ cap ∧ cap ≤ maxLen ∧ cur.size = cap * s ∧ cur.toList.take (n * s) = cs)
def Th.ok : Th → Option Obj → SH → Prop
  | .ro t v xs, _, F => RO F t v xs
  | .row e t v xs, o, F => ∃ cs, rowO e t.size v xs.length cs o ∧ Reps t F xs cs
  | .box _ T cs, o, _ => o = some (.cells cs.toArray T (0, 0)) ∧ allOne cs = true
  | .cel b o cs, _, F => CellsAt F ⟨b, o, none⟩ cs
  | .srow e v xs, o, _ => ∃ g cap cur fz, v = .slice (some ⟨g, 0, none⟩) xs.length cap ∧ o = some (.cells cur e fz) ∧ xs.length ≤ cap ∧ cap ≤ maxLen ∧ cur.size = cap ∧ cur.toList.take xs.length = xs.map (Value.int .u8) ∧ (fz.2 ≤ fz.1 ∨ cur.size ≤ fz.1)
  | .mp ek ev _ kvs, o, _ => ∃ es clock, o = some (.map es clock) ∧ es.toList.map (fun e => (e.key, e.val)) = kvs.map fun p => (ek p.1, ev p.2)
  | .mq ek ev r kvs, _, F => ∃ es clock, F r = some (.map es clock) ∧ es.toList.map (fun e => (e.key, e.val)) = kvs.map fun p => (ek p.1, ev p.2)
/-- what it says does not lean on the heap that does not change -/
def Th.Fl : Th → Prop
  | .ro .. => False
  | .row _ t _ _ => Flat t
  | .box .. => True
  | .cel .. => False
  | .srow .. => True
  | .mp .. => True
  | .mq .. => False
def Fls : List Th → Prop
  | [] => True
  | T :: Ts => T.Fl ∧ Fls Ts
/-- lent: to be read only -/
def Th.lend : Th → Th
  | .ro t v xs => .ro t v xs
  | .row _ t v xs => .ro t v xs
  | .box b _ cs => .cel b 0 cs
  | .cel b o cs => .cel b o cs
  | .srow _ v xs => .ro (tI .u8) v xs
  | .mp ek ev r kvs => .mq ek ev r kvs
  | .mq ek ev r kvs => .mq ek ev r kvs
def Th.obj (T : Th) (w : World) : Option Obj := T.blk.bind fun k => w.heap[k]?
def blks (Ts : List Th) (k : Nat) : Prop := ∃ (i : Nat) (T : Th), Ts[i]? = some T ∧ T.blk = some k
def noR (_ : Nat) : Prop := False

theorem Th.ok_mono {T : Th} {o : Option Obj} {F F' : SH} (hl : LeH F F') (h : T.ok o F) : T.ok o F' := by
  cases T with
  | ro t v xs => exact RO.mono hl h
  | row e t v xs => obtain ⟨cs, h1, h2⟩ := h; exact ⟨cs, h1, h2.mono hl⟩
  | box b T cs => exact h
  | cel b o cs => exact CellsAt.mono hl h
  | srow e v xs => exact h
  | mp ek ev r kvs => exact h
  | mq ek ev r kvs => obtain ⟨es, c, h1, h2⟩ := h; exact ⟨es, c, hl _ _ h1, h2⟩
theorem Th.ok_flat {T : Th} (hf : T.Fl) {o : Option Obj} {F F' : SH} (h : T.ok o F) : T.ok o F' := by
  cases T with
  | ro t v xs => exact hf.elim
  | row e t v xs => obtain ⟨cs, h1, h2⟩ := h; exact ⟨cs, h1, h2.flat hf⟩
  | box b T cs => exact h
  | cel b o cs => exact hf.elim
  | srow e v xs => exact h
  | mp ek ev r kvs => exact h
  | mq ek ev r kvs => exact hf.elim
theorem Th.per_blk {T : Th} (h : T.per = true) : T.blk = none := by cases T <;> first | rfl | cases h
theorem Th.lend_per (T : Th) : T.lend.per = true := by cases T <;> rfl
theorem Fls.get : ∀ {Ts : List Th}, Fls Ts → ∀ (i : Nat) T, Ts[i]? = some T → T.Fl
  | [], _, i, T, h => by simp at h
  | U :: Us, hf, 0, T, h => by have : U = T := by simpa using h
                               exact this ▸ hf.1
  | U :: Us, hf, i + 1, T, h => Fls.get hf.2 i T (by simpa using h)

theorem ints_RO {H : SH} {g cap : Nat} {cur : Array Value} {e : TypeId} {fz : Nat × Nat} {xs : List Int} (hH : H g = some (.cells cur e fz)) (hc : xs.length ≤ cap) (ht : cur.toList.take xs.length = xs.map (Value.int .u8)) : RO H (tI .u8) (.slice (some ⟨g, 0, none⟩) xs.length cap) xs := by
  have hrep : ∀ ys : List Int, Reps (tI .u8) H ys (ys.map (Value.int .u8)) := fun ys => by
    induction ys with
    | nil => exact rfl
    | cons y ys ih => exact ⟨[.int .u8 y], ys.map (Value.int .u8), rfl, rfl, ih⟩
  refine ⟨_, cap, xs.map (Value.int .u8), rfl, hc, hrep xs, fun j u hj => ⟨g, 0, rfl, ?_⟩⟩
  unfold cellH
  rw [hH]
  simp only [Nat.zero_add]
  rw [← ht] at hj
  have hj2 : j < xs.length := by
    rcases Nat.lt_or_ge j xs.length with h' | h'
    · exact h'
    · rw [List.getElem?_take_eq_none h'] at hj; cases hj
  rw [List.getElem?_take_of_lt hj2] at hj
  simpa using hj
/-- WHAT A CALL KNOWS: w0, F0: at its start; R: the blocks that it was given -/
structure Sep (w0 : World) (F0 : SH) (R : Nat → Prop) (w : World) (F : SH) (Ts : List Th) : Prop where
  os : w.os = w0.os
  tape : w.tape = w0.tape
  output : w.output = w0.output
  size : w0.heap.size ≤ w.heap.size
  keep : ∀ k, k < w0.heap.size → ¬ R k → w.heap[k]? = w0.heap[k]?
  leF : LeH F0 F
  newF : ∀ k, F0 k = none → F k ≠ none → w0.heap.size ≤ k ∨ R k
  le : LeH F (hp w)
  ok : ∀ (i : Nat) T, Ts[i]? = some T → T.ok (T.obj w) F
  out : ∀ (i : Nat) T k, Ts[i]? = some T → T.blk = some k → F k = none ∧ k < w.heap.size ∧ (w0.heap.size ≤ k ∨ R k)
  dj : ∀ (i j : Nat) T U k, i ≠ j → Ts[i]? = some T → Ts[j]? = some U → T.blk = some k → U.blk = some k → False

section sep
variable {w0 w w' : World} {F0 F F' : SH} {R : Nat → Prop} {Ts : List Th}

theorem obj_same {T : Th} (h : ∀ k, T.blk = some k → w'.heap[k]? = w.heap[k]?) : T.obj w' = T.obj w := by
  unfold Th.obj
  cases e : T.blk with
  | none => rfl
  | some k => exact h k e
theorem Sep.ext (hs : Sep w0 F0 R w F Ts) (hx : Ext w w') : Sep w0 F0 R w' F Ts where
  os := hx.os.trans hs.os
  tape := hx.tape.trans hs.tape
  output := hx.output.trans hs.output
  size := Nat.le_trans hs.size hx.size
  keep := fun k hk hr => (hx.block k (Nat.lt_of_lt_of_le hk hs.size)).trans (hs.keep k hk hr)
  leF := hs.leF
  newF := hs.newF
  le := hs.le.trans hx.le
  ok := fun i T h => by rw [obj_same fun k hk => hx.block k (hs.out i T k h hk).2.1]; exact hs.ok i T h
  out := fun i T k h hk => let ⟨a, b, c⟩ := hs.out i T k h hk; ⟨a, Nat.lt_of_lt_of_le b hx.size, c⟩
  dj := hs.dj
/-- the world as the caller sees it -/
theorem Sep.ex (hs : Sep w0 F0 R w F Ts) (hR : ∀ k, ¬ R k) : Ext w0 w := ⟨hs.os, hs.tape, hs.output, hs.size, fun k hk => hs.keep k hk (hR k)⟩

theorem Sep.cons (hs : Sep w0 F0 R w F Ts) {T : Th} (h : T.ok (T.obj w) F) (ho : ∀ k, T.blk = some k → F k = none ∧ k < w.heap.size ∧ (w0.heap.size ≤ k ∨ R k))
    (hd : ∀ (i : Nat) U k, Ts[i]? = some U → T.blk = some k → U.blk = some k → False) : Sep w0 F0 R w F (T :: Ts) :=
  { hs with
    ok := fun i U hU => by
      cases i with
      | zero => have : T = U := by simpa using hU
                subst this; exact h
      | succ i => exact hs.ok i U (by simpa using hU)
    out := fun i U k hU hk => by
      cases i with
      | zero => have : T = U := by simpa using hU
                subst this; exact ho k hk
      | succ i => exact hs.out i U k (by simpa using hU) hk
    dj := fun i j U V k hij hU hV hu hv => by
      cases i with
      | zero =>
        have : T = U := by simpa using hU
        subst this
        cases j with
        | zero => exact hij rfl
        | succ j => exact hd j V k (by simpa using hV) hu hv
      | succ i =>
        cases j with
        | zero =>
          have : T = V := by simpa using hV
          subst this
          exact hd i U k (by simpa using hU) hv hu
        | succ j => exact hs.dj i j U V k (by omega) (by simpa using hU) (by simpa using hV) hu hv }
/-- a fact that lasts -/
theorem Sep.addP (hs : Sep w0 F0 R w F Ts) {T : Th} (hp' : T.per = true) (h : T.ok none F) : Sep w0 F0 R w F (T :: Ts) := by
  have hb := Th.per_blk hp'
  exact hs.cons (by unfold Th.obj; rw [hb]; exact h) (fun k hk => by rw [hb] at hk; cases hk) (fun i U k _ hk => by rw [hb] at hk; cases hk)
theorem Sep.addRo (hs : Sep w0 F0 R w F Ts) {α : Type} {t : Ty α} {v : Value} {xs : List α} (h : RO F t v xs) : Sep w0 F0 R w F (.ro t v xs :: Ts) := hs.addP rfl h
theorem Sep.addCel (hs : Sep w0 F0 R w F Ts) {b o : Nat} {cs : List Value} (h : CellsAt F ⟨b, o, none⟩ cs) : Sep w0 F0 R w F (.cel b o cs :: Ts) := hs.addP rfl h
/-- something new -/
theorem Sep.addNew (hs : Sep w0 F0 R w F Ts) (hx : Ext w w') {T : Th} (h : T.ok (T.obj w') F) (hn : ∀ k, T.blk = some k → w.heap.size ≤ k ∧ k < w'.heap.size) : Sep w0 F0 R w' F (T :: Ts) :=
  (hs.ext hx).cons h (fun k hk => ⟨LeH_none hs.le (hn k hk).1, (hn k hk).2, .inl (Nat.le_trans hs.size (hn k hk).1)⟩) (fun i U k hU hk hk' => by
    have h1 := (hs.out i U k hU hk').2.1
    have h2 := (hn k hk).1
    omega)
theorem Sep.addNil (hs : Sep w0 F0 R w F Ts) {α : Type} (e : TypeId) (t : Ty α) : Sep w0 F0 R w F (.row e t (.slice none 0 0) [] :: Ts) :=
  hs.addNew (Ext.rfl' w) ⟨[], ⟨by simp, .inl ⟨rfl, rfl⟩⟩, rfl⟩ (fun k hk => by simp [Th.blk, Value.ownBlock] at hk)

/-! rows, variables -/
theorem own_at {α : Type} {B : Nat} {e : TypeId} {t : Ty α} {v : Value} {xs : List α} (h : Own w B F e t v xs) : (Th.row e t v xs).ok ((Th.row e t v xs).obj w) F := by
  obtain ⟨cs, ⟨h1, h2⟩, h3, _⟩ := h
  refine ⟨cs, ⟨h1, ?_⟩, h3⟩
  rcases h2 with h2 | ⟨g, cap, cur, rfl, _, hh, a, b, c, d⟩
  · exact .inl h2
  · exact .inr ⟨g, cap, cur, rfl, hh, a, b, c, d⟩
theorem at_own {α : Type} {e : TypeId} {t : Ty α} {v : Value} {xs : List α} (h : (Th.row e t v xs).ok ((Th.row e t v xs).obj w) F) (ho : ∀ k, v.ownBlock = some k → F k = none) : Own w 0 F e t v xs := by
  obtain ⟨cs, ⟨h1, h2⟩, h3⟩ := h
  refine ⟨cs, ⟨h1, ?_⟩, h3, ho⟩
  rcases h2 with h2 | ⟨g, cap, cur, rfl, hh, a, b, c, d⟩
  · exact .inl h2
  · exact .inr ⟨g, cap, cur, rfl, Nat.zero_le _, hh, a, b, c, d⟩
theorem Sep.own (hs : Sep w0 F0 R w F Ts) (i : Nat) {α : Type} {e : TypeId} {t : Ty α} {v : Value} {xs : List α} (h : Ts[i]? = some (.row e t v xs)) : Own w 0 F e t v xs :=
  at_own (hs.ok i _ h) fun k hk => (hs.out i _ k h hk).1
theorem Sep.ro (hs : Sep w0 F0 R w F Ts) (i : Nat) {α : Type} {t : Ty α} {v : Value} {xs : List α} (h : Ts[i]? = some (.ro t v xs)) : RO F t v xs := hs.ok i _ h
theorem Sep.cel (hs : Sep w0 F0 R w F Ts) (i : Nat) {b o : Nat} {cs : List Value} (h : Ts[i]? = some (.cel b o cs)) : CellsAt F ⟨b, o, none⟩ cs := hs.ok i _ h
theorem Sep.bx (hs : Sep w0 F0 R w F Ts) (i : Nat) {b : Nat} {T : TypeId} {cs : List Value} (h : Ts[i]? = some (.box b T cs)) : Bx w 0 b T cs :=
  let h2 := hs.ok i _ h; ⟨Nat.zero_le _, h2.1, h2.2⟩
theorem Own.ra {α : Type} {B : Nat} {e : TypeId} {t : Ty α} {v : Value} {xs : List α} (H : Own w B F e t v xs) : RA (hp w) F t v xs := by
  obtain ⟨cs, ho, hr, hn⟩ := H
  have ho2 := ho
  obtain ⟨h1, h2⟩ := ho2
  rcases h2 with ⟨rfl, h0⟩ | ⟨g, cap, cur, rfl, hg, hh, hc, hm, hs, ht⟩
  · have : xs = [] := List.eq_nil_of_length_eq_zero h0
    subst this
    exact ⟨none, 0, [], rfl, Nat.le_refl _, rfl, fun j u hj => by simp at hj⟩
  · refine ⟨_, cap, cs, rfl, hc, hr, fun j u hj => ⟨g, 0, rfl, ?_⟩⟩
    unfold cellH hp
    rw [hh]
    simp only [Nat.zero_add]
    have hj2 : j < xs.length * t.size := by
      rw [← h1]
      rcases Nat.lt_or_ge j cs.length with h' | h'
      · exact h'
      · rw [List.getElem?_eq_none h'] at hj; cases hj
    rw [← ht, List.getElem?_take_of_lt hj2] at hj
    simpa using hj
/-- to be read: an owned row, a slice that is read -/
theorem Sep.raW (hs : Sep w0 F0 R w F Ts) (i : Nat) {α : Type} {e : TypeId} {t : Ty α} {v : Value} {xs : List α} (h : Ts[i]? = some (.row e t v xs)) : RA (hp w) F t v xs := (hs.own i h).ra
theorem Sep.raR (hs : Sep w0 F0 R w F Ts) (i : Nat) {α : Type} {t : Ty α} {v : Value} {xs : List α} (h : Ts[i]? = some (.ro t v xs)) : RA (hp w) F t v xs := (hs.ro i h).ra hs.le
theorem Sep.raS (hs : Sep w0 F0 R w F Ts) (i : Nat) {e : TypeId} {v : Value} {xs : List Int} (h : Ts[i]? = some (.srow e v xs)) : RA (hp w) F (tI .u8) v xs := by
  obtain ⟨g, cap, cur, fz, rfl, ho, hc, _, _, ht, _⟩ := hs.ok i _ h
  have h4 : w.heap[g]? = some (.cells cur e fz) := ho
  obtain ⟨ao, cp, cs, h1, h2, h3, h5⟩ := ints_RO (H := hp w) (cur := cur) (e := e) (fz := fz) h4 hc ht
  exact ⟨ao, cp, cs, h1, h2, h3.flat (flat_I _), h5⟩
theorem Sep.raN {α : Type} (hs : Sep w0 F0 R w F Ts) (t : Ty α) : RA (hp w) F t (.slice none 0 0) [] := (RO.nil F t).ra hs.le
theorem Sep.cbx (hs : Sep w0 F0 R w F Ts) (i : Nat) {b : Nat} {T : TypeId} {cs : List Value} (h : Ts[i]? = some (.box b T cs)) : CellsAt (hp w) ⟨b, 0, none⟩ cs := (hs.bx i h).cells
theorem Sep.ccel (hs : Sep w0 F0 R w F Ts) (i : Nat) {b o : Nat} {cs : List Value} (h : Ts[i]? = some (.cel b o cs)) : CellsAt (hp w) ⟨b, o, none⟩ cs := (hs.cel i h).mono hs.le

theorem get_set {Ts : List Th} {i j : Nat} {T U : Th} (h : (Ts.set i T)[j]? = some U) : (i = j ∧ U = T) ∨ (i ≠ j ∧ Ts[j]? = some U) := by
  rw [List.getElem?_set] at h
  split at h
  · rename_i e
    split at h
    · exact .inl ⟨e, by simpa using h.symm⟩
    · cases h
  · exact .inr ⟨‹_›, h⟩
/-- one thing changes, nothing else -/
theorem Sep.upd (hs : Sep w0 F0 R w F Ts) (i : Nat) {T T' : Th} (hT : Ts[i]? = some T) {row : Option Nat} (hrow : row = T.blk) (hg : w.grownBy w' row) (h : T'.ok (T'.obj w') F)
    (hl : ∀ k, T'.blk = some k → k < w'.heap.size ∧ (T.blk = some k ∨ w.heap.size ≤ k)) : Sep w0 F0 R w' F (Ts.set i T') := by
  subst hrow
  have hsame : ∀ (j : Nat) U, j ≠ i → Ts[j]? = some U → ∀ k, U.blk = some k → w'.heap[k]? = w.heap[k]? := fun j U hj hU k hk =>
    hg.block k (hs.out j U k hU hk).2.1 fun e => hs.dj j i U T k hj hU hT hk e.symm
  refine ⟨hg.os.trans hs.os, hg.tape.trans hs.tape, hg.output.trans hs.output, Nat.le_trans hs.size hg.size, fun k hk hr => ?_, hs.leF, hs.newF, fun k o hk => ?_, fun j U hU => ?_, fun j U k hU hk => ?_, fun j l U V k hjl hU hV hu hv => ?_⟩
  · refine (hg.block k (Nat.lt_of_lt_of_le hk hs.size) fun e => ?_).trans (hs.keep k hk hr)
    rcases (hs.out i T k hT e.symm).2.2 with h' | h'
    · omega
    · exact hr h'
  · have h1 := hs.le k o hk
    have : w'.heap[k]? = w.heap[k]? := hg.block k (hp_lt h1) fun e => by rw [(hs.out i T k hT e.symm).1] at hk; cases hk
    exact this.trans h1
  · rcases get_set hU with ⟨_, rfl⟩ | ⟨hij, hU⟩
    · exact h
    · rw [obj_same (hsame j U (Ne.symm hij) hU)]; exact hs.ok j U hU
  · rcases get_set hU with ⟨_, rfl⟩ | ⟨hij, hU⟩
    · obtain ⟨h1, h2⟩ := hl k hk
      rcases h2 with h2 | h2
      · have := hs.out i T k hT h2; exact ⟨this.1, h1, this.2.2⟩
      · exact ⟨LeH_none hs.le h2, h1, .inl (Nat.le_trans hs.size h2)⟩
    · have := hs.out j U k hU hk; exact ⟨this.1, Nat.lt_of_lt_of_le this.2.1 hg.size, this.2.2⟩
  · have key : ∀ (m : Nat) (W : Th), m ≠ i → Ts[m]? = some W → W.blk = some k → T'.blk = some k → False := fun m W hm hW hw ht => by
      rcases (hl k ht).2 with h2 | h2
      · exact hs.dj m i W T k hm hW hT hw h2
      · have := (hs.out m W k hW hw).2.1; omega
    rcases get_set hU with ⟨e1, rfl⟩ | ⟨h1, hU'⟩
    · rcases get_set hV with ⟨e2, rfl⟩ | ⟨h2, hV'⟩
      · exact hjl (e1.symm.trans e2)
      · exact key l V (Ne.symm h2) hV' hv hu
    · rcases get_set hV with ⟨e2, rfl⟩ | ⟨h2, hV'⟩
      · exact key j U (Ne.symm h1) hU' hu hv
      · exact hs.dj j l U V k hjl hU' hV' hu hv
theorem Sep.updRow (hs : Sep w0 F0 R w F Ts) (i : Nat) {α β : Type} {e e' : TypeId} {t : Ty α} {t' : Ty β} {v v' : Value} {xs : List α} {ys : List β} (hT : Ts[i]? = some (.row e t v xs)) {B : Nat} (ho : Own w' B F e' t' v' ys) (hg : w.grownBy w' v.ownBlock)
    (hl : ∀ k, v'.ownBlock = some k → v.ownBlock = some k ∨ w.heap.size ≤ k) : Sep w0 F0 R w' F (Ts.set i (.row e' t' v' ys)) :=
  hs.upd i hT rfl hg (own_at ho) fun k hk => ⟨(ho.lt k hk).2, hl k hk⟩
theorem Sep.updBox (hs : Sep w0 F0 R w F Ts) (i : Nat) {b : Nat} {T : TypeId} {cs cs' : List Value} (hT : Ts[i]? = some (.box b T cs)) {B : Nat} (ho : Bx w' B b T cs') (hg : w.grownBy w' (bv b).ownBlock) : Sep w0 F0 R w' F (Ts.set i (.box b T cs')) :=
  hs.upd i hT rfl hg ⟨ho.obj, ho.one⟩ fun k hk => by
    have : b = k := by simpa [Th.blk] using hk
    subst this
    exact ⟨ho.hi, .inl rfl⟩
theorem Sep.newRow (hs : Sep w0 F0 R w F Ts) {α : Type} {e : TypeId} {t : Ty α} {v : Value} {xs : List α} (ho : Own w' w.heap.size F e t v xs) (hx : Ext w w') : Sep w0 F0 R w' F (.row e t v xs :: Ts) :=
  hs.addNew hx (own_at ho) ho.lt
theorem Sep.newBox (hs : Sep w0 F0 R w F Ts) {b : Nat} {T : TypeId} {cs : List Value} (ho : Bx w' w.heap.size b T cs) (hx : Ext w w') : Sep w0 F0 R w' F (.box b T cs :: Ts) :=
  hs.addNew hx ⟨ho.obj, ho.one⟩ fun k hk => by
    have : b = k := by simpa [Th.blk] using hk
    subst this
    exact ⟨ho.base, ho.hi⟩

/-! ### what changes no more -/
open Classical in
noncomputable def frzF (F : SH) (w : World) (b : Option Nat) : SH := fun k => if b = some k then hp w k else F k
/-- a thing is from now on read only -/
theorem Sep.frz (hs : Sep w0 F0 R w F Ts) (i : Nat) {T : Th} (hT : Ts[i]? = some T) : ∃ F', LeH F F' ∧ Sep w0 F0 R w F' (Ts.set i T.lend) := by
  have hle : LeH F (frzF F w T.blk) := fun k o hk => by
    unfold frzF
    rw [if_neg fun e => by rw [(hs.out i T k hT e).1] at hk; cases hk]; exact hk
  refine ⟨frzF F w T.blk, hle, hs.os, hs.tape, hs.output, hs.size, hs.keep, hs.leF.trans hle, fun k h0 h1 => ?_, fun k o hk => ?_, fun j U hU => ?_, fun j U k hU hk => ?_, fun j l U V k hjl hU hV hu hv => ?_⟩
  · unfold frzF at h1
    split at h1
    · exact (hs.out i T k hT ‹_›).2.2
    · exact hs.newF k h0 h1
  · unfold frzF at hk
    split at hk
    · exact hk
    · exact hs.le k o hk
  · rcases get_set hU with ⟨_, rfl⟩ | ⟨hij, hU⟩
    · have h1 := hs.ok i T hT
      cases T with
      | ro t v xs => exact RO.mono hle h1
      | cel b o cs => exact CellsAt.mono hle h1
      | mq ek ev r kvs => obtain ⟨es, c, h2, h3⟩ := h1; exact ⟨es, c, hle _ _ h2, h3⟩
      | mp ek ev r kvs =>
        obtain ⟨es, c, h2, h3⟩ := h1
        refine ⟨es, c, ?_, h3⟩
        have h4 : w.heap[r]? = some (.map es c) := h2
        unfold frzF
        simp only [Th.blk, if_true, hp, h4]
      | srow e v xs =>
        obtain ⟨g, cap, cur, fz, rfl, ho, hc, _, _, ht, _⟩ := h1
        have h4 : w.heap[g]? = some (.cells cur e fz) := ho
        refine ints_RO (cur := cur) (e := e) (fz := fz) ?_ hc ht
        unfold frzF
        simp only [Th.blk, Value.ownBlock, if_true, hp, h4]
      | box b T cs =>
        refine ⟨rfl, fun j u hj => ?_⟩
        have h2 : w.heap[b]? = some (.cells cs.toArray T (0, 0)) := h1.1
        unfold cellH frzF
        simp only [Th.blk, if_true, hp, h2]
        simpa using hj
      | row e t v xs =>
        obtain ⟨cs, ⟨hl, hr⟩, hrep⟩ := h1
        rcases hr with ⟨rfl, h0⟩ | ⟨g, cap, cur, rfl, hh, hc, hm, hsz, ht⟩
        · have : xs = [] := List.eq_nil_of_length_eq_zero h0
          subst this
          exact RO.nil _ _
        · refine ⟨_, cap, cs, rfl, hc, hrep.mono hle, fun j u hj => ⟨g, 0, rfl, ?_⟩⟩
          have h2 : w.heap[g]? = some (.cells cur e (0, 0)) := hh
          unfold cellH frzF
          simp only [Th.blk, Value.ownBlock, if_true, hp, h2, Nat.zero_add]
          have hj2 : j < xs.length * t.size := by
            rw [← hl]
            rcases Nat.lt_or_ge j cs.length with h' | h'
            · exact h'
            · rw [List.getElem?_eq_none h'] at hj; cases hj
          rw [← ht, List.getElem?_take_of_lt hj2] at hj
          simpa using hj
    · exact Th.ok_mono hle (hs.ok j U hU)
  · rcases get_set hU with ⟨_, rfl⟩ | ⟨hij, hU⟩
    · rw [Th.per_blk T.lend_per] at hk; cases hk
    · have h1 := hs.out j U k hU hk
      refine ⟨?_, h1.2⟩
      unfold frzF
      rw [if_neg fun e => hs.dj j i U T k (Ne.symm hij) hU hT hk e]; exact h1.1
  · rcases get_set hU with ⟨_, rfl⟩ | ⟨h1, hU'⟩
    · rw [Th.per_blk T.lend_per] at hu; cases hu
    · rcases get_set hV with ⟨_, rfl⟩ | ⟨h2, hV'⟩
      · rw [Th.per_blk T.lend_per] at hv; cases hv
      · exact hs.dj j l U V k hjl hU' hV' hu hv

/-! ### choosing -/
def pick (Ts : List Th) : List Nat → Option (List Th)
  | [] => some []
  | i :: is => match Ts[i]? with
    | none => none
    | some T => match pick Ts is with
      | none => none
      | some r => some (T :: r)
def memB (i : Nat) : List Nat → Bool
  | [] => false
  | j :: js => match Nat.beq i j with
    | true => true
    | false => memB i js
def perAt (Ts : List Th) (i : Nat) : Bool := match Ts[i]? with
  | some T => T.per
  | none => true
/-- what is not read only is chosen once -/
def once (Ts : List Th) : List Nat → Bool
  | [] => true
  | i :: is => match perAt Ts i with
    | true => once Ts is
    | false => match memB i is with
      | true => false
      | false => once Ts is
/-- what is not read only is not in both -/
def apartB (Ts : List Th) (ir : List Nat) : List Nat → Bool
  | [] => true
  | i :: is => match perAt Ts i with
    | true => apartB Ts ir is
    | false => match memB i ir with
      | true => false
      | false => apartB Ts ir is
theorem memB_of {i : Nat} : ∀ {l : List Nat} {j : Nat}, l[j]? = some i → memB i l = true
  | [], j, h => by simp at h
  | x :: xs, 0, h => by
    have : x = i := by simpa using h
    simp [memB, this]
  | x :: xs, j + 1, h => by
    simp only [memB]
    split
    · rfl
    · exact memB_of (j := j) (by simpa using h)
theorem pick_get : ∀ {is : List Nat} {Tp : List Th}, pick Ts is = some Tp → ∀ (j : Nat) T, Tp[j]? = some T → ∃ i, is[j]? = some i ∧ Ts[i]? = some T
  | [], Tp, h, j, T, hj => by simp only [pick, Option.some.injEq] at h; subst h; simp at hj
  | i :: is, Tp, h, j, T, hj => by
    simp only [pick] at h
    split at h
    · simp at h
    · rename_i U hU
      split at h
      · simp at h
      · rename_i r hr
        simp only [Option.some.injEq] at h; subst h
        cases j with
        | zero => have : U = T := by simpa using hj
                  exact ⟨i, rfl, this ▸ hU⟩
        | succ j => obtain ⟨q, h1, h2⟩ := pick_get hr j T (by simpa using hj); exact ⟨q, by simpa using h1, h2⟩
theorem perAt_of {i : Nat} {T : Th} (h : Ts[i]? = some T) : perAt Ts i = T.per := by unfold perAt; rw [h]
theorem once_ok : ∀ {is : List Nat}, once Ts is = true → ∀ (a b : Nat) i T, a ≠ b → is[a]? = some i → is[b]? = some i → Ts[i]? = some T → T.per = true
  | [], _, a, b, i, T, _, h, _, _ => by simp at h
  | x :: xs, h, a, b, i, T, hab, ha, hb, hT => by
    simp only [once] at h
    split at h
    · rename_i hp'
      cases a with
      | zero => have : x = i := by simpa using ha
                subst this; rw [← perAt_of hT]; exact hp'
      | succ a => cases b with
        | zero => have : x = i := by simpa using hb
                  subst this; rw [← perAt_of hT]; exact hp'
        | succ b => exact once_ok h a b i T (by omega) (by simpa using ha) (by simpa using hb) hT
    · split at h
      · cases h
      · rename_i hm
        cases a with
        | zero => cases b with
          | zero => exact absurd rfl hab
          | succ b =>
            have : x = i := by simpa using ha
            subst this
            rw [memB_of (j := b) (by simpa using hb)] at hm; cases hm
        | succ a => cases b with
          | zero =>
            have : x = i := by simpa using hb
            subst this
            rw [memB_of (j := a) (by simpa using ha)] at hm; cases hm
          | succ b => exact once_ok h a b i T (by omega) (by simpa using ha) (by simpa using hb) hT
theorem apartB_ok {ir : List Nat} : ∀ {is : List Nat}, apartB Ts ir is = true → ∀ (a b : Nat) i T, is[a]? = some i → ir[b]? = some i → Ts[i]? = some T → T.per = true
  | [], _, a, b, i, T, h, _, _ => by simp at h
  | x :: xs, h, a, b, i, T, ha, hb, hT => by
    simp only [apartB] at h
    split at h
    · rename_i hp'
      cases a with
      | zero => have : x = i := by simpa using ha
                subst this; rw [← perAt_of hT]; exact hp'
      | succ a => exact apartB_ok h a b i T (by simpa using ha) hb hT
    · split at h
      · cases h
      · rename_i hm
        cases a with
        | zero => have : x = i := by simpa using ha
                  subst this; rw [memB_of hb] at hm; cases hm
        | succ a => exact apartB_ok h a b i T (by simpa using ha) hb hT
theorem Sep.sel (hs : Sep w0 F0 R w F Ts) (is : List Nat) {Tp : List Th} (h : pick Ts is = some Tp) (ho : once Ts is = true) : Sep w0 F0 R w F Tp :=
  { hs with
    ok := fun j T hj => by obtain ⟨i, _, h2⟩ := pick_get h j T hj; exact hs.ok i T h2
    out := fun j T k hj hk => by obtain ⟨i, _, h2⟩ := pick_get h j T hj; exact hs.out i T k h2 hk
    dj := fun j l T U k hjl hj hl ht hu => by
      obtain ⟨a, a1, a2⟩ := pick_get h j T hj
      obtain ⟨b, b1, b2⟩ := pick_get h l U hl
      by_cases hab : a = b
      · subst hab
        rw [Th.per_blk (once_ok ho j l a T hjl a1 b1 a2)] at ht; cases ht
      · exact hs.dj a b T U k hab a2 b2 ht hu }

/-! ### calls -/
theorem Sep.start (w : World) (F : SH) (hF : LeH F (hp w)) : Sep w F (blks []) w F [] where
  os := rfl
  tape := rfl
  output := rfl
  size := Nat.le_refl _
  keep := fun _ _ _ => rfl
  leF := LeH.refl _
  newF := fun k h h' => absurd h h'
  le := hF
  ok := fun i T h => by simp at h
  out := fun i T k h => by simp at h
  dj := fun i j T U k _ h => by simp at h
theorem Sep.enter (hs : Sep w0 F0 R w F Ts) (ip : List Nat) {Tp : List Th} (h : pick Ts ip = some Tp) (ho : once Ts ip = true) : Sep w F (blks Tp) w F Tp :=
  let h1 := hs.sel ip h ho
  { os := rfl, tape := rfl, output := rfl, size := Nat.le_refl _, keep := fun _ _ _ => rfl, leF := LeH.refl _, newF := fun _ h h' => absurd h h', le := hs.le, ok := h1.ok, dj := h1.dj,
    out := fun i T k hT hk => ⟨(h1.out i T k hT hk).1, (h1.out i T k hT hk).2.1, .inr ⟨i, T, hT, hk⟩⟩ }
theorem get_app {As Bs : List Th} {i : Nat} {T : Th} (h : (As ++ Bs)[i]? = some T) : As[i]? = some T ∨ (As.length ≤ i ∧ Bs[i - As.length]? = some T) := by
  rcases Nat.lt_or_ge i As.length with h' | h'
  · rw [List.getElem?_append_left h'] at h; exact .inl h
  · rw [List.getElem?_append_right h'] at h; exact .inr ⟨h', h⟩
/-- what a call makes, put beside what stayed -/
theorem Sep.join {Tres Tr : List Th} {F1 : SH} (hs : Sep w0 F0 R w F Ts) {S : Nat → Prop} (hS : ∀ k, S k → blks Ts k)
    (hos : w'.os = w.os) (htape : w'.tape = w.tape) (hout : w'.output = w.output) (hsz : w.heap.size ≤ w'.heap.size) (hkeep : ∀ k, k < w.heap.size → ¬ S k → w'.heap[k]? = w.heap[k]?)
    (hle1 : LeH F F1) (hnew : ∀ k, F k = none → F1 k ≠ none → w.heap.size ≤ k ∨ S k) (hle : LeH F1 (hp w'))
    (hok : ∀ (i : Nat) T, Tres[i]? = some T → T.ok (T.obj w') F1) (ho : ∀ (i : Nat) T k, Tres[i]? = some T → T.blk = some k → F1 k = none ∧ k < w'.heap.size ∧ (w.heap.size ≤ k ∨ S k))
    (hdj : ∀ (i j : Nat) T U k, i ≠ j → Tres[i]? = some T → Tres[j]? = some U → T.blk = some k → U.blk = some k → False)
    (hr : Sep w0 F0 R w F Tr) (hrS : ∀ k, blks Tr k → ¬ S k) : Sep w0 F0 R w' F1 (Tres ++ Tr) := by
  have hSR : ∀ k, S k → w0.heap.size ≤ k ∨ R k := fun k hk => by obtain ⟨i, T, h1, h2⟩ := hS k hk; exact (hs.out i T k h1 h2).2.2
  refine ⟨hos.trans hs.os, htape.trans hs.tape, hout.trans hs.output, Nat.le_trans hs.size hsz, fun k hk hR => ?_, hs.leF.trans hle1, fun k h0 h1 => ?_, hle, fun i T hT => ?_, fun i T k hT hk => ?_, fun i j T U k hij hT hU ht hu => ?_⟩
  · refine (hkeep k (Nat.lt_of_lt_of_le hk hs.size) fun hk' => ?_).trans (hs.keep k hk hR)
    rcases hSR k hk' with h | h
    · omega
    · exact hR h
  · by_cases hF : F k = none
    · rcases hnew k hF h1 with h | h
      · exact .inl (Nat.le_trans hs.size h)
      · exact hSR k h
    · exact hs.newF k h0 hF
  · rcases get_app hT with h | ⟨_, h⟩
    · exact hok i T h
    · rw [obj_same fun k hk => hkeep k (hr.out _ T k h hk).2.1 (hrS k ⟨_, T, h, hk⟩)]
      exact Th.ok_mono hle1 (hr.ok _ T h)
  · rcases get_app hT with h | ⟨_, h⟩
    · obtain ⟨h1, h2, h3⟩ := ho i T k h hk
      refine ⟨h1, h2, ?_⟩
      rcases h3 with h3 | h3
      · exact .inl (Nat.le_trans hs.size h3)
      · exact hSR k h3
    · obtain ⟨h1, h2, h3⟩ := hr.out _ T k h hk
      refine ⟨?_, Nat.lt_of_lt_of_le h2 hsz, h3⟩
      cases e : F1 k with
      | none => rfl
      | some o =>
        rcases hnew k h1 (by rw [e]; simp) with h' | h'
        · omega
        · exact absurd h' (hrS k ⟨_, T, h, hk⟩)
  · have cross : ∀ (a b : Nat) (A B : Th), Tres[a]? = some A → Tr[b]? = some B → A.blk = some k → B.blk = some k → False := fun a b A B hA hB ha hb => by
      rcases (ho a A k hA ha).2.2 with h' | h'
      · have := (hr.out b B k hB hb).2.1; omega
      · exact hrS k ⟨b, B, hB, hb⟩ h'
    rcases get_app hT with h | ⟨e1, h⟩
    · rcases get_app hU with h' | ⟨_, h'⟩
      · exact hdj i j T U k hij h h' ht hu
      · exact cross _ _ T U h h' ht hu
    · rcases get_app hU with h' | ⟨e2, h'⟩
      · exact cross _ _ U T h' h hu ht
      · exact hr.dj _ _ T U k (by omega) h h' ht hu
theorem blks_pick {is : List Nat} {Tp : List Th} (h : pick Ts is = some Tp) {k : Nat} (hk : blks Tp k) : blks Ts k := by
  obtain ⟨j, T, h1, h2⟩ := hk
  obtain ⟨i, _, h3⟩ := pick_get h j T h1
  exact ⟨i, T, h3, h2⟩
theorem blks_apart (hs : Sep w0 F0 R w F Ts) {ip ir : List Nat} {Tp Tr : List Th} (h1 : pick Ts ip = some Tp) (h2 : pick Ts ir = some Tr) (ha : apartB Ts ir ip = true) : ∀ k, blks Tr k → ¬ blks Tp k := by
  rintro k ⟨b, U, hb, hu⟩ ⟨a, T, hA, ht⟩
  obtain ⟨i, i1, i2⟩ := pick_get h1 a T hA
  obtain ⟨j, j1, j2⟩ := pick_get h2 b U hb
  by_cases hij : i = j
  · subst hij
    rw [Th.per_blk (apartB_ok ha a b i T i1 j1 i2)] at ht; cases ht
  · exact hs.dj i j T U k hij i2 j2 ht hu
/-- behind a call -/
theorem Sep.back (hs : Sep w0 F0 R w F Ts) (ip ir : List Nat) {Tp Tr Tres : List Th} {F1 : SH} (h1 : pick Ts ip = some Tp) (h2 : pick Ts ir = some Tr) (ha : apartB Ts ir ip = true) (ho : once Ts ir = true)
    (hc : Sep w F (blks Tp) w' F1 Tres) : Sep w0 F0 R w' F1 (Tres ++ Tr) :=
  hs.join (fun _ hk => blks_pick h1 hk) hc.os hc.tape hc.output hc.size hc.keep hc.leF hc.newF hc.le hc.ok hc.out hc.dj (hs.sel ir h2 ho) (blks_apart hs h1 h2 ha)

/-! lending -/
open Classical in
noncomputable def lendF (w : World) (Tp : List Th) : SH := fun k => if blks Tp k then none else hp w k
theorem lend_ok {T : Th} {H : SH} (hF : LeH F H) (hb : ∀ k, T.blk = some k → H k = w.heap[k]?) (h : T.ok (T.obj w) F) : T.lend.ok none H := by
  cases T with
  | ro t v xs => exact RO.mono hF h
  | cel b o cs => exact CellsAt.mono hF h
  | mq ek ev r kvs => obtain ⟨es, c, h2, h3⟩ := h; exact ⟨es, c, hF _ _ h2, h3⟩
  | mp ek ev r kvs =>
    obtain ⟨es, c, h2, h3⟩ := h
    refine ⟨es, c, ?_, h3⟩
    have h4 : w.heap[r]? = some (.map es c) := h2
    rw [hb r rfl, h4]
  | srow e v xs =>
    obtain ⟨g, cap, cur, fz, rfl, ho, hc, _, _, ht, _⟩ := h
    have h4 : w.heap[g]? = some (.cells cur e fz) := ho
    refine ints_RO (cur := cur) (e := e) (fz := fz) ?_ hc ht
    rw [hb g rfl, h4]
  | box b T cs =>
    refine ⟨rfl, fun j u hj => ?_⟩
    have h2 : w.heap[b]? = some (.cells cs.toArray T (0, 0)) := h.1
    unfold cellH
    rw [hb b rfl, h2]
    simpa using hj
  | row e t v xs =>
    obtain ⟨cs, ⟨hl, hr⟩, hrep⟩ := h
    rcases hr with ⟨rfl, h0⟩ | ⟨g, cap, cur, rfl, hh, hc, hm, hsz, ht⟩
    · have : xs = [] := List.eq_nil_of_length_eq_zero h0
      subst this
      exact RO.nil _ _
    · refine ⟨_, cap, cs, rfl, hc, hrep.mono hF, fun j u hj => ⟨g, 0, rfl, ?_⟩⟩
      have h2 : w.heap[g]? = some (.cells cur e (0, 0)) := hh
      unfold cellH
      rw [hb g rfl, h2, Nat.zero_add]
      have hj2 : j < xs.length * t.size := by
        rw [← hl]
        rcases Nat.lt_or_ge j cs.length with h' | h'
        · exact h'
        · rw [List.getElem?_eq_none h'] at hj; cases hj
      rw [← ht, List.getElem?_take_of_lt hj2] at hj
      simpa using hj
theorem LeH_lend (hs : Sep w0 F0 R w F Ts) {ip : List Nat} {Tp : List Th} (h1 : pick Ts ip = some Tp) : LeH F (lendF w Tp) := fun k o hk => by
  unfold lendF
  rw [if_neg]
  · exact hs.le k o hk
  · intro h
    obtain ⟨i, T, a, b⟩ := blks_pick h1 h
    rw [(hs.out i T k a b).1] at hk; cases hk
theorem lend_le (w : World) (Tp : List Th) : LeH (lendF w Tp) (hp w) := fun k o hk => by
  unfold lendF at hk; split at hk
  · cases hk
  · exact hk
/-- il: lent; ip: handed over -/
theorem Sep.lend (hs : Sep w0 F0 R w F Ts) (il ip : List Nat) {Tl Tp Ta : List Th} (hl : pick Ts il = some Tl) (h1 : pick Ts ip = some Tp) (ha : apartB Ts ip il = true) (ho : once Ts ip = true) (hTa : Tl.map Th.lend ++ Tp = Ta) :
    Sep w (lendF w Tp) (blks Ta) w (lendF w Tp) Ta := by
  subst hTa
  have hp1 := hs.sel ip h1 ho
  have hper : ∀ (j : Nat) T, (Tl.map Th.lend)[j]? = some T → T.blk = none := fun j T h => by
    rw [List.getElem?_map] at h
    cases e : Tl[j]? with
    | none => rw [e] at h; cases h
    | some U => rw [e] at h; simp only [Option.map_some, Option.some.injEq] at h; subst h; exact Th.per_blk U.lend_per
  have hlenb : ∀ k, blks Tl k → ¬ blks Tp k := fun k hk hk' => by
    obtain ⟨b, U, hb, hu⟩ := hk
    obtain ⟨a, T, hA, ht⟩ := hk'
    obtain ⟨i, i1, i2⟩ := pick_get h1 a T hA
    obtain ⟨j, j1, j2⟩ := pick_get hl b U hb
    by_cases hij : i = j
    · subst hij
      rw [Th.per_blk (apartB_ok ha b a i U j1 i1 j2)] at hu; cases hu
    · exact hs.dj i j T U k hij i2 j2 ht hu
  refine ⟨rfl, rfl, rfl, Nat.le_refl _, fun _ _ _ => rfl, LeH.refl _, fun k h h' => absurd h h', lend_le w Tp, fun i T hT => ?_, fun i T k hT hk => ?_, fun i j T U k hij hT hU ht hu => ?_⟩
  · rcases get_app hT with h | ⟨_, h⟩
    · have hb := hper i T h
      have ho : T.obj w = none := by unfold Th.obj; rw [hb]; rfl
      rw [ho]
      rw [List.getElem?_map] at h
      cases e : Tl[i]? with
      | none => rw [e] at h; cases h
      | some U =>
        rw [e] at h; simp only [Option.map_some, Option.some.injEq] at h; subst h
        obtain ⟨q, _, hq⟩ := pick_get hl i U e
        refine lend_ok (LeH_lend hs h1) (fun k hk => ?_) (hs.ok q U hq)
        unfold lendF
        rw [if_neg (hlenb k ⟨i, U, e, hk⟩)]; rfl
    · exact Th.ok_mono (LeH_lend hs h1) (hp1.ok _ T h)
  · rcases get_app hT with h | ⟨_, h⟩
    · rw [hper i T h] at hk; cases hk
    · refine ⟨?_, (hp1.out _ T k h hk).2.1, .inr ⟨i, T, hT, hk⟩⟩
      unfold lendF
      rw [if_pos ⟨_, T, h, hk⟩]
  · rcases get_app hT with h | ⟨e1, h⟩
    · rw [hper i T h] at ht; cases ht
    · rcases get_app hU with h' | ⟨e2, h'⟩
      · rw [hper j U h'] at hu; cases hu
      · exact hp1.dj _ _ T U k (by omega) h h' ht hu
theorem blks_lend {Tl Tp : List Th} {k : Nat} (h : blks (Tl.map Th.lend ++ Tp) k) : blks Tp k := by
  obtain ⟨i, T, hT, hk⟩ := h
  rcases get_app hT with h | ⟨_, h⟩
  · rw [List.getElem?_map] at h
    cases e : Tl[i]? with
    | none => rw [e] at h; cases h
    | some U => rw [e] at h; simp only [Option.map_some, Option.some.injEq] at h; subst h; rw [Th.per_blk U.lend_per] at hk; cases hk
  · exact ⟨_, T, h, hk⟩
theorem Sep.backL (hs : Sep w0 F0 R w F Ts) (il ip ir : List Nat) {Tl Tp Ta Tr Tres : List Th} {F1 : SH} (_hl : pick Ts il = some Tl) (h1 : pick Ts ip = some Tp) (hTa : Tl.map Th.lend ++ Tp = Ta) (h2 : pick Ts ir = some Tr) (ha : apartB Ts ir ip = true) (ho : once Ts ir = true)
    (hc : Sep w (lendF w Tp) (blks Ta) w' F1 Tres) (hfl : Fls Tres) : Sep w0 F0 R w' F (Tres ++ Tr) := by
  subst hTa
  have hb : ∀ k, ¬ blks Tp k → ¬ blks (Tl.map Th.lend ++ Tp) k := fun k h h' => h (blks_lend h')
  have hout : ∀ (i : Nat) T k, Tres[i]? = some T → T.blk = some k → F k = none ∧ k < w'.heap.size ∧ (w.heap.size ≤ k ∨ blks Tp k) := fun i T k hT hk => by
    obtain ⟨_, h4, h5⟩ := hc.out i T k hT hk
    have h6 : w.heap.size ≤ k ∨ blks Tp k := h5.imp id blks_lend
    refine ⟨?_, h4, h6⟩
    rcases h6 with h6 | h6
    · exact LeH_none hs.le h6
    · obtain ⟨j, U, a, b⟩ := blks_pick h1 h6
      exact (hs.out j U k a b).1
  refine hs.join (S := blks Tp) (fun k hk => blks_pick h1 hk) hc.os hc.tape hc.output hc.size (fun k hk h => hc.keep k hk (hb k h)) (LeH.refl _) (fun k h h' => absurd h h') (fun k o hk => ?_) (fun i T hT => Th.ok_flat (hfl.get i T hT) (hc.ok i T hT)) hout hc.dj (hs.sel ir h2 ho) (blks_apart hs h1 h2 ha)
  have h3 := hs.le k o hk
  have h4 : ¬ blks Tp k := fun h => by
    obtain ⟨j, U, a, b⟩ := blks_pick h1 h
    rw [(hs.out j U k a b).1] at hk; cases hk
  exact (hc.keep k (hp_lt h3) (hb k h4)).trans h3
/-- lent to a call in a region that draws: in any world that has grown -/
theorem Sep.lendQ (hs : Sep w0 F0 R w F Ts) (hx : Ext w w') (il : List Nat) {Tl Ta : List Th} (hl : pick Ts il = some Tl) (hTa : Tl.map Th.lend = Ta) : Sep w' (hp w') (blks Ta) w' (hp w') Ta := by
  subst hTa
  have hs' := hs.ext hx
  have hper : ∀ (j : Nat) T, (Tl.map Th.lend)[j]? = some T → T.blk = none := fun j T h => by
    rw [List.getElem?_map] at h
    cases e : Tl[j]? with
    | none => rw [e] at h; cases h
    | some U => rw [e] at h; simp only [Option.map_some, Option.some.injEq] at h; subst h; exact Th.per_blk U.lend_per
  refine ⟨rfl, rfl, rfl, Nat.le_refl _, fun _ _ _ => rfl, LeH.refl _, fun k h h' => absurd h h', LeH.refl _, fun i T h => ?_, fun i T k h hk => ?_, fun i j T U k _ h _ hk _ => ?_⟩
  · have hb := hper i T h
    have ho : T.obj w' = none := by unfold Th.obj; rw [hb]; rfl
    rw [ho]
    rw [List.getElem?_map] at h
    cases e : Tl[i]? with
    | none => rw [e] at h; cases h
    | some U =>
      rw [e] at h; simp only [Option.map_some, Option.some.injEq] at h; subst h
      obtain ⟨q, _, hq⟩ := pick_get hl i U e
      exact lend_ok hs'.le (fun k _ => rfl) (hs'.ok q U hq)
  · rw [hper i T h] at hk; cases hk
  · rw [hper i T h] at hk; cases hk
def pers : List Th → Bool
  | [] => true
  | T :: Ts => match T.per with
    | true => pers Ts
    | false => false
theorem pers_blks : ∀ {Ts : List Th}, pers Ts = true → ∀ k, ¬ blks Ts k
  | [], _, k, ⟨i, T, h, _⟩ => by simp at h
  | T :: Ts, hp', k, ⟨i, U, h, hk⟩ => by
    simp only [pers] at hp'
    split at hp'
    · rename_i e
      cases i with
      | zero => have : T = U := by simpa using h
                subst this; rw [Th.per_blk e] at hk; cases hk
      | succ i => exact pers_blks hp' k ⟨i, U, by simpa using h, hk⟩
    · cases hp'

/-! ### regions that draw -/
open Classical in
/-- all that is new since wr changes no more -/
noncomputable def star (F : SH) (wr w : World) : SH := fun k => if F k = none ∧ wr.heap.size ≤ k then hp w k else F k
variable {wr wf : World}
theorem star_ge (F : SH) (wr w : World) : LeH F (star F wr w) := fun k o hk => by
  unfold star; rw [if_neg (by rw [hk]; simp)]; exact hk
theorem star_new {k : Nat} (h : F k = none) (h' : star F wr w k ≠ none) : wr.heap.size ≤ k := by
  unfold star at h'; split at h'
  · rename_i e; exact e.2
  · exact absurd h h'
theorem Sep.starX (hs : Sep w0 F0 R wr F Ts) (hx : Ext wr w) : Sep w0 F0 R w (star F wr w) Ts := by
  have h1 := hs.ext hx
  refine { h1 with leF := h1.leF.trans (star_ge _ _ _), newF := fun k h0 hk => ?_, le := fun k o hk => ?_, ok := fun i T hT => Th.ok_mono (star_ge _ _ _) (h1.ok i T hT), out := fun i T k hT hk => ?_ }
  · by_cases hF : F k = none
    · exact .inl (Nat.le_trans hs.size (star_new hF hk))
    · exact h1.newF k h0 hF
  · unfold star at hk; split at hk
    · exact hk
    · exact h1.le k o hk
  · obtain ⟨a, b, c⟩ := h1.out i T k hT hk
    refine ⟨?_, b, c⟩
    unfold star
    rw [if_neg fun e => by have := (hs.out i T k hT hk).2.1; omega]; exact a
/-- what an operation in a drawn region left, seen from all of it -/
theorem Sep.roStar {F1 : SH} (hs : Sep wr F noR w F1 Ts) (i : Nat) {T : Th} (hT : Ts[i]? = some T) : T.lend.ok none (star F wr w) := by
  have h1 : LeH F1 (star F wr w) := fun k o hk => by
    unfold star
    cases e : F k with
    | some o' => have := hs.leF k o' e; rw [hk] at this; simp only [Option.some.injEq] at this; subst this; simp
    | none =>
      have : wr.heap.size ≤ k := by
        rcases hs.newF k e (by rw [hk]; simp) with h | h
        · exact h
        · exact h.elim
      rw [if_pos ⟨rfl, this⟩]; exact hs.le k o hk
  refine lend_ok h1 (fun k hk => ?_) (hs.ok i T hT)
  obtain ⟨a, _, c⟩ := hs.out i T k hT hk
  have hF : F k = none := by
    cases e : F k with
    | none => rfl
    | some o => rw [hs.leF k o e] at a; cases a
  unfold star
  rw [if_pos ⟨hF, c.elim id fun h => h.elim⟩]; rfl
theorem Sep.addStar {F1 : SH} {Us : List Th} (hs : Sep w0 F0 R w (star F wr w) Ts) (h : Sep wr F noR w F1 Us) (i : Nat) {T T' : Th} (hT : Us[i]? = some T) (hl : T.lend = T') : Sep w0 F0 R w (star F wr w) (T' :: Ts) := by
  subst hl
  exact hs.addP T.lend_per (h.roStar i hT)
/-- the things of one operation of a drawn region, kept as the call's own -/
theorem Sep.addFlat {F1 : SH} {Us : List Th} (hs : Sep w0 F0 R wr F Ts) (hx : Ext wr w) (h : Sep wr F noR w F1 Us) (hfl : Fls Us) : Sep w0 F0 R w F (Us ++ Ts) := by
  refine hs.join (S := fun _ => False) (fun k hk => hk.elim) hx.os hx.tape hx.output hx.size (fun k hk _ => hx.block k hk) (LeH.refl _) (fun k h h' => absurd h h') (hs.le.trans hx.le) (fun i T hT => Th.ok_flat (hfl.get i T hT) (h.ok i T hT)) (fun i T k hT hk => ?_) h.dj hs (fun k _ => id)
  obtain ⟨_, b, c⟩ := h.out i T k hT hk
  have h4 : wr.heap.size ≤ k := c.elim id fun h => h.elim
  exact ⟨LeH_none hs.le h4, b, .inl h4⟩
/-- the start of an operation in a drawn region -/
theorem Sep.fstart (hs : Sep w0 F0 R wr F Ts) (hx : Ext wr wf) (ip : List Nat) {Tp : List Th} (h : pick Ts ip = some Tp) (hper : pers Tp = true) : Sep wf (star F wr wf) noR wf (star F wr wf) Tp := by
  have ho : once Ts ip = true := by
    clear hx
    induction ip generalizing Tp with
    | nil => rfl
    | cons i is ih =>
      simp only [pick] at h
      split at h
      · simp at h
      · rename_i U hU
        split at h
        · simp at h
        · rename_i r hr
          simp only [Option.some.injEq] at h; subst h
          simp only [pers] at hper
          split at hper
          · rename_i e
            simp only [once, perAt_of hU, e]
            exact ih hr hper
          · cases hper
  have h1 := (hs.starX hx).sel ip h ho
  exact { os := rfl, tape := rfl, output := rfl, size := Nat.le_refl _, keep := fun _ _ _ => rfl, leF := LeH.refl _, newF := fun k h h' => absurd h h', le := h1.le, ok := h1.ok, dj := h1.dj, out := fun i T k hT hk => absurd ⟨i, T, hT, hk⟩ (pers_blks hper k) }
theorem Sep.rebase (h : Sep wf (star F wr wf) noR w F' Ts) (hx : Ext wr wf) : Sep wr F noR w F' Ts where
  os := h.os.trans hx.os
  tape := h.tape.trans hx.tape
  output := h.output.trans hx.output
  size := Nat.le_trans hx.size h.size
  keep := fun k hk _ => (h.keep k (Nat.lt_of_lt_of_le hk hx.size) id).trans (hx.block k hk)
  leF := (star_ge _ _ _).trans h.leF
  newF := fun k h0 h1 => by
    by_cases e : star F wr wf k = none
    · rcases h.newF k e h1 with h' | h'
      · exact .inl (Nat.le_trans hx.size h')
      · exact h'.elim
    · exact .inl (star_new h0 e)
  le := h.le
  ok := h.ok
  out := fun i T k hT hk => let ⟨a, b, c⟩ := h.out i T k hT hk; ⟨a, b, c.imp (Nat.le_trans hx.size) id⟩
  dj := h.dj
end sep
end Dm
