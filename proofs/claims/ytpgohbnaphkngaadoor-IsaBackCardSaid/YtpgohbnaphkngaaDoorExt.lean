/-
  More rules for the walks: a loop's first round, functions that are bound to what they are called on, slices of functions, maps of pointers. No condition; no program.
-/
import Derived.Test.YtpgohbnaphkngaaDoorMore
import Derived.Test.YtpgohbnaphkngaaDoorReg
namespace Dm
open Go Go.RowKit

section ext
variable {P : Program} {N : Nat} {tb : Tb} {ops : Array Oper} {Q : Exit → Act → World → Prop}
variable {L : List (Nat × Value)} {a : Act} {w : World} {rest : List Oper} {d : Nat}
/-- a loop that stands ahead of its next round -/
def LW (c : Code) (P : Program) (Q : Exit → Act → World → Prop) (a : Act) (w : World) : Prop :=
  ∀ (b : Frame) (k : List Item) (cs : List Frame), ∃ e a' w', Q e a' w' ∧ Arrives P (lone (b.at a (.code c :: .inLoop c :: k)) cs w) b k cs e a' w'
theorem lpS {c : Code} (h : LW c P Q a w) : (Code.loop c).wp P Q a w := by
  intro b k cs
  obtain ⟨e, a', w', hq, harr⟩ := h b k cs
  exact ⟨e, a', w', hq, .of_steps (.one step_loop) harr⟩
theorem lpU {c : Code} (h : c.wp P (Exit.then (LW c P Q) Q) a w) : LW c P Q a w := by
  intro b k cs
  obtain ⟨e, a₁, w₁, hq, harr⟩ := h b (.inLoop c :: k) cs
  cases e with
  | normal =>
    obtain ⟨e₂, a₂, w₂, hq₂, harr₂⟩ := hq b k cs
    exact ⟨e₂, a₂, w₂, hq₂, .of_steps (Steps.trans harr (.one step_inLoop)) harr₂⟩
  | exit id => exact ⟨_, a₁, w₁, hq, .pass (x := .inLoop c) rfl (fun _ _ => .inl (by simp)) harr⟩
  | goto l => exact ⟨_, a₁, w₁, hq, .pass (x := .inLoop c) rfl (fun _ _ => .inl (by simp)) harr⟩
  | ret => exact ⟨_, a₁, w₁, hq, .pass (x := .inLoop c) rfl (fun _ _ => .inl (by simp)) harr⟩
  | panic ch => exact ⟨_, a₁, w₁, hq, .pass (x := .inLoop c) rfl (fun _ _ => .inl (by simp)) harr⟩
  | outgrown => exact ⟨_, a₁, w₁, hq, .pass (x := .inLoop c) rfl (fun _ _ => .inl (by simp)) harr⟩
/-! functions that are bound to their receivers -/
section calls
variable {f : Nat} {A : List Operand} {fs vs caps : List Value} {T : Value → World → Prop} {c : Operand}
theorem exec_callB (hent : Ent P f) (hf : Fr N L a) (hA : evL L A = some vs) (hc : evO L c = some (.func (.func f) fs.toArray caps.toArray)) {dst : Option Tmp} {ty : TypeId} {at_ : Array TypeId} {pos : String} {after : Array Edge} {g : Option (Nat × Bool)} :
    (execOp a.eval { dst := dst, op := .call { callee := .value c, args := A.toArray, argTypes := at_ }, type := ty, pos := pos, after := after, guard := g }).run P w = .ok (.enter f (fs ++ vs ++ caps).toArray) w := by
  simp only [execOp, resolve, List.map_toArray, evL_ok hf hA, evO_ok hf hc, Deferred.ofValue]
  simp only [Sem.run_bind, Sem.run_pure, Result.andThen, invoke]
  simp only [List.append_toArray]
  exact run_enter hent _ _
theorem clB (hent : Ent P f) {g : Option (Nat × Bool)} {at_ : Array TypeId} {pos : String} {after : Array Edge} {ty : TypeId} (hf : Fr N L a) (hd : Nat.blt d N = true) (hg : grd ops L g = some true) (hA : evL L A = some vs) (hc : evO L c = some (.func (.func f) fs.toArray caps.toArray))
    (hcall : Calls P f (fs ++ vs ++ caps).toArray w (Gives T)) (k : ∀ v w' a', T v w' → Fr N ((d, v) :: er d L) a' → wpList P ops Q rest a' w') :
    wpList P ops Q ({ dst := some d, op := .call { callee := .value c, args := A.toArray, argTypes := at_ }, type := ty, pos := pos, after := after, guard := g } :: rest) a w := by
  unfold wpList
  rw [if_pos (grd_ok hf hg)]
  refine Or.inl ?_
  unfold Oper.wp
  rw [exec_callB hent hf hA hc]
  simp only [Oper.upon]
  refine hcall.mono fun e w' ⟨v, he, ht⟩ => ?_
  subst he
  exact k v w' _ ht (hf.put hd v)
end calls
/-! lists brought to their plain form -/
def forceL {α : Type 1} : List α → Option (List α)
  | [] => some []
  | x :: xs => match forceL xs with
    | some ys => some (x :: ys)
    | none => none
theorem forceL_eq {α : Type 1} : ∀ {l l' : List α}, forceL l = some l' → l' = l
  | [], l', h => by simp only [forceL, Option.some.injEq] at h; exact h.symm
  | x :: xs, l', h => by
    simp only [forceL] at h
    split at h
    · rename_i ys e
      simp only [Option.some.injEq] at h
      subst h; rw [forceL_eq e]
    · cases h
theorem Fr.castB {N : Nat} {L : List (Nat × Value)} {a : Act} {e b : Bool} (hf : Fr N L a) (hb : e = b) (f : Bool → List (Nat × Value)) (h : L = f e) : Fr N (f b) a := by
  subst hb; rw [← h]; exact hf
theorem Sep.nf {w0 w : World} {F0 F : SH} {R : Nat → Prop} {Ts Ts' : List Th} (hs : Sep w0 F0 R w F Ts) (h : forceL Ts = some Ts') : Sep w0 F0 R w F Ts' := by rw [forceL_eq h]; exact hs
/-! functions as elements of slices -/
abbrev FnT := Nat × List Value × List Value
def encFn (x : FnT) : Value := .func (.func x.1) x.2.1.toArray x.2.2.toArray
def tFn : Ty FnT := tF 1 (fun x => [encFn x]) (fun _ => rfl) (fun _ u hu => by simp at hu; subst hu; rfl)
theorem flat_Fn : Flat tFn := flat_tF
/-! pointers into one variable as values of a map -/
def encP (b : Nat) : Option Nat → Value
  | none => .pointer none
  | some o => .pointer (some ⟨b, o, none⟩)
theorem mpGet_hit {κ β : Type} [BEq κ] {p : κ × β} {l : List (κ × β)} {k : κ} (h : (k == p.1) = true) : mpGet (p :: l) k = some p.2 := by rw [mpGet, if_pos h]
theorem mpGet_miss {κ β : Type} [BEq κ] {p : κ × β} {l : List (κ × β)} {k : κ} (h : (k == p.1) = false) : mpGet (p :: l) k = mpGet l k := by rw [mpGet, if_neg (by rw [h]; simp)]
end ext
/-- what a call has made that was lent all there is -/
theorem Sep.addLent {w0 w w' : World} {F0 F F1 : SH} {R : Nat → Prop} {Ts Ta Tres : List Th} (hs : Sep w0 F0 R w F Ts) (hc : Sep w (hp w) (blks Ta) w' F1 Tres) (hper : pers Ta = true) (hfl : Fls Tres) : Sep w0 F0 R w' F (Tres ++ Ts) := by
  have hb := pers_blks hper
  refine hs.join (S := fun _ => False) (fun k hk => hk.elim) hc.os hc.tape hc.output hc.size (fun k hk _ => hc.keep k hk (hb k)) (LeH.refl _) (fun k h h' => absurd h h') (hs.le.trans (hc.leF.trans hc.le)) (fun i T hT => Th.ok_flat (hfl.get i T hT) (hc.ok i T hT)) (fun i T k hT hk => ?_) hc.dj hs (fun k _ => id)
  obtain ⟨_, b, c⟩ := hc.out i T k hT hk
  have h4 : w.heap.size ≤ k := c.elim id fun h => (hb k h).elim
  exact ⟨LeH_none hs.le h4, b, .inl h4⟩
/-! things that two operations of a drawn region have made: apart, where their types are -/
def Th.tyid : Th → Option Nat
  | .row e _ _ _ => some e
  | .box _ T _ => some T
  | .srow e _ _ => some e
  | _ => none
def tyApart1 (T U : Th) : Bool := T.per || (U.per || match T.tyid, U.tyid with
  | some a, some b => !Nat.beq a b
  | _, _ => false)
def tyApart (Ts Us : List Th) : Bool := Ts.all fun T => Us.all fun U => tyApart1 T U
theorem Th.tyid_obj {T : Th} {w : World} {F : SH} {k a : Nat} (h : T.ok (T.obj w) F) (hk : T.blk = some k) (ha : T.tyid = some a) : ∃ cs fz, w.heap[k]? = some (.cells cs a fz) := by
  have ho : T.obj w = w.heap[k]? := by unfold Th.obj; rw [hk]; rfl
  rw [ho] at h
  cases T with
  | ro t v xs => cases ha
  | cel b o cs => cases ha
  | mp ek ev r kvs => cases ha
  | mq ek ev r kvs => cases ha
  | row e t v xs =>
    obtain ⟨cs, h1, _⟩ := h
    have : e = a := Option.some.inj ha
    subst this
    rcases h1.2 with ⟨rfl, _⟩ | ⟨g, cap, cur, _, h2, _⟩
    · cases hk
    · exact ⟨_, _, h2⟩
  | box b T' cs =>
    have : T' = a := Option.some.inj ha
    subst this
    exact ⟨_, _, h.1⟩
  | srow e v xs =>
    obtain ⟨g, cap, cur, fz, _, h2, _⟩ := h
    have : e = a := Option.some.inj ha
    subst this
    exact ⟨_, _, h2⟩
theorem tyApart_ne {T U : Th} {w : World} {F F' : SH} {k : Nat} (h : tyApart1 T U = true) (h1 : T.ok (T.obj w) F) (h2 : U.ok (U.obj w) F') (k1 : T.blk = some k) (k2 : U.blk = some k) : False := by
  unfold tyApart1 at h
  cases p1 : T.per with
  | true => rw [Th.per_blk p1] at k1; cases k1
  | false =>
    cases p2 : U.per with
    | true => rw [Th.per_blk p2] at k2; cases k2
    | false =>
      rw [p1, p2, Bool.false_or, Bool.false_or] at h
      cases t1 : T.tyid with
      | none => rw [t1] at h; cases h
      | some a =>
        cases t2 : U.tyid with
        | none => rw [t1, t2] at h; cases h
        | some b =>
          rw [t1, t2] at h
          obtain ⟨c, f, e1⟩ := Th.tyid_obj h1 k1 t1
          obtain ⟨c', f', e2⟩ := Th.tyid_obj h2 k2 t2
          rw [e1] at e2
          simp only [Option.some.injEq, Obj.cells.injEq] at e2
          obtain ⟨_, rfl, _⟩ := e2
          have h : (!Nat.beq a a) = true := h
          rw [Nat.beq_refl] at h; cases h
theorem Sep.both {wr w : World} {F F1 F2 : SH} {Us1 Us2 : List Th} (h1 : Sep wr F noR w F1 Us1) (h2 : Sep wr F noR w F2 Us2) (f1 : Fls Us1) (f2 : Fls Us2) (hd : tyApart Us1 Us2 = true) : Sep wr F noR w F (Us1 ++ Us2) := by
  have hn : ∀ {F' : SH} {k : Nat}, LeH F F' → F' k = none → F k = none := fun {F' k} hl h => by
    cases e : F k with
    | none => rfl
    | some o => rw [hl k o e] at h; cases h
  have hx : ∀ (i j : Nat) T U k, Us1[i]? = some T → Us2[j]? = some U → T.blk = some k → U.blk = some k → False := fun i j T U k hT hU kT kU => by
    have h3 := List.all_eq_true.1 hd T (List.mem_of_getElem? hT)
    have h4 := List.all_eq_true.1 h3 U (List.mem_of_getElem? hU)
    exact tyApart_ne h4 (h1.ok i T hT) (h2.ok j U hU) kT kU
  refine ⟨h1.os, h1.tape, h1.output, h1.size, fun k hk hR => h1.keep k hk hR, LeH.refl _, fun k a b => absurd a b, h1.leF.trans h1.le, fun i T hT => ?_, fun i T k hT hk => ?_, fun i j T U k hij hT hU kT kU => ?_⟩
  · rcases get_app hT with h | ⟨_, h⟩
    · exact Th.ok_flat (f1.get _ T h) (h1.ok _ T h)
    · exact Th.ok_flat (f2.get _ T h) (h2.ok _ T h)
  · rcases get_app hT with h | ⟨_, h⟩
    · obtain ⟨a, b, c⟩ := h1.out _ T k h hk
      exact ⟨hn h1.leF a, b, c⟩
    · obtain ⟨a, b, c⟩ := h2.out _ T k h hk
      exact ⟨hn h2.leF a, b, c⟩
  · rcases get_app hT with h | ⟨hi, h⟩ <;> rcases get_app hU with h' | ⟨hj, h'⟩
    · exact h1.dj i j T U k hij h h' kT kU
    · exact hx _ _ T U k h h' kT kU
    · exact hx _ _ U T k h' h kU kT
    · exact h2.dj _ _ T U k (by omega) h h' kT kU
/-! regions that draw their order, whose operations read and write variables: told by what each leaves in its slot, and by the world as far as it has come -/
abbrev FW := Value → Prop
def Fw (G : FW) (W : World → Prop) (o : Oper) : Exit → Act → World → Prop := fun e a' w' => e = .normal ∧ a'.defers = [] ∧ W w' ∧ ∀ d, o.dst = some d → G (a'.tmps.getD d undef)
def gW (Gs : List FW) (i : Nat) : FW := Gs.getD i (fun _ => True)
def upd (bs : Nat → Bool) (i k : Nat) : Bool := match Nat.beq k i with
  | true => true
  | false => bs k
section regd
variable {P : Program} {ops : Array Oper} {N : Nat} {L0 : List (Nat × Value)}
def pickO (l : List Oper) : List Nat → List Oper
  | [] => []
  | i :: r => match l[i]? with
    | some o => o :: pickO l r
    | none => pickO l r
/-- each stands in sequence: alone ready -/
def seqD (ops : Array Oper) : List Nat → Array Bool → Bool
  | [], listed => (Region.ready .any ops listed).isEmpty
  | k :: r, listed => decide (Region.ready .any ops listed = [k]) && (ops[k]?).isSome && seqD ops r (listed.setIfInBounds k true)
theorem wpAny_seqD {l : List Oper} {Q : Exit → Act → World → Prop} : ∀ (r : List Nat) (listed : Array Bool) (a : Act) (w : World), seqD l.toArray r listed = true → wpList P l.toArray Q (pickO l r) a w → wpAny P .any l.toArray Q r.length listed a w
  | [], _, _, _, hB, h => ⟨by simpa [seqD] using hB, h⟩
  | k :: r, listed, a, w, hB, h => by
    simp only [seqD, Bool.and_eq_true, decide_eq_true_eq] at hB
    obtain ⟨⟨h1, h2⟩, h3⟩ := hB
    obtain ⟨o, ho⟩ := Option.isSome_iff_exists.1 h2
    have ho' : l[k]? = some o := by simpa using ho
    refine ⟨fun h4 => (by rw [h1] at h4; cases h4), fun i hi => ?_⟩
    rw [h1] at hi
    have hik : i = k := by simpa using hi
    subst hik
    have hp : pickO l (i :: r) = o :: pickO l r := by simp only [pickO, ho']
    rw [hp] at h
    have hw : wpOp P l.toArray Q i (wpList P l.toArray Q (pickO l r)) a w := by unfold wpOp; simp only [ho]; exact h
    exact wpOp_mono (fun a' w' h' => wpAny_seqD r _ a' w' h3 h') hw
/-- the rest waits for all of the head: each of the head is waited for by a later one of it, or by the first of the rest; each of the rest by the one ahead of it -/
def sinkD (ops : Array Oper) (m : Nat) (r0 : Nat) : Bool :=
  (List.range m).all fun i => Region.waitsFor .any ops r0 i || (List.range m).any fun j => decide (i < j) && Region.waitsFor .any ops j i
def chainD (ops : Array Oper) : List Nat → Bool
  | i :: j :: r => Region.waitsFor .any ops j i && chainD ops (j :: r)
  | _ => true
def headD (n m : Nat) (ds : List Nat) : Array Bool := ((List.range n).map fun i => Nat.blt i m || ds.contains i).toArray
def doneD (n : Nat) (ds : List Nat) : Array Bool := ((List.range n).map fun i => ds.contains i).toArray
def regDB (N : Nat) (L0 : List (Nat × Value)) (l : List Oper) (m : Nat) (ds rest : List Nat) : Bool :=
  dstsB N L0 (l.take m) && backB l.toArray m && Nat.ble m l.length && sinkD l.toArray m (rest.headD 0) && chainD l.toArray rest && seqD l.toArray rest (headD l.length m ds) &&
    (!rest.isEmpty) && (List.range l.length).all (fun i => Nat.blt i m || (ds.contains i || rest.contains i)) && ds.all (fun i => Nat.ble m i && !rest.contains i) && rest.all (fun i => Nat.ble m i)
structure DInv (ops : Array Oper) (m : Nat) (ds : List Nat) (listed : Array Bool) : Prop where
  size : listed.size = ops.size
  closed : ∀ j oj, ops[j]? = some oj → ds.contains j = false → listed.getD j false = true → ∀ e ∈ oj.after, Region.binds .any e = true → listed.getD e.on false = true
  tail : ∀ t, m ≤ t → t < ops.size → listed.getD t true = ds.contains t
theorem chainD_get : ∀ {r : List Nat} {r0 : Nat}, chainD ops (r0 :: r) = true → ∀ k, k ∈ r → ∃ j, j ∈ r0 :: r ∧ Region.waitsFor .any ops k j = true
  | [], _, _, k, hk => by simp at hk
  | x :: xs, r0, h, k, hk => by
    simp only [chainD, Bool.and_eq_true] at h
    rcases List.mem_cons.1 hk with rfl | hk
    · exact ⟨r0, by simp, h.1⟩
    · obtain ⟨j, hj, hw⟩ := chainD_get h.2 k hk
      exact ⟨j, List.mem_cons_of_mem _ hj, hw⟩
theorem waitsD {l : List Oper} {m : Nat} {ds : List Nat} {r0 : Nat} {r : List Nat} (hs : sinkD l.toArray m r0 = true) (hc : chainD l.toArray (r0 :: r) = true) (hnr : ∀ k, k ∈ r0 :: r → m ≤ k ∧ ds.contains k = false)
    (hm : ∀ i, i < m → ds.contains i = false) {listed : Array Bool} (inv : DInv l.toArray m ds listed) {i0 : Nat} (h0 : i0 < m) (hu : listed.getD i0 false = false) : ∀ k, k ∈ r0 :: r → k ∉ Region.ready .any l.toArray listed := by
  have hund : ∀ k, k ∈ r0 :: r → listed.getD k false = false := fun k hk => by
    obtain ⟨h1, h2⟩ := hnr k hk
    rcases Nat.lt_or_ge k l.toArray.size with h | h
    · exact getD_both (by rw [inv.tail k h1 h]; exact h2)
    · have : listed.size ≤ k := by rw [inv.size]; exact h
      simp [Array.getElem?_eq_none this]
  intro k hk hr
  obtain ⟨_, o, ho, hall⟩ := mem_ready.1 hr
  have hw : ∀ j, Region.waitsFor .any l.toArray k j = true → listed.getD j false = true := fun j hw => by
    obtain ⟨o', ho', e, he, hb, hon⟩ := Region.waitsFor_spec hw
    have : o' = o := Option.some.inj (ho'.symm.trans ho)
    subst this
    rw [← hon]; exact hall e he hb
  by_cases hk0 : k = r0
  · subst hk0
    -- from the undone one upwards to one that r0 waits for
    have up : ∀ (d i : Nat), m - i = d → i < m → listed.getD i false = false → False := by
      intro d
      induction d using Nat.strongRecOn with
      | _ d ih =>
        intro i hd hi hui
        have h1 := List.all_eq_true.1 hs i (List.mem_range.2 hi)
        rw [Bool.or_eq_true] at h1
        rcases h1 with h1 | h1
        · rw [hw i h1] at hui; cases hui
        · obtain ⟨j, hj, hj2⟩ := List.any_eq_true.1 h1
          simp only [Bool.and_eq_true, decide_eq_true_eq] at hj2
          have hjm := List.mem_range.1 hj
          refine ih (m - j) (by omega) j rfl hjm ?_
          cases hl : listed.getD j false with
          | false => rfl
          | true =>
            obtain ⟨oj, hoj, e, he, hb, hon⟩ := Region.waitsFor_spec hj2.2
            have h3 := inv.closed j oj hoj (hm j hjm) hl e he hb
            rw [hon, hui] at h3; cases h3
    exact up _ i0 rfl h0 hu
  · have hkr : k ∈ r := by
      rcases List.mem_cons.1 hk with h | h
      · exact absurd h hk0
      · exact h
    obtain ⟨j, hj, hj2⟩ := chainD_get hc k hkr
    have := hw j hj2
    rw [hund j hj] at this; cases this
theorem DInv.set {l : List Oper} {m : Nat} {ds : List Nat} {listed : Array Bool} (inv : DInv l.toArray m ds listed) {i : Nat} (hi : i ∈ Region.ready .any l.toArray listed) (him : i < m) : DInv l.toArray m ds (listed.setIfInBounds i true) := by
  obtain ⟨_, o, ho, hall⟩ := mem_ready.1 hi
  refine ⟨by rw [Array.size_setIfInBounds]; exact inv.size, fun j oj hoj hd hl e he hb => ?_, fun t ht hts => ?_⟩
  · by_cases hij : i = j
    · subst hij
      have : oj = o := Option.some.inj (hoj.symm.trans ho)
      subst this
      exact getD_set_true (hall e he hb)
    · rw [getD_set_ne false hij] at hl
      exact getD_set_true (inv.closed j oj hoj hd hl e he hb)
  · rw [getD_set_ne true (by omega)]; exact inv.tail t ht hts
theorem wpAny_factsD {w0 : World} {l : List Oper} {m : Nat} {ds : List Nat} {r0 : Nat} {r : List Nat} {Gs : List FF} {Q : Exit → Act → World → Prop} (hB : regDB N L0 l m ds (r0 :: r) = true) (hm : FMono Gs) (_ : Gs.length = m)
    (hob : FObs P l.toArray w0 N L0 Gs 0 (l.take m) Gs)
    (ht : ∀ a w, Ext w0 w → Fr N L0 a → (∀ i o d, i < m → l[i]? = some o → o.dst = some d → gAt Gs i (a.tmps.getD d undef) w) → wpList P l.toArray Q (pickO l (r0 :: r)) a w) :
    ∀ (f : Nat) (listed : Array Bool) (a : Act) (w : World), DInv l.toArray m ds listed → cnt listed m = f → FInv l.toArray w0 N L0 Gs m listed a w → wpAny P .any l.toArray Q (f + (r0 :: r).length) listed a w := by
  simp only [regDB, Bool.and_eq_true] at hB
  obtain ⟨⟨⟨⟨⟨⟨⟨⟨⟨hdst, hback⟩, hle⟩, hsink⟩, hchain⟩, hseq⟩, _⟩, hcov⟩, hdall⟩, hrall⟩ := hB
  have hle : m ≤ l.length := Nat.le_of_ble_eq_true hle
  have hsink : sinkD l.toArray m r0 = true := hsink
  have hops : ∀ i : Nat, l.toArray[i]? = l[i]? := fun i => by simp
  have htake : ∀ i : Nat, i < m → (l.take m)[i]? = l[i]? := fun i hi => List.getElem?_take_of_lt hi
  have hdm : ∀ i, i < m → ds.contains i = false := fun i hi => by
    cases e : ds.contains i with
    | false => rfl
    | true =>
      have h1 := List.all_eq_true.1 hdall i (by simpa using e)
      simp only [Bool.and_eq_true] at h1
      have := Nat.le_of_ble_eq_true h1.1
      omega
  have hnr : ∀ k, k ∈ r0 :: r → m ≤ k ∧ ds.contains k = false := fun k hk => by
    refine ⟨Nat.le_of_ble_eq_true (List.all_eq_true.1 hrall k hk), ?_⟩
    cases e : ds.contains k with
    | false => rfl
    | true =>
      have h1 := List.all_eq_true.1 hdall k (by simpa using e)
      simp only [Bool.and_eq_true] at h1
      have h2 : (r0 :: r).contains k = true := by simpa using hk
      rw [h2] at h1; simp at h1
  intro f
  induction f with
  | zero =>
    intro listed a w inv hc hI
    have hall := cnt_zero hc
    have hL : listed = headD l.length m ds := by
      apply Array.ext
      · rw [inv.size]; simp [headD]
      · intro i h1 h2
        have hi : i < l.length := by rw [inv.size] at h1; simpa using h1
        simp only [headD, List.getElem_map, List.getElem_toArray, List.getElem_range]
        by_cases him : i < m
        · have h3 := hall i him
          rw [Array.getD_eq_getD_getElem?, Array.getElem?_eq_getElem h1] at h3
          have h4 : Nat.blt i m = true := Nat.ble_eq_true_of_le him
          rw [h4]; simpa using h3
        · have h3 := inv.tail i (by omega) (by simpa using hi)
          rw [Array.getD_eq_getD_getElem?, Array.getElem?_eq_getElem h1] at h3
          have h4 : Nat.blt i m = false := by
            cases e : Nat.blt i m with
            | false => rfl
            | true => have := Nat.le_of_ble_eq_true e; omega
          rw [h4, Bool.false_or, ← h3]; rfl
    rw [Nat.zero_add]
    exact wpAny_seqD (r0 :: r) listed a w (by rw [hL]; exact hseq) (ht a w hI.ext hI.fr fun i o d hi ho hd => hI.facts i o d hi (hall i hi) (by rw [hops]; exact ho) hd)
  | succ f ih =>
    intro listed a w inv hc hI
    rw [show f + 1 + (r0 :: r).length = (f + (r0 :: r).length) + 1 by omega]
    obtain ⟨i0, hi0, hu0, hmin⟩ := cnt_pos (listed := listed) (m := m) (by omega)
    have hrdy : i0 ∈ Region.ready .any l.toArray listed := by
      have hlt : i0 < l.length := by omega
      have ho : l.toArray[i0]? = some l[i0] := by rw [hops]; exact List.getElem?_eq_getElem hlt
      refine mem_ready.2 ⟨getD_in (by rw [inv.size]; simpa using hlt) hu0, l[i0], ho, fun e he hb => ?_⟩
      have h1 := List.all_eq_true.1 hback i0 (List.mem_range.2 hi0)
      rw [ho] at h1
      have h2 := (Array.all_eq_true_iff_forall_mem.1 h1) e he
      rw [hb] at h2
      exact hmin _ (Nat.le_of_ble_eq_true h2)
    refine ⟨fun h => (by rw [h] at hrdy; cases hrdy), fun i hi => ?_⟩
    obtain ⟨hun, o, ho, hall⟩ := mem_ready.1 hi
    have hio : l[i]? = some o := by rw [← hops]; exact ho
    have hil : i < l.length := (List.getElem?_eq_some_iff.1 hio).1
    have him : i < m := by
      rcases Nat.lt_or_ge i m with h | h
      · exact h
      · have h1 := inv.tail i h (by simpa using hil)
        rw [hun] at h1
        have h2 := List.all_eq_true.1 hcov i (List.mem_range.2 hil)
        have h3 : Nat.blt i m = false := by
          cases e : Nat.blt i m with
          | false => rfl
          | true => have := Nat.le_of_ble_eq_true e; omega
        rw [h3, ← h1, Bool.false_or, Bool.false_or] at h2
        exact absurd hi (waitsD hsink hchain hnr hdm inv hi0 hu0 i (by simpa using h2))
    obtain ⟨G, hG, hOb⟩ := hob.get i o (by rw [htake i him]; exact hio)
    rw [Nat.zero_add] at hOb
    have hGi : gAt Gs i = G := by unfold gAt; rw [List.getD_eq_getElem?_getD, hG]; rfl
    have hw := hOb a w hI.ext hI.fr (fun j d hwf hdj => by
      obtain ⟨oj, hoj, hdj⟩ := dstAt_spec hdj
      obtain ⟨o', ho', e, he, hb, hon⟩ := Region.waitsFor_spec hwf
      have : o' = o := Option.some.inj (ho'.symm.trans ho)
      subst this
      have hl := hall e he hb
      rw [hon] at hl
      have h1 := List.all_eq_true.1 hback i (List.mem_range.2 him)
      rw [ho] at h1
      have h2 := (Array.all_eq_true_iff_forall_mem.1 h1) e he
      rw [hb] at h2
      have h2 := Nat.le_of_ble_eq_true h2
      have hjm : j < m := by omega
      exact hI.facts j oj d hjm hl hoj hdj)
    have hsz : i < listed.size := by rw [inv.size]; simpa using hil
    have key : ∀ v w', Fq G o w .normal (a.put o.dst v) w' → wpAny P .any l.toArray Q (f + (r0 :: r).length) (listed.setIfInBounds i true) (a.put o.dst v) w' := by
      rintro v w' ⟨_, hx, _, hg⟩
      refine ih _ _ _ (inv.set hi him) (by have := cnt_set hsz (getD_both hun) him; omega) ⟨hI.ext.tr hx, ?_, ?_⟩
      · cases hd : o.dst with
        | none => exact hI.fr
        | some d => exact Fr.put_other (dstsB_get hdst i o d (by rw [htake i him]; exact hio) hd).2.1 hI.fr
      · intro j oj d hjm hl hoj hdj
        by_cases hij : i = j
        · subst hij
          have : oj = o := Option.some.inj (hoj.symm.trans ho)
          subst this
          rw [hGi]; exact hg d hdj
        · rw [getD_set_ne false hij] at hl
          have h1 := hm.at j (hI.facts j oj d hjm hl hoj hdj) hx
          cases hd : o.dst with
          | none => exact h1
          | some d' =>
            have hne : d ≠ d' := fun e => by
              subst e
              exact hij (dstsB_ne hdst (by rw [htake i him]; exact hio) (by rw [htake j hjm, ← hops]; exact hoj) hd hdj)
            simp only [Act.put]
            rw [getD_put_ne _ _ _ _ _ hne]; exact h1
    unfold wpOp
    simp only [ho]
    exact wpList_one (fun e a w h => ⟨h.1, h.2.2.1⟩) hw key
/-! pure operations that are ready at once, taken first -/
def setsD : List (Nat × Nat × Value) → Array Bool → Array Bool
  | [], b => b
  | p :: r, b => setsD r (b.setIfInBounds p.1 true)
def addsD : List (Nat × Nat × Value) → List (Nat × Value) → List (Nat × Value)
  | [], L => L
  | p :: r, L => addsD r ((p.2.1, p.2.2) :: er p.2.1 L)
def takeB (N : Nat) (ops : Array Oper) : List (Nat × Nat × Value) → Array Bool → Bool
  | [], _ => true
  | p :: r, b => Region.free .any ops b p.1 && ((Region.ready .any ops b).contains p.1 && (Nat.blt p.2.1 N && ((match dstAt ops p.1 with
    | some d => Nat.beq d p.2.1
    | none => false) && takeB N ops r (b.setIfInBounds p.1 true))))
def YsD (P : Program) (N : Nat) (ops : Array Oper) : List (Nat × Nat × Value) → List (Nat × Value) → Prop
  | [], _ => True
  | p :: r, L => (∀ o a, ops[p.1]? = some o → Fr N L a → Yields P ops o p.2.2 a) ∧ YsD P N ops r ((p.2.1, p.2.2) :: er p.2.1 L)
theorem takesD {l : List Oper} {Q : Exit → Act → World → Prop} {w : World} {fuel : Nat} (hs : Region.noSelect l.toArray = true) (hQ : ∀ c a w d v, Q (.panic c) (a.put d v) w → Q (.panic c) a w) :
    ∀ (ps : List (Nat × Nat × Value)) (L : List (Nat × Value)) (listed : Array Bool) (a : Act), takeB N l.toArray ps listed = true → Fr N L a → YsD P N l.toArray ps L →
    (∀ a, Fr N (addsD ps L) a → wpAny P .any l.toArray Q fuel (setsD ps listed) a w) → wpAny P .any l.toArray Q (fuel + ps.length) listed a w
  | [], L, listed, a, _, hf, _, h => h a hf
  | p :: r, L, listed, a, hB, hf, hy, h => by
    simp only [takeB, Bool.and_eq_true] at hB
    obtain ⟨h1, h2, h3, h4, h5⟩ := hB
    have hd : dstAt l.toArray p.1 = some p.2.1 := by
      cases e : dstAt l.toArray p.1 with
      | none => rw [e] at h4; cases h4
      | some d => rw [e] at h4; exact congrArg some (Nat.eq_of_beq_eq_true h4)
    obtain ⟨o, ho, hdo⟩ := dstAt_spec hd
    rw [List.length_cons, show fuel + (r.length + 1) = (fuel + r.length) + 1 by omega]
    refine wpAny_take ho hs h1 h2 (fun c a w h => hQ c a w _ _ h) (hy.1 o a ho hf) ?_
    refine takesD hs hQ r _ _ _ h5 ?_ hy.2 h
    rw [hdo]
    exact hf.put h3 p.2.2
theorem doneD_get {n : Nat} {ds : List Nat} (i : Nat) (d : Bool) (hi : i < n) : (doneD n ds).getD i d = ds.contains i := by
  have : i < (doneD n ds).size := by simp [doneD, hi]
  rw [Array.getD_eq_getD_getElem?, Array.getElem?_eq_getElem this]
  simp [doneD]
/-- A REGION THAT DRAWS ITS ORDER, BY FACTS: pure operations that are ready at once are taken first; a head in any order; the rest in sequence -/
theorem regD {id : Nat} {l : List Oper} {a : Act} {w0 : World} {Q : Exit → Act → World → Prop} {L : List (Nat × Value)} (m : Nat) (ps : List (Nat × Nat × Value)) (r0 : Nat) (r : List Nat) (Gs : List FF) (hmx : P.follows .mixedOrders = true) (hQ : ∀ c a w d v, Q (.panic c) (a.put d v) w → Q (.panic c) a w)
    (hf : Fr N L a) (hL : addsD ps L = L0) (hs : Region.noSelect l.toArray = true) (ht0 : takeB N l.toArray ps (Array.replicate l.length false) = true) (hset : setsD ps (Array.replicate l.length false) = doneD l.length (ps.map (·.1)))
    (hn : Nat.beq l.length (m + (r0 :: r).length + ps.length) = true) (hB : regDB N L0 l m (ps.map (·.1)) (r0 :: r) = true) (hGs : Gs.length = m) (hm : FMono Gs) (hy : YsD P N l.toArray ps L)
    (hob : FObs P l.toArray w0 N L0 Gs 0 (l.take m) Gs)
    (ht : ∀ a w, Ext w0 w → Fr N L0 a → (∀ i d, Nat.blt i m = true → dstAt l.toArray i = some d → gAt Gs i (a.tmps.getD d undef) w) → wpList P l.toArray Q (pickO l (r0 :: r)) a w) : (Code.region id l.toArray true).wp P Q a w0 := by
  refine wp_region_any hmx ?_
  have hlen := Nat.eq_of_beq_eq_true hn
  have hdall : ∀ i, i < m → (ps.map (·.1)).contains i = false := fun i hi => by
    simp only [regDB, Bool.and_eq_true] at hB
    cases e : (ps.map (·.1)).contains i with
    | false => rfl
    | true =>
      have h1 := List.all_eq_true.1 hB.1.2 i (by simpa using e)
      simp only [Bool.and_eq_true] at h1
      have := Nat.le_of_ble_eq_true h1.1
      omega
  have h := takesD (P := P) (N := N) (Q := Q) (w := { w0 with drawn := w0.drawn + 1 }) (fuel := m + (r0 :: r).length) hs hQ ps L (Array.replicate l.length false) a ht0 hf hy (fun a hf => by
    rw [hL] at hf
    rw [hset]
    refine wpAny_factsD hB hm hGs hob (fun a w hx hf hd => ht a w hx hf fun i d hi hdi => by
      obtain ⟨o, ho, hdo⟩ := dstAt_spec hdi
      exact hd i o d (Nat.le_of_ble_eq_true hi) (by simpa using ho) hdo) m _ a _ ⟨by simp [doneD], fun j oj hoj hd hl e he hb => ?_, fun t _ hts => ?_⟩ (cnt_none fun i hi => ?_) ⟨⟨rfl, rfl, rfl, Nat.le_refl _, fun _ _ => rfl⟩, hf, fun i o d hi hl => ?_⟩
    · have hjl : j < l.length := by simpa using (Array.getElem?_eq_some_iff.1 hoj).1
      rw [doneD_get j false hjl, hd] at hl; cases hl
    · exact doneD_get t true (by simpa using hts)
    · rw [doneD_get i false (by omega)]; exact hdall i hi
    · rw [doneD_get i false (by omega), hdall i hi] at hl; cases hl)
  rw [show m + (r0 :: r).length + ps.length = l.length by omega] at h
  simpa using h
end regd
/-! a region that draws its order, gone through order by order -/
section rege
variable {P : Program} {N : Nat} {l : List Oper} {Q : Exit → Act → World → Prop} {a : Act} {w : World} {fuel : Nat} {listed : Array Bool}
def FE (K : Act → World → Prop) : Exit → Act → World → Prop := fun e a' w' => e = .normal ∧ a'.defers = [] ∧ K a' w'
theorem regE {id : Nat} (n : Nat) (hmx : P.follows .mixedOrders = true) (hn : Nat.beq l.length n = true) (h : wpAny P .any l.toArray Q n (Array.replicate n false) a { w with drawn := w.drawn + 1 }) : (Code.region id l.toArray true).wp P Q a w := by
  have hn := Nat.eq_of_beq_eq_true hn
  subst hn
  exact wp_region_any hmx h
theorem takeE {L : List (Nat × Value)} {d : Nat} (i : Nat) (v : Value) (hs : Region.noSelect l.toArray = true) (hfr : Region.free .any l.toArray listed i = true) (hr : (Region.ready .any l.toArray listed).contains i = true) (hd : dstAt l.toArray i = some d) (hdN : Nat.blt d N = true)
    (hQ : ∀ c a w d v, Q (.panic c) (a.put d v) w → Q (.panic c) a w) (hf : Fr N L a) (hy : ∀ o, l.toArray[i]? = some o → Yields P l.toArray o v a) (K : ∀ a', Fr N ((d, v) :: er d L) a' → wpAny P .any l.toArray Q fuel (listed.setIfInBounds i true) a' w) : wpAny P .any l.toArray Q (fuel + 1) listed a w := by
  obtain ⟨o, ho, hdo⟩ := dstAt_spec hd
  refine wpAny_take ho hs hfr hr (fun c a w h => hQ c a w _ _ h) (hy o ho) (K _ ?_)
  rw [hdo]; exact hf.put hdN v
def allW (P : Program) (l : List Oper) (Q : Exit → Act → World → Prop) (fuel : Nat) (listed : Array Bool) (a : Act) (w : World) : List Nat → Prop
  | [] => True
  | i :: r => wpList P l.toArray (FE (wpAny P .any l.toArray Q fuel (listed.setIfInBounds i true))) (pickO l [i]) a w ∧ allW P l Q fuel listed a w r
theorem allW.get : ∀ {rs : List Nat}, allW P l Q fuel listed a w rs → ∀ i, i ∈ rs → wpList P l.toArray (FE (wpAny P .any l.toArray Q fuel (listed.setIfInBounds i true))) (pickO l [i]) a w
  | [], _, i, h => by simp at h
  | x :: xs, H, i, h => by
    rcases List.mem_cons.1 h with rfl | h
    · exact H.1
    · exact allW.get H.2 i h
theorem allE (rs : List Nat) (hr : Region.ready .any l.toArray listed = rs) (hne : rs.isEmpty = false) (h : allW P l Q fuel listed a w rs) : wpAny P .any l.toArray Q (fuel + 1) listed a w := by
  refine wpAny_all hr (fun e => by rw [e] at hne; cases hne) fun i hi => ?_
  have hi' : i ∈ Region.ready .any l.toArray listed := by rw [hr]; exact hi
  obtain ⟨_, o, ho, _⟩ := mem_ready.1 hi'
  have ho' : l[i]? = some o := by simpa using ho
  have hp : pickO l [i] = [o] := by simp only [pickO, ho']
  have h1 := allW.get h i hi
  rw [hp] at h1
  unfold wpOp
  simp only [ho]
  exact wpList_one (fun e a w h => ⟨h.1, h.2.1⟩) h1 fun v w' h => h.2.2
theorem nilE {L : List (Nat × Value)} {ops : Array Oper} {K : Act → World → Prop} (hf : Fr N L a) (h : K a w) : wpList P ops (FE K) [] a w := ⟨rfl, hf.base.2, h⟩
theorem doneE (hr : (Region.ready .any l.toArray listed).isEmpty = true) (h : Q .normal a w) : wpAny P .any l.toArray Q fuel listed a w := wpAny_done (by simpa using hr) h fuel
end rege
section regw
variable {P : Program} {N : Nat} {L0 : List (Nat × Value)}
theorem fw_ok {ops : Array Oper} {L : List (Nat × Value)} {G : FW} {W : World → Prop} {o : Oper} {w' : World} {a' : Act} {d N : Nat} (hd : o.dst = some d) (hf : Fr N L a') (hW : W w') (h : G (a'.tmps.getD d undef)) : wpList P ops (Fw G W o) [] a' w' :=
  ⟨rfl, hf.base.2, hW, fun d' h' => by rw [hd] at h'; cases h'; exact h⟩
theorem fw_no {ops : Array Oper} {L : List (Nat × Value)} {G : FW} {W : World → Prop} {o : Oper} {w' : World} {a' : Act} {N : Nat} (hd : o.dst = none) (hf : Fr N L a') (hW : W w') : wpList P ops (Fw G W o) [] a' w' :=
  ⟨rfl, hf.base.2, hW, fun d' h' => by rw [hd] at h'; cases h'⟩
def WOb (P : Program) (ops : Array Oper) (N : Nat) (L0 : List (Nat × Value)) (Gs : List FW) (W : (Nat → Bool) → World → Prop) (i : Nat) (o : Oper) (G : FW) : Prop :=
  ∀ bs a w, W bs w → Fr N L0 a → (∀ j d, Region.waitsFor .any ops i j = true → dstAt ops j = some d → gW Gs j (a.tmps.getD d undef)) → wpList P ops (Fw G (W (upd bs i)) o) [o] a w
def WObs (P : Program) (ops : Array Oper) (N : Nat) (L0 : List (Nat × Value)) (Gs : List FW) (W : (Nat → Bool) → World → Prop) : Nat → List Oper → List FW → Prop
  | _, [], [] => True
  | k, o :: os, G :: r => WOb P ops N L0 Gs W k o G ∧ WObs P ops N L0 Gs W (k + 1) os r
  | _, _, _ => False
theorem WObs.get {ops : Array Oper} {Gs : List FW} {W : (Nat → Bool) → World → Prop} : ∀ {os : List Oper} {r : List FW} {k : Nat}, WObs P ops N L0 Gs W k os r → ∀ i o, os[i]? = some o → ∃ G, r[i]? = some G ∧ WOb P ops N L0 Gs W (k + i) o G
  | [], _, _, _, i, o, h => by simp at h
  | o :: os, [], _, h, _, _, _ => by simp [WObs] at h
  | o :: os, G :: r, k, h, 0, o', e => by
    have : o = o' := by simpa using e
    subst this
    exact ⟨G, rfl, h.1⟩
  | o :: os, G :: r, k, h, i + 1, o', e => by
    obtain ⟨G', h1, h2⟩ := WObs.get h.2 i o' (by simpa using e)
    exact ⟨G', by simpa using h1, by rw [show k + (i + 1) = k + 1 + i by omega]; exact h2⟩
structure WInv (ops : Array Oper) (N : Nat) (L0 : List (Nat × Value)) (Gs : List FW) (W : (Nat → Bool) → World → Prop) (listed : Array Bool) (a : Act) (w : World) : Prop where
  ok : W (fun k => listed.getD k false) w
  fr : Fr N L0 a
  facts : ∀ i o d, listed.getD i false = true → ops[i]? = some o → o.dst = some d → gW Gs i (a.tmps.getD d undef)
theorem upd_eq {listed : Array Bool} {i : Nat} (hi : i < listed.size) : (fun k => (listed.setIfInBounds i true).getD k false) = upd (fun k => listed.getD k false) i := by
  funext k
  unfold upd
  by_cases h : k = i
  · subst h
    rw [show Nat.beq k k = true from Nat.beq_refl k]
    simp [hi]
  · have hb : Nat.beq k i = false := by
      cases e : Nat.beq k i with
      | false => rfl
      | true => exact absurd (Nat.eq_of_beq_eq_true e) h
    rw [hb]
    exact getD_set_ne false fun e => h e.symm
theorem wpAny_W {l : List Oper} {Gs : List FW} {W : (Nat → Bool) → World → Prop} {Q : Exit → Act → World → Prop} (hdst : dstsB N L0 l = true) (hback : backB l.toArray l.length = true)
    (hob : WObs P l.toArray N L0 Gs W 0 l Gs)
    (ht : ∀ bs a w, (∀ i, i < l.length → bs i = true) → W bs w → Fr N L0 a → (∀ i o d, i < l.length → l[i]? = some o → o.dst = some d → gW Gs i (a.tmps.getD d undef)) → Q .normal a w) :
    ∀ (f : Nat) (listed : Array Bool) (a : Act) (w : World), HeadInv .any l.toArray l.length listed → cnt listed l.length = f → WInv l.toArray N L0 Gs W listed a w → wpAny P .any l.toArray Q f listed a w := by
  have hops : ∀ i : Nat, l.toArray[i]? = l[i]? := fun i => by simp
  intro f
  induction f with
  | zero =>
    intro listed a w inv hc hI
    have hall := cnt_zero hc
    refine wpAny_done ?_ (ht _ a w hall hI.ok hI.fr fun i o d hi ho hd => hI.facts i o d (hall i hi) (by rw [hops]; exact ho) hd) 0
    cases hr : Region.ready .any l.toArray listed with
    | nil => rfl
    | cons i r =>
      have hm : i ∈ Region.ready .any l.toArray listed := by rw [hr]; simp
      obtain ⟨hun, o, ho, _⟩ := mem_ready.1 hm
      have hil : i < l.length := (List.getElem?_eq_some_iff.1 (show l[i]? = some o by rw [← hops]; exact ho)).1
      have h1 := hall i hil
      have h2 := getD_both hun
      rw [h1] at h2; cases h2
  | succ f ih =>
    intro listed a w inv hc hI
    obtain ⟨i0, hi0, hu0, hmin⟩ := cnt_pos (listed := listed) (m := l.length) (by omega)
    have hrdy : i0 ∈ Region.ready .any l.toArray listed := by
      have ho : l.toArray[i0]? = some l[i0] := by rw [hops]; exact List.getElem?_eq_getElem hi0
      refine mem_ready.2 ⟨getD_in (by rw [inv.size]; simpa using hi0) hu0, l[i0], ho, fun e he hb => ?_⟩
      have h1 := List.all_eq_true.1 hback i0 (List.mem_range.2 hi0)
      rw [ho] at h1
      have h2 := (Array.all_eq_true_iff_forall_mem.1 h1) e he
      rw [hb] at h2
      exact hmin _ (Nat.le_of_ble_eq_true h2)
    refine ⟨fun h => (by rw [h] at hrdy; cases hrdy), fun i hi => ?_⟩
    obtain ⟨hun, o, ho, hall⟩ := mem_ready.1 hi
    have hio : l[i]? = some o := by rw [← hops]; exact ho
    have hil : i < l.length := (List.getElem?_eq_some_iff.1 hio).1
    obtain ⟨G, hG, hOb⟩ := hob.get i o hio
    rw [Nat.zero_add] at hOb
    have hGi : gW Gs i = G := by unfold gW; rw [List.getD_eq_getElem?_getD, hG]; rfl
    have hw := hOb _ a w hI.ok hI.fr (fun j d hwf hdj => by
      obtain ⟨oj, hoj, hdj⟩ := dstAt_spec hdj
      obtain ⟨o', ho', e, he, hb, hon⟩ := Region.waitsFor_spec hwf
      have : o' = o := Option.some.inj (ho'.symm.trans ho)
      subst this
      have hl := hall e he hb
      rw [hon] at hl
      exact hI.facts j oj d hl hoj hdj)
    have hsz : i < listed.size := by rw [inv.size]; simpa using hil
    have key : ∀ v w', Fw G (W (upd (fun k => listed.getD k false) i)) o .normal (a.put o.dst v) w' → wpAny P .any l.toArray Q f (listed.setIfInBounds i true) (a.put o.dst v) w' := by
      rintro v w' ⟨_, _, hx, hg⟩
      refine ih _ _ _ (inv.set hi hil) (by have := cnt_set hsz (getD_both hun) hil; omega) ⟨by rw [upd_eq hsz]; exact hx, ?_, ?_⟩
      · cases hd : o.dst with
        | none => exact hI.fr
        | some d => exact Fr.put_other (dstsB_get hdst i o d hio hd).2.1 hI.fr
      · intro j oj d hl hoj hdj
        by_cases hij : i = j
        · subst hij
          have : oj = o := Option.some.inj (hoj.symm.trans ho)
          subst this
          rw [hGi]; exact hg d hdj
        · rw [getD_set_ne false hij] at hl
          have h1 := hI.facts j oj d hl hoj hdj
          cases hd : o.dst with
          | none => exact h1
          | some d' =>
            have hne : d ≠ d' := fun e => by
              subst e
              exact hij (dstsB_ne hdst hio (by rw [← hops]; exact hoj) hd hdj)
            simp only [Act.put]
            rw [getD_put_ne _ _ _ _ _ hne]; exact h1
    unfold wpOp
    simp only [ho]
    exact wpList_one (fun e a w h => ⟨h.1, h.2.1⟩) hw key
theorem regW {id : Nat} {l : List Oper} {a : Act} {w0 : World} {Q : Exit → Act → World → Prop} (Gs : List FW) (W : (Nat → Bool) → World → Prop) (hmx : P.follows .mixedOrders = true) (hf : Fr N L0 a) (hdst : dstsB N L0 l = true) (hback : backB l.toArray l.length = true)
    (hW : W (fun _ => false) { w0 with drawn := w0.drawn + 1 }) (hob : WObs P l.toArray N L0 Gs W 0 l Gs)
    (ht : ∀ bs a w, (∀ i, Nat.blt i l.length = true → bs i = true) → W bs w → Fr N L0 a → (∀ i d, dstAt l.toArray i = some d → gW Gs i (a.tmps.getD d undef)) → Q .normal a w) : (Code.region id l.toArray true).wp P Q a w0 := by
  refine wp_region_any hmx ?_
  have h := wpAny_W (Q := Q) (W := W) hdst hback hob (fun bs a w hb hx hf hd => ht bs a w (fun i hi => hb i (Nat.le_of_ble_eq_true hi)) hx hf fun i d hdi => by
    obtain ⟨o, ho, hdo⟩ := dstAt_spec hdi
    have hio : l[i]? = some o := by simpa using ho
    exact hd i o d (List.getElem?_eq_some_iff.1 hio).1 hio hdo) l.length (Array.replicate l.toArray.size false) a { w0 with drawn := w0.drawn + 1 }
    ⟨by simp, fun j oj _ hl => (by rw [getD_replicate_false] at hl; cases hl), fun t _ ht => getD_in (by simpa using ht) (getD_replicate_false _ _)⟩
    (cnt_none fun i _ => getD_replicate_false _ _) ⟨by
      have : (fun k => (Array.replicate l.toArray.size false).getD k false) = fun _ => false := by funext k; exact getD_replicate_false _ _
      rw [this]; exact hW, hf, fun i o d hl => (by rw [getD_replicate_false] at hl; cases hl)⟩
  simpa using h
end regw
end Dm
