/-
  Regions that draw their order, told by facts: whatever order is drawn, each operation finds the facts of those that it waits for, and leaves its own. Behind them a tail that stands in sequence. No condition; nothing of a program is named here.
-/
import Derived.Test.YtpgohbnaphkngaaDoorMore
import Derived.StillTail
namespace Dm
open Go Go.RowKit

abbrev FF := Value → World → Prop
def Fq (G : FF) (o : Oper) (w : World) : Exit → Act → World → Prop := fun e a' w' => e = .normal ∧ Ext w w' ∧ a'.defers = [] ∧ ∀ d, o.dst = some d → G (a'.tmps.getD d undef) w'
def dstAt (ops : Array Oper) (j : Nat) : Option Nat := match ops[j]? with
  | some o => o.dst
  | none => none
theorem dstAt_spec {ops : Array Oper} {j d : Nat} (h : dstAt ops j = some d) : ∃ o, ops[j]? = some o ∧ o.dst = some d := by
  unfold dstAt at h; split at h
  · exact ⟨_, ‹_›, h⟩
  · cases h
def gAt (Gs : List FF) (i : Nat) : FF := Gs.getD i (fun _ _ => True)

section reg
variable {P : Program} {ops : Array Oper} {w0 : World} {N : Nat} {L0 : List (Nat × Value)}
theorem fq_ok {G : FF} {o : Oper} {w w' : World} {a' : Act} {d N : Nat} {L : List (Nat × Value)} (hd : o.dst = some d) (hf : Fr N L a') (hx : Ext w w') (h : G (a'.tmps.getD d undef) w') : wpList P ops (Fq G o w) [] a' w' :=
  ⟨rfl, hx, hf.base.2, fun d' h' => by rw [hd] at h'; cases h'; exact h⟩
def FOb (P : Program) (ops : Array Oper) (w0 : World) (N : Nat) (L0 : List (Nat × Value)) (Gs : List FF) (i : Nat) (o : Oper) (G : FF) : Prop :=
  ∀ a w, Ext w0 w → Fr N L0 a → (∀ j d, Region.waitsFor .any ops i j = true → dstAt ops j = some d → gAt Gs j (a.tmps.getD d undef) w) → wpList P ops (Fq G o w) [o] a w
def FObs (P : Program) (ops : Array Oper) (w0 : World) (N : Nat) (L0 : List (Nat × Value)) (Gs : List FF) : Nat → List Oper → List FF → Prop
  | _, [], [] => True
  | k, o :: os, G :: r => FOb P ops w0 N L0 Gs k o G ∧ FObs P ops w0 N L0 Gs (k + 1) os r
  | _, _, _ => False
theorem FObs.get {Gs : List FF} : ∀ {os : List Oper} {r : List FF} {k : Nat}, FObs P ops w0 N L0 Gs k os r → ∀ i o, os[i]? = some o → ∃ G, r[i]? = some G ∧ FOb P ops w0 N L0 Gs (k + i) o G
  | [], _, _, _, i, o, h => by simp at h
  | o :: os, [], _, h, _, _, _ => by simp [FObs] at h
  | o :: os, G :: r, k, h, 0, o', e => by
    have : o = o' := by simpa using e
    subst this
    exact ⟨G, rfl, h.1⟩
  | o :: os, G :: r, k, h, i + 1, o', e => by
    obtain ⟨G', h1, h2⟩ := FObs.get h.2 i o' (by simpa using e)
    exact ⟨G', by simpa using h1, by rw [show k + (i + 1) = k + 1 + i by omega]; exact h2⟩
def FMono : List FF → Prop
  | [] => True
  | G :: r => (∀ v w w', G v w → Ext w w' → G v w') ∧ FMono r
theorem FMono.get : ∀ {r : List FF} (i : Nat) (G : FF), FMono r → r[i]? = some G → ∀ v w w', G v w → Ext w w' → G v w'
  | [], i, G, _, h => by simp at h
  | G' :: r, 0, G, hm, h => by
    have : G' = G := by simpa using h
    subst this; exact hm.1
  | G' :: r, i + 1, G, hm, h => FMono.get i G hm.2 (by simpa using h)
theorem FMono.at {Gs : List FF} (hm : FMono Gs) (i : Nat) {v : Value} {w w' : World} (h : gAt Gs i v w) (hx : Ext w w') : gAt Gs i v w' := by
  unfold gAt at *
  rw [List.getD_eq_getElem?_getD] at *
  cases e : Gs[i]? with
  | none => simp
  | some G => rw [e] at h; exact hm.get i G e v w w' h hx

/-- one operation, its fact kept, in the place of any rest -/
theorem wpList_one {Q Q' : Exit → Act → World → Prop} {K : Act → World → Prop} {o : Oper} {a : Act} {w : World} (hQ : ∀ e a w, Q e a w → e = .normal ∧ a.defers = []) (h : wpList P ops Q [o] a w)
    (hK : ∀ v w', Q .normal (a.put o.dst v) w' → K (a.put o.dst v) w') :
    if Region.wanted o (yielded ops a.tmps) then o.wp P a w K Q' ∨ (o.asks P a w ∧ LetsOut Q') else K (a.put o.dst undef) w := by
  unfold wpList at h
  split
  · rename_i hw
    rw [if_pos hw] at h
    rcases h with h | ⟨_, a', w', h⟩
    · left
      unfold Oper.wp at *
      generalize he : (execOp a.eval o).run P w = r at *
      cases r with
      | ok n w' =>
        cases n <;> simp only [Oper.upon] at h ⊢
        case value v => exact hK v w' h
        case skip => exact hK undef w' h
        case defer d => have := (hQ _ _ _ h).2; simp [Act.put] at this; cases hd : o.dst <;> simp [hd] at this
        case enter f args =>
          refine Calls.mono h fun e w'' he => ?_
          cases e with
          | returned v => exact hK v w'' he
          | panicked c => cases (hQ _ _ _ he).1
          | outgrown => obtain ⟨a', w3, h3⟩ := he; cases (hQ _ _ _ h3).1
        case row rw args =>
          exact Rows.mono h fun v w'' h' => hK v w'' h'
      | halt x w' =>
        cases x <;> simp only [Oper.upon] at h ⊢
        case panic v => cases (hQ _ _ _ h).1
    · cases (hQ _ _ _ h).1
  · rename_i hw
    rw [if_neg hw] at h
    exact hK undef w h
/-! how many are left -/
def cnt (listed : Array Bool) : Nat → Nat
  | 0 => 0
  | m + 1 => cnt listed m + (if listed.getD m false then 0 else 1)
theorem cnt_le (listed : Array Bool) : ∀ m, cnt listed m ≤ m
  | 0 => Nat.le_refl _
  | m + 1 => by have := cnt_le listed m; simp only [cnt]; split <;> omega
theorem cnt_none {listed : Array Bool} : ∀ {m : Nat}, (∀ i, i < m → listed.getD i false = false) → cnt listed m = m
  | 0, _ => rfl
  | m + 1, h => by simp only [cnt, h m (by omega)]; rw [cnt_none fun i hi => h i (by omega)]; simp
theorem cnt_same {listed : Array Bool} {i : Nat} : ∀ {m : Nat}, m ≤ i → cnt (listed.setIfInBounds i true) m = cnt listed m
  | 0, _ => rfl
  | m + 1, h => by simp only [cnt]; rw [cnt_same (by omega), getD_set_ne false (by omega)]
theorem cnt_set {listed : Array Bool} {i : Nat} (hs : i < listed.size) (hu : listed.getD i false = false) : ∀ {m : Nat}, i < m → cnt (listed.setIfInBounds i true) m + 1 = cnt listed m
  | 0, h => by omega
  | m + 1, h => by
    simp only [cnt]
    by_cases hi : i = m
    · subst hi
      rw [cnt_same (Nat.le_refl _), hu]
      have : (listed.setIfInBounds i true).getD i false = true := by simp [hs]
      rw [this]; simp
    · rw [getD_set_ne false hi]
      have := cnt_set hs hu (m := m) (by omega)
      omega
theorem cnt_zero {listed : Array Bool} : ∀ {m : Nat}, cnt listed m = 0 → ∀ i, i < m → listed.getD i false = true
  | 0, _, i, hi => by omega
  | m + 1, h, i, hi => by
    simp only [cnt] at h
    by_cases hm : i = m
    · subst hm
      cases e : listed.getD i false with
      | true => rfl
      | false => rw [e] at h; simp at h
    · exact cnt_zero (m := m) (by omega) i (by omega)
theorem cnt_pos {listed : Array Bool} : ∀ {m : Nat}, 0 < cnt listed m → ∃ i, i < m ∧ listed.getD i false = false ∧ ∀ j, j < i → listed.getD j false = true
  | 0, h => by simp [cnt] at h
  | m + 1, h => by
    by_cases h0 : 0 < cnt listed m
    · obtain ⟨i, h1, h2, h3⟩ := cnt_pos h0
      exact ⟨i, by omega, h2, h3⟩
    · have hz : cnt listed m = 0 := by omega
      refine ⟨m, by omega, ?_, cnt_zero hz⟩
      simp only [cnt, hz] at h
      cases e : listed.getD m false with
      | false => rfl
      | true => rw [e] at h; simp at h

/-! what the kernel checks of a region -/
def dstsB (N : Nat) (L0 : List (Nat × Value)) : List Oper → Bool
  | [] => true
  | o :: os => (match o.dst with
    | none => true
    | some d => Nat.blt d N && L0.all (fun p => !Nat.beq p.1 d) && os.all (fun o' => match o'.dst with
      | none => true
      | some d' => !Nat.beq d' d)) && dstsB N L0 os
def backB (ops : Array Oper) (m : Nat) : Bool :=
  (List.range m).all fun i => match ops[i]? with
    | some o => o.after.all fun e => !Region.binds .any e || Nat.blt e.on i
    | none => true
def headListed (n m : Nat) : Array Bool := ((List.range n).map fun i => Nat.blt i m).toArray
def regB (N : Nat) (L0 : List (Nat × Value)) (l : List Oper) (m : Nat) : Bool :=
  dstsB N L0 (l.take m) && backB l.toArray m && Nat.ble m l.length && (Nat.beq m l.length || (Region.sinkB .any l.toArray m && Region.chainB .any l.toArray m)) &&
    Region.seqB .any l.toArray (l.length - m) m (headListed l.length m)

structure FInv (ops : Array Oper) (w0 : World) (N : Nat) (L0 : List (Nat × Value)) (Gs : List FF) (m : Nat) (listed : Array Bool) (a : Act) (w : World) : Prop where
  ext : Ext w0 w
  fr : Fr N L0 a
  facts : ∀ i o d, i < m → listed.getD i false = true → ops[i]? = some o → o.dst = some d → gAt Gs i (a.tmps.getD d undef) w

theorem Fr.put_other {d : Nat} {v : Value} : ∀ {L : List (Nat × Value)} {a : Act}, L.all (fun p => !Nat.beq p.1 d) = true → Fr N L a → Fr N L (a.put (some d) v)
  | [], a, _, h => ⟨by simp only [Act.put, Array.size_setIfInBounds]; exact h.1, h.2⟩
  | p :: L, a, hb, h => by
    simp only [List.all_cons, Bool.and_eq_true] at hb
    refine ⟨?_, Fr.put_other hb.2 h.2⟩
    have hne : p.1 ≠ d := fun e => by rw [e] at hb; simp at hb
    simp only [Act.put]
    rw [getD_put_ne _ _ _ _ _ hne]; exact h.1
theorem dstsB_get : ∀ {l : List Oper}, dstsB N L0 l = true → ∀ (i : Nat) (o : Oper) (d : Nat), l[i]? = some o → o.dst = some d →
    d < N ∧ L0.all (fun p => !Nat.beq p.1 d) = true ∧ ∀ (j : Nat) (o' : Oper), i < j → l[j]? = some o' → o'.dst ≠ some d
  | [], _, i, o, d, h, _ => by simp at h
  | o :: os, hB, 0, o', d, h, hd => by
    have : o = o' := by simpa using h
    subst this
    simp only [dstsB, hd, Bool.and_eq_true] at hB
    obtain ⟨⟨⟨h1, h2⟩, h3⟩, _⟩ := hB
    refine ⟨Nat.le_of_ble_eq_true h1, h2, fun j o' hj hj' hd' => ?_⟩
    obtain ⟨j, rfl⟩ : ∃ q, j = q + 1 := ⟨j - 1, by omega⟩
    have hm : o' ∈ os := List.mem_of_getElem? (by simpa using hj')
    have := List.all_eq_true.1 h3 o' hm
    rw [hd'] at this
    simp at this
  | o :: os, hB, i + 1, o', d, h, hd => by
    simp only [dstsB, Bool.and_eq_true] at hB
    obtain ⟨h1, h2, h3⟩ := dstsB_get hB.2 i o' d (by simpa using h) hd
    refine ⟨h1, h2, fun j o2 hj hj' => ?_⟩
    obtain ⟨j, rfl⟩ : ∃ q, j = q + 1 := ⟨j - 1, by omega⟩
    exact h3 j o2 (by omega) (by simpa using hj')
theorem dstsB_ne {l : List Oper} (hB : dstsB N L0 l = true) {i j : Nat} {oi oj : Oper} {d : Nat} (hi : l[i]? = some oi) (hj : l[j]? = some oj) (hd : oi.dst = some d) (hd' : oj.dst = some d) : i = j := by
  rcases Nat.lt_trichotomy i j with h | h | h
  · exact absurd hd' ((dstsB_get hB i oi d hi hd).2.2 j oj h hj)
  · exact h
  · exact absurd hd ((dstsB_get hB j oj d hj hd').2.2 i oi h hi)

theorem wpAny_facts {l : List Oper} {m : Nat} {Gs : List FF} {Q : Exit → Act → World → Prop} (hB : regB N L0 l m = true) (hm : FMono Gs) (_ : Gs.length = m)
    (hob : FObs P l.toArray w0 N L0 Gs 0 (l.take m) Gs)
    (ht : ∀ a w, Ext w0 w → Fr N L0 a → (∀ i o d, i < m → l[i]? = some o → o.dst = some d → gAt Gs i (a.tmps.getD d undef) w) → wpList P l.toArray Q (l.drop m) a w) :
    ∀ (f : Nat) (listed : Array Bool) (a : Act) (w : World), HeadInv .any l.toArray m listed → cnt listed m = f → FInv l.toArray w0 N L0 Gs m listed a w → wpAny P .any l.toArray Q (f + (l.length - m)) listed a w := by
  simp only [regB, Bool.and_eq_true] at hB
  obtain ⟨⟨⟨⟨hdst, hback⟩, hle⟩, hsc⟩, hseq⟩ := hB
  have hle : m ≤ l.length := Nat.le_of_ble_eq_true hle
  have hops : ∀ i : Nat, l.toArray[i]? = l[i]? := fun i => by simp
  have htake : ∀ i : Nat, i < m → (l.take m)[i]? = l[i]? := fun i hi => List.getElem?_take_of_lt hi
  intro f
  induction f with
  | zero =>
    intro listed a w inv hc hI
    have hall := cnt_zero hc
    have hL : listed = headListed l.length m := by
      apply Array.ext
      · rw [inv.size]; simp [headListed]
      · intro i h1 h2
        have hi : i < l.length := by rw [inv.size] at h1; simpa using h1
        simp only [headListed, List.getElem_map, List.getElem_toArray, List.getElem_range]
        by_cases him : i < m
        · have h3 := hall i him
          rw [Array.getD_eq_getD_getElem?, Array.getElem?_eq_getElem h1] at h3
          have h4 : Nat.blt i m = true := Nat.ble_eq_true_of_le him
          rw [h4]; simpa using h3
        · have h3 := inv.tail i (by omega) (by simpa using hi)
          rw [Array.getD_eq_getD_getElem?, Array.getElem?_eq_getElem h1] at h3
          have h4 : Nat.blt i m = false := by
            cases e : Nat.blt i m with
            | false => rfl
            | true => have := Nat.le_of_ble_eq_true e; omega
          rw [h4]; simpa using h3
    rw [Nat.zero_add]
    have h5 := wpAny_of_seq (P := P) (md := .any) (ops := l.toArray) (Q' := Q) (l.drop m) m listed a w (fun j => by simp [List.getElem?_drop]) (by rw [List.length_drop, hL]; exact hseq)
      (ht a w hI.ext hI.fr fun i o d hi ho hd => hI.facts i o d hi (hall i hi) (by rw [hops]; exact ho) hd)
    rwa [List.length_drop] at h5
  | succ f ih =>
    intro listed a w inv hc hI
    rw [show f + 1 + (l.length - m) = (f + (l.length - m)) + 1 by omega]
    obtain ⟨i0, hi0, hu0, hmin⟩ := cnt_pos (listed := listed) (m := m) (by omega)
    have hrdy : i0 ∈ Region.ready .any l.toArray listed := by
      have hlt : i0 < l.length := by omega
      have ho : l.toArray[i0]? = some l[i0] := by rw [hops]; exact List.getElem?_eq_getElem hlt
      refine mem_ready.2 ⟨getD_in (by rw [inv.size]; simpa using hlt) hu0, l[i0], ho, fun e he hb => ?_⟩
      have h1 := List.all_eq_true.1 hback i0 (List.mem_range.2 hi0)
      rw [ho] at h1
      have h2 := (Array.all_eq_true_iff_forall_mem.1 h1) e he
      rw [hb] at h2
      exact hmin _ (Nat.le_of_ble_eq_true h2)
    refine ⟨fun h => (by rw [h] at hrdy; cases hrdy), fun i hi => ?_⟩
    obtain ⟨hun, o, ho, hall⟩ := mem_ready.1 hi
    have hio : l[i]? = some o := by rw [← hops]; exact ho
    have hil : i < l.length := (List.getElem?_eq_some_iff.1 hio).1
    have him : i < m := by
      rcases Nat.lt_or_ge i m with h | h
      · exact h
      · simp only [Bool.or_eq_true, Bool.and_eq_true] at hsc
        rcases hsc with h1 | ⟨h1, h2⟩
        · have := Nat.eq_of_beq_eq_true h1; omega
        · exact absurd hi (tail_waits h1 h2 (by simp; omega) inv _ i0 rfl hi0 (getD_in (by rw [inv.size]; simp; omega) hu0) i h)
    obtain ⟨G, hG, hOb⟩ := hob.get i o (by rw [htake i him]; exact hio)
    rw [Nat.zero_add] at hOb
    have hGi : gAt Gs i = G := by unfold gAt; rw [List.getD_eq_getElem?_getD, hG]; rfl
    have hw := hOb a w hI.ext hI.fr (fun j d hwf hdj => by
      obtain ⟨oj, hoj, hdj⟩ := dstAt_spec hdj
      obtain ⟨o', ho', e, he, hb, hon⟩ := Region.waitsFor_spec hwf
      have : o' = o := Option.some.inj (ho'.symm.trans ho)
      subst this
      have hl := hall e he hb
      rw [hon] at hl
      have h1 := List.all_eq_true.1 hback i (List.mem_range.2 him)
      rw [ho] at h1
      have h2 := (Array.all_eq_true_iff_forall_mem.1 h1) e he
      rw [hb] at h2
      have h2 := Nat.le_of_ble_eq_true h2
      have hjm : j < m := by omega
      exact hI.facts j oj d hjm hl hoj hdj)
    have hsz : i < listed.size := by rw [inv.size]; simpa using hil
    have key : ∀ v w', Fq G o w .normal (a.put o.dst v) w' → wpAny P .any l.toArray Q (f + (l.length - m)) (listed.setIfInBounds i true) (a.put o.dst v) w' := by
      rintro v w' ⟨_, hx, _, hg⟩
      refine ih _ _ _ (inv.set hi him) (by have := cnt_set hsz (getD_both hun) him; omega) ⟨hI.ext.tr hx, ?_, ?_⟩
      · cases hd : o.dst with
        | none => exact hI.fr
        | some d => exact Fr.put_other (dstsB_get hdst i o d (by rw [htake i him]; exact hio) hd).2.1 hI.fr
      · intro j oj d hjm hl hoj hdj
        by_cases hij : i = j
        · subst hij
          have : oj = o := Option.some.inj (hoj.symm.trans ho)
          subst this
          rw [hGi]; exact hg d hdj
        · rw [getD_set_ne false hij] at hl
          have h1 := hm.at j (hI.facts j oj d hjm hl hoj hdj) hx
          cases hd : o.dst with
          | none => exact h1
          | some d' =>
            have hne : d ≠ d' := fun e => by
              subst e
              exact hij (dstsB_ne hdst (by rw [htake i him]; exact hio) (by rw [htake j hjm, ← hops]; exact hoj) hd hdj)
            simp only [Act.put]
            rw [getD_put_ne _ _ _ _ _ hne]; exact h1
    unfold wpOp
    simp only [ho]
    exact wpList_one (fun e a w h => ⟨h.1, h.2.2.1⟩) hw key
/-- A REGION THAT DRAWS ITS ORDER, BY FACTS: a head of m operations in any order, a tail in sequence -/
theorem regF {id : Nat} {l : List Oper} {a : Act} {Q : Exit → Act → World → Prop} (m : Nat) (Gs : List FF) (hmx : P.follows .mixedOrders = true) (hf : Fr N L0 a) (hB : regB N L0 l m = true) (hGs : Gs.length = m) (hm : FMono Gs)
    (hob : FObs P l.toArray w0 N L0 Gs 0 (l.take m) Gs)
    (ht : ∀ a w, Ext w0 w → Fr N L0 a → (∀ i d, Nat.blt i m = true → dstAt l.toArray i = some d → gAt Gs i (a.tmps.getD d undef) w) → wpList P l.toArray Q (l.drop m) a w) : (Code.region id l.toArray true).wp P Q a w0 := by
  refine wp_region_any hmx ?_
  have hle : m ≤ l.length := by
    simp only [regB, Bool.and_eq_true] at hB
    exact Nat.le_of_ble_eq_true hB.1.1.2
  have h := wpAny_facts (Q := Q) hB hm hGs hob (fun a w hx hf hd => ht a w hx hf fun i d hi hdi => by
    obtain ⟨o, ho, hdo⟩ := dstAt_spec hdi
    exact hd i o d (Nat.le_of_ble_eq_true hi) (by simpa using ho) hdo) m (Array.replicate l.toArray.size false) a { w0 with drawn := w0.drawn + 1 }
    ⟨by simp, fun j oj _ hl => (by rw [getD_replicate_false] at hl; cases hl), fun t _ ht => getD_in (by simpa using ht) (getD_replicate_false _ _)⟩
    (cnt_none fun i _ => getD_replicate_false _ _) ⟨⟨rfl, rfl, rfl, Nat.le_refl _, fun _ _ => rfl⟩, hf, fun i o d _ hl => (by rw [getD_replicate_false] at hl; cases hl)⟩
  rw [show m + (l.length - m) = l.length by omega] at h
  simpa using h

/-! the same, where some operations without any effect ('floats') may also come behind the tail's first ones -/
def notF (fs : List Nat) (i : Nat) : Bool := !fs.contains i
def sinkF (ops : Array Oper) (m : Nat) (fs : List Nat) : Bool :=
  (List.range m).all fun i => fs.contains i || (List.range (m + 1)).any fun j => decide (i < j) && notF fs j && Region.waitsFor .any ops j i
def depF (ops : Array Oper) (m : Nat) (fs : List Nat) : Bool :=
  fs.all fun p => Nat.blt p m && match ops[p]? with
    | some o => o.after.all fun e => !Region.binds .any e || (Nat.blt e.on p && notF fs e.on)
    | none => false
def freeF (ops : Array Oper) (fs : List Nat) : Bool :=
  fs.all fun p => match ops[p]? with
    | some oi => (List.range ops.size).all fun j => Nat.beq j p || Region.waitsFor .any ops j p || Region.waitsFor .any ops p j || match ops[j]? with
      | some oj => oi.apart ops oj
      | none => true
    | none => false
def regHB (N : Nat) (L0 : List (Nat × Value)) (l : List Oper) (m : Nat) (fs : List Nat) : Bool :=
  dstsB N L0 (l.take m) && backB l.toArray m && Nat.blt m l.length && sinkF l.toArray m fs && Region.chainB .any l.toArray m && depF l.toArray m fs && freeF l.toArray fs && Region.noSelect l.toArray &&
    Region.seqB .any l.toArray (l.length - m) m (headListed l.length m) && notF fs m
def FYs (P : Program) (ops : Array Oper) (w0 : World) (N : Nat) (L0 : List (Nat × Value)) (Gs : List FF) : List (Nat × Value) → Prop
  | [] => True
  | p :: r => ((∀ a w, Ext w0 w → Fr N L0 a → (∀ j d, Region.waitsFor .any ops p.1 j = true → dstAt ops j = some d → gAt Gs j (a.tmps.getD d undef) w) → ∀ o, ops[p.1]? = some o → Yields P ops o p.2 a) ∧ ∀ w, gAt Gs p.1 p.2 w) ∧ FYs P ops w0 N L0 Gs r
theorem FYs.get {Gs : List FF} : ∀ {ps : List (Nat × Value)}, FYs P ops w0 N L0 Gs ps → ∀ p, (ps.map (·.1)).contains p = true → ∃ v, (∀ a w, Ext w0 w → Fr N L0 a → (∀ j d, Region.waitsFor .any ops p j = true → dstAt ops j = some d → gAt Gs j (a.tmps.getD d undef) w) → ∀ o, ops[p]? = some o → Yields P ops o v a) ∧ ∀ w, gAt Gs p v w
  | [], _, p, h => by simp at h
  | q :: r, H, p, h => by
    simp only [List.map_cons, List.contains_cons, Bool.or_eq_true, beq_iff_eq] at h
    rcases h with rfl | h
    · exact ⟨q.2, H.1⟩
    · exact FYs.get H.2 p h
theorem yields_t {tb : Tb} (htb : TbOk P tb) {L : List (Nat × Value)} {a : Act} {o : Oper} {v : Value} (hf : Fr N L a) (hg : grd ops L o.guard = some true) (h : pureOp tb L o.op = some v) : Yields P ops o v a :=
  .inl ⟨grd_ok hf hg, fun w => pureOp_ok htb hf o h w⟩
theorem yields_f {L : List (Nat × Value)} {a : Act} {o : Oper} (hf : Fr N L a) (hg : grd ops L o.guard = some false) : Yields P ops o undef a :=
  .inr ⟨grd_ok hf hg, rfl⟩
theorem headF {m : Nat} {fs : List Nat} {listed : Array Bool} (hs : sinkF ops m fs = true) (hc : Region.chainB .any ops m = true) (hd : depF ops m fs = true) (hn : m < ops.size) (hm : notF fs m = true) (inv : HeadInv .any ops m listed)
    (hno : ∀ p, fs.contains p = true → p ∉ Region.ready .any ops listed) {i0 : Nat} (h0 : i0 < m) (hu : listed.getD i0 true = false) : ∀ t, m ≤ t → t ∉ Region.ready .any ops listed := by
  intro t ht hr
  obtain ⟨_, ot, hot, hall⟩ := mem_ready.1 hr
  have htlt : t < ops.size := (Array.getElem?_eq_some_iff.1 hot).1
  have htm : t = m := by
    rcases Nat.lt_or_ge m t with h | h
    · have h1 := List.all_eq_true.1 hc t (List.mem_range.2 htlt)
      simp only [Bool.or_eq_true, decide_eq_true_eq] at h1
      rcases h1 with h1 | h1
      · omega
      · obtain ⟨o', ho', e, he, hb, hon⟩ := Region.waitsFor_spec h1
        have : o' = ot := Option.some.inj (ho'.symm.trans hot)
        subst this
        have h2 := hall e he hb
        rw [hon, getD_both (inv.tail (t - 1) (by omega) (by omega))] at h2
        cases h2
    · omega
  subst htm
  -- all that are no floats are done
  have key : ∀ (n i : Nat), t - i = n → i < t → fs.contains i = false → listed.getD i false = true := by
    intro n
    induction n using Nat.strongRecOn with
    | _ n ih =>
      intro i hin hi hnf
      have h1 := List.all_eq_true.1 hs i (List.mem_range.2 hi)
      rw [hnf, Bool.false_or] at h1
      obtain ⟨j, hj, hj2⟩ := List.any_eq_true.1 h1
      simp only [Bool.and_eq_true, decide_eq_true_eq] at hj2
      obtain ⟨⟨hij, hnj⟩, hw⟩ := hj2
      obtain ⟨oj, hoj, e, he, hb, hon⟩ := Region.waitsFor_spec hw
      have hjle : j ≤ t := by have := List.mem_range.1 hj; omega
      by_cases hjt : j = t
      · subst hjt
        have : oj = ot := Option.some.inj (hoj.symm.trans hot)
        subst this
        have h2 := hall e he hb
        rwa [hon] at h2
      · have h2 := ih (t - j) (by omega) j rfl (by omega) (by simpa [notF] using hnj)
        have h3 := inv.closed j oj hoj h2 e he hb
        rwa [hon] at h3
  cases hf : fs.contains i0 with
  | false => have := key _ i0 rfl h0 hf; rw [getD_both hu] at this; cases this
  | true =>
    have h1 := List.all_eq_true.1 hd i0 (by simpa using hf)
    simp only [Bool.and_eq_true] at h1
    have hi0 : i0 < ops.size := by omega
    have ho : ops[i0]? = some ops[i0] := Array.getElem?_eq_getElem hi0
    refine hno i0 hf (mem_ready.2 ⟨hu, ops[i0], ho, fun e he hb => ?_⟩)
    have h2 := h1.2
    rw [ho] at h2
    have h3 := (Array.all_eq_true_iff_forall_mem.1 h2) e he
    rw [hb] at h3
    simp only [Bool.not_true, Bool.false_or, Bool.and_eq_true] at h3
    exact key _ e.on rfl (Nat.lt_trans (Nat.le_of_ble_eq_true h3.1) h0) (by simpa [notF] using h3.2)
theorem wpAny_factsH {l : List Oper} {m : Nat} {Gs : List FF} {ps : List (Nat × Value)} {Q : Exit → Act → World → Prop} (hB : regHB N L0 l m (ps.map (·.1)) = true) (hm : FMono Gs) (_ : Gs.length = m) (hQ : ∀ c a w d v, Q (.panic c) (a.put d v) w → Q (.panic c) a w)
    (hob : FObs P l.toArray w0 N L0 Gs 0 (l.take m) Gs) (hy : FYs P l.toArray w0 N L0 Gs ps)
    (ht : ∀ a w, Ext w0 w → Fr N L0 a → (∀ i o d, i < m → l[i]? = some o → o.dst = some d → gAt Gs i (a.tmps.getD d undef) w) → wpList P l.toArray Q (l.drop m) a w) :
    ∀ (f : Nat) (listed : Array Bool) (a : Act) (w : World), HeadInv .any l.toArray m listed → cnt listed m = f → FInv l.toArray w0 N L0 Gs m listed a w → wpAny P .any l.toArray Q (f + (l.length - m)) listed a w := by
  simp only [regHB, Bool.and_eq_true] at hB
  obtain ⟨⟨⟨⟨⟨⟨⟨⟨⟨hdst, hback⟩, hlt⟩, hsink⟩, hchain⟩, hdep⟩, hfree⟩, hsel⟩, hseq⟩, hnm⟩ := hB
  have hlt : m < l.length := Nat.le_of_ble_eq_true hlt
  have hops : ∀ i : Nat, l.toArray[i]? = l[i]? := fun i => by simp
  have htake : ∀ i : Nat, i < m → (l.take m)[i]? = l[i]? := fun i hi => List.getElem?_take_of_lt hi
  have hdeps : ∀ {i : Nat} {o : Oper} {listed : Array Bool} {a : Act} {w : World}, i < m → l.toArray[i]? = some o → (∀ e ∈ o.after, Region.binds .any e = true → listed.getD e.on false = true) → FInv l.toArray w0 N L0 Gs m listed a w →
      ∀ j d, Region.waitsFor .any l.toArray i j = true → dstAt l.toArray j = some d → gAt Gs j (a.tmps.getD d undef) w := by
    intro i o listed a w him ho hall hI j d hwf hdj
    obtain ⟨oj, hoj, hdj⟩ := dstAt_spec hdj
    obtain ⟨o', ho', e, he, hb, hon⟩ := Region.waitsFor_spec hwf
    have : o' = o := Option.some.inj (ho'.symm.trans ho)
    subst this
    have hl := hall e he hb
    rw [hon] at hl
    have h1 := List.all_eq_true.1 hback i (List.mem_range.2 him)
    rw [ho] at h1
    have h2 := (Array.all_eq_true_iff_forall_mem.1 h1) e he
    rw [hb] at h2
    have h2 := Nat.le_of_ble_eq_true h2
    exact hI.facts j oj d (by omega) hl hoj hdj
  have hstep : ∀ {i : Nat} {o : Oper} {listed : Array Bool} {a : Act} {w w' : World} {v : Value}, i < m → l.toArray[i]? = some o → FInv l.toArray w0 N L0 Gs m listed a w → Ext w w' → (∀ d, o.dst = some d → gAt Gs i ((a.put o.dst v).tmps.getD d undef) w') →
      FInv l.toArray w0 N L0 Gs m (listed.setIfInBounds i true) (a.put o.dst v) w' := by
    intro i o listed a w w' v him ho hI hx hg
    have hio : l[i]? = some o := by rw [← hops]; exact ho
    refine ⟨hI.ext.tr hx, ?_, ?_⟩
    · cases hd : o.dst with
      | none => exact hI.fr
      | some d => exact Fr.put_other (dstsB_get hdst i o d (by rw [htake i him]; exact hio) hd).2.1 hI.fr
    · intro j oj d hjm hl hoj hdj
      by_cases hij : i = j
      · subst hij
        have : oj = o := Option.some.inj (hoj.symm.trans ho)
        subst this
        exact hg d hdj
      · rw [getD_set_ne false hij] at hl
        have h1 := hm.at j (hI.facts j oj d hjm hl hoj hdj) hx
        cases hd : o.dst with
        | none => exact h1
        | some d' =>
          have hne : d ≠ d' := fun e => by
            subst e
            exact hij (dstsB_ne hdst (by rw [htake i him]; exact hio) (by rw [htake j hjm, ← hops]; exact hoj) hd hdj)
          simp only [Act.put]
          rw [getD_put_ne _ _ _ _ _ hne]; exact h1
  intro f
  induction f with
  | zero =>
    intro listed a w inv hc hI
    have hall := cnt_zero hc
    have hL : listed = headListed l.length m := by
      apply Array.ext
      · rw [inv.size]; simp [headListed]
      · intro i h1 h2
        have hi : i < l.length := by rw [inv.size] at h1; simpa using h1
        simp only [headListed, List.getElem_map, List.getElem_toArray, List.getElem_range]
        by_cases him : i < m
        · have h3 := hall i him
          rw [Array.getD_eq_getD_getElem?, Array.getElem?_eq_getElem h1] at h3
          have h4 : Nat.blt i m = true := Nat.ble_eq_true_of_le him
          rw [h4]; simpa using h3
        · have h3 := inv.tail i (by omega) (by simpa using hi)
          rw [Array.getD_eq_getD_getElem?, Array.getElem?_eq_getElem h1] at h3
          have h4 : Nat.blt i m = false := by
            cases e : Nat.blt i m with
            | false => rfl
            | true => have := Nat.le_of_ble_eq_true e; omega
          rw [h4]; simpa using h3
    rw [Nat.zero_add]
    have h5 := wpAny_of_seq (P := P) (md := .any) (ops := l.toArray) (Q' := Q) (l.drop m) m listed a w (fun j => by simp [List.getElem?_drop]) (by rw [List.length_drop, hL]; exact hseq)
      (ht a w hI.ext hI.fr fun i o d hi ho hd => hI.facts i o d hi (hall i hi) (by rw [hops]; exact ho) hd)
    rwa [List.length_drop] at h5
  | succ f ih =>
    intro listed a w inv hc hI
    rw [show f + 1 + (l.length - m) = (f + (l.length - m)) + 1 by omega]
    obtain ⟨i0, hi0, hu0, hmin⟩ := cnt_pos (listed := listed) (m := m) (by omega)
    by_cases hfl : ∃ p, (ps.map (·.1)).contains p = true ∧ p ∈ Region.ready .any l.toArray listed
    · obtain ⟨p, hp1, hp2⟩ := hfl
      obtain ⟨hun, o, ho, hall⟩ := mem_ready.1 hp2
      have hpm : p < m := by
        have h1 := List.all_eq_true.1 hdep p (by simpa using hp1)
        simp only [Bool.and_eq_true] at h1
        exact Nat.le_of_ble_eq_true h1.1
      obtain ⟨v, hv1, hv2⟩ := hy.get p hp1
      have hyv := hv1 a w hI.ext hI.fr (hdeps hpm ho hall hI) o ho
      have hsz : p < listed.size := by rw [inv.size]; simp; omega
      refine wpAny_first ho (Region.noSelect_spec hsel) (fun c a' w' h => hQ c a' w' _ _ h) _ listed a w (fun j oj hoj hji hunj hno => ?_) hp2 hyv ?_
      · have h1 := List.all_eq_true.1 hfree p (by simpa using hp1)
        rw [ho] at h1
        have h2 := List.all_eq_true.1 h1 j (List.mem_range.2 (Array.getElem?_eq_some_iff.1 hoj).1)
        rw [hoj] at h2
        simp only [Bool.or_eq_true] at h2
        rcases h2 with ((h2 | h2) | h3) | h2
        · exact absurd (Nat.eq_of_beq_eq_true h2) hji
        · obtain ⟨o', ho', e, he, hb, hon⟩ := Region.waitsFor_spec h2
          have : o' = oj := Option.some.inj (ho'.symm.trans hoj)
          subst this
          exact absurd hon (hno e he hb)
        · obtain ⟨o', ho', e, he, hb, hon⟩ := Region.waitsFor_spec h3
          have : o' = o := Option.some.inj (ho'.symm.trans ho)
          subst this
          have h4 := hall e he hb
          rw [hon, getD_both hunj] at h4
          cases h4
        · exact h2
      · refine ih _ _ _ (inv.set hp2 hpm) (by have := cnt_set hsz (getD_both hun) hpm; omega) (hstep hpm ho hI (Ext.rfl' w) fun d hd => ?_)
        rw [hd]
        have hdN := (dstsB_get hdst p o d (by rw [htake p hpm, ← hops]; exact ho) hd).1
        simp only [Act.put]
        rw [getD_put_same _ _ _ _ (by rw [hI.fr.base.1]; exact hdN)]
        exact hv2 w
    · have hno : ∀ p, (ps.map (·.1)).contains p = true → p ∉ Region.ready .any l.toArray listed := fun p h1 h2 => hfl ⟨p, h1, h2⟩
      have hrdy : i0 ∈ Region.ready .any l.toArray listed := by
        have hlt0 : i0 < l.length := by omega
        have ho : l.toArray[i0]? = some l[i0] := by rw [hops]; exact List.getElem?_eq_getElem hlt0
        refine mem_ready.2 ⟨getD_in (by rw [inv.size]; simpa using hlt0) hu0, l[i0], ho, fun e he hb => ?_⟩
        have h1 := List.all_eq_true.1 hback i0 (List.mem_range.2 hi0)
        rw [ho] at h1
        have h2 := (Array.all_eq_true_iff_forall_mem.1 h1) e he
        rw [hb] at h2
        exact hmin _ (Nat.le_of_ble_eq_true h2)
      refine ⟨fun h => (by rw [h] at hrdy; cases hrdy), fun i hi => ?_⟩
      obtain ⟨hun, o, ho, hall⟩ := mem_ready.1 hi
      have hio : l[i]? = some o := by rw [← hops]; exact ho
      have hil : i < l.length := (List.getElem?_eq_some_iff.1 hio).1
      have him : i < m := by
        rcases Nat.lt_or_ge i m with h | h
        · exact h
        · exact absurd hi (headF hsink hchain hdep (by simpa using hlt) hnm inv hno hi0 (getD_in (by rw [inv.size]; simp; omega) hu0) i h)
      obtain ⟨G, hG, hOb⟩ := hob.get i o (by rw [htake i him]; exact hio)
      rw [Nat.zero_add] at hOb
      have hGi : gAt Gs i = G := by unfold gAt; rw [List.getD_eq_getElem?_getD, hG]; rfl
      have hw := hOb a w hI.ext hI.fr (hdeps him ho hall hI)
      have hsz : i < listed.size := by rw [inv.size]; simpa using hil
      have key : ∀ v w', Fq G o w .normal (a.put o.dst v) w' → wpAny P .any l.toArray Q (f + (l.length - m)) (listed.setIfInBounds i true) (a.put o.dst v) w' := by
        rintro v w' ⟨_, hx, _, hg⟩
        exact ih _ _ _ (inv.set hi him) (by have := cnt_set hsz (getD_both hun) him; omega) (hstep him ho hI hx fun d hd => by rw [hGi]; exact hg d hd)
      unfold wpOp
      simp only [ho]
      exact wpList_one (fun e a w h => ⟨h.1, h.2.2.1⟩) hw key
theorem regH {id : Nat} {l : List Oper} {a : Act} {Q : Exit → Act → World → Prop} (m : Nat) (ps : List (Nat × Value)) (Gs : List FF) (hmx : P.follows .mixedOrders = true) (hQ : ∀ c a w d v, Q (.panic c) (a.put d v) w → Q (.panic c) a w) (hf : Fr N L0 a) (hB : regHB N L0 l m (ps.map (·.1)) = true) (hGs : Gs.length = m) (hm : FMono Gs)
    (hob : FObs P l.toArray w0 N L0 Gs 0 (l.take m) Gs) (hy : FYs P l.toArray w0 N L0 Gs ps)
    (ht : ∀ a w, Ext w0 w → Fr N L0 a → (∀ i d, Nat.blt i m = true → dstAt l.toArray i = some d → gAt Gs i (a.tmps.getD d undef) w) → wpList P l.toArray Q (l.drop m) a w) : (Code.region id l.toArray true).wp P Q a w0 := by
  refine wp_region_any hmx ?_
  have hle : m < l.length := by
    simp only [regHB, Bool.and_eq_true] at hB
    exact Nat.le_of_ble_eq_true hB.1.1.1.1.1.1.1.2
  have h := wpAny_factsH (Q := Q) hB hm hGs hQ hob hy (fun a w hx hf hd => ht a w hx hf fun i d hi hdi => by
    obtain ⟨o, ho, hdo⟩ := dstAt_spec hdi
    exact hd i o d (Nat.le_of_ble_eq_true hi) (by simpa using ho) hdo) m (Array.replicate l.toArray.size false) a { w0 with drawn := w0.drawn + 1 }
    ⟨by simp, fun j oj _ hl => (by rw [getD_replicate_false] at hl; cases hl), fun t _ ht => getD_in (by simpa using ht) (getD_replicate_false _ _)⟩
    (cnt_none fun i _ => getD_replicate_false _ _) ⟨⟨rfl, rfl, rfl, Nat.le_refl _, fun _ _ => rfl⟩, hf, fun i o d _ hl => (by rw [getD_replicate_false] at hl; cases hl)⟩
  rw [show m + (l.length - m) = l.length by omega] at h
  simpa using h
end reg
end Dm
