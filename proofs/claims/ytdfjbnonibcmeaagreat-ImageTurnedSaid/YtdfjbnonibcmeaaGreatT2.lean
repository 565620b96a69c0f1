/-
  What the proof of ImageTurned leans on, part 2: rules for the walks, plain facts. Conditions stand in each statement.
-/
import Derived.Test.YtdfjbnonibcmeaaGreatT1
namespace Dm
open Go Go.RowKit
abbrev Cap := Nat × Bool × TC
inductive PK where
 | v (ag : Bool) (c : TC)
 | p (q : Cap)
 | fn (f : Nat) (cs : List Cap)
 | pf (t0 : Nat) (q : Cap)
@[reducible] def capsD : List Cap -> Type
 | [] => Unit
 | q :: l => q.2.2.den × capsD l
@[reducible] def PK.den : PK -> Type
 | .v _ c => c.den
 | .p q => q.2.2.den
 | .fn _ cs => capsD cs
 | .pf _ q => q.2.2.den
@[reducible] def denP : List PK -> Type
 | [] => Unit
 | p :: l => p.den × denP l
def capN (q : Cap) : Nat := q.2.2.cnt + 1
def capT (q : Cap) (x : q.2.2.den) (n : Nat) : STs := (n, match q.2.1 with
 | true => .box q.1 (valsC q.2.2 x (n + 1))
 | false => .cel (valsC q.2.2 x (n + 1))) :: thsC q.2.2 x (n + 1)
def capsN : List Cap -> Nat
 | [] => 0
 | q :: l => capN q + capsN l
def capsT : (l : List Cap) -> capsD l -> Nat -> STs
 | [], _, _ => []
 | q :: l, x, n => capT q x.1 n ++ capsT l x.2 (n + capN q)
def capsV : List Cap -> Nat -> List Value
 | [], _ => []
 | q :: l, n => .pointer (some ⟨n, 0, none⟩) :: capsV l (n + capN q)
def PK.cnt : PK -> Nat
 | .v _ c => c.cnt
 | .p q => capN q
 | .fn _ cs => capsN cs
 | .pf _ q => capN q + 1
def pV : (p : PK) -> p.den -> Nat -> Value
 | .v ag c, x, n => mkV ag (valsC c x n)
 | .p _, _, n => .pointer (some ⟨n, 0, none⟩)
 | .fn f cs, _, n => .func (.func f) #[] ⟨capsV cs n⟩
 | .pf _ _, _, n => .pointer (some ⟨n, 0, none⟩)
def pT : (p : PK) -> p.den -> Nat -> STs
 | .v _ c, x, n => thsC c x n
 | .p q, x, n => capT q x n
 | .fn _ cs, x, n => capsT cs x n
 | .pf _ q, x, n => (n, .cel [.pointer (some ⟨n + 1, 0, none⟩)]) :: capT q x (n + 1)
def psN : List PK -> Nat
 | [] => 0
 | p :: l => p.cnt + psN l
def psV : (l : List PK) -> denP l -> Nat -> List Value
 | [], _, _ => []
 | p :: l, x, n => pV p x.1 n :: psV l x.2 (n + p.cnt)
def psT : (l : List PK) -> denP l -> Nat -> STs
 | [], _, _ => []
 | p :: l, x, n => pT p x.1 n ++ psT l x.2 (n + p.cnt)
def capJ (lend : Bool) (q : Cap) (v : Value) (st : St) : Option (q.2.2.den × List Nat × STs × St) := match v with
 | .pointer (some ⟨h, off, none⟩) => (match Nat.beq off 0 with
  | true => (match q.2.1 with
   | true => (match st.tk h with
    | some (.box t cs, st1) => (match Nat.beq t q.1 with
     | true => (match pkM lend q.2.2 cs st1 with
      | some (x, ms, ls, [], st2) => some (x, h :: ms, ls, st2)
      | _ => none)
     | false => none)
    | _ => none)
   | false => (match asc st.T h with
    | some (.box t cs) => (match lend with
     | true => (match pkM true q.2.2 cs st with
      | some (x, ms, ls, [], st2) => some (x, h :: ms, (h, .box t cs) :: ls, st2)
      | _ => none)
     | false => none)
    | some (.cel cs) => (match lend with
     | true => (match pkM true q.2.2 cs st with
      | some (x, ms, ls, [], st2) => some (x, h :: ms, (h, .cel cs) :: ls, st2)
      | _ => none)
     | false => (match pkM false q.2.2 cs st with
      | some (x, ms, ls, [], st2) => some (x, h :: ms, ls, st2)
      | _ => none))
    | _ => none))
  | false => none)
 | _ => none
def capsJ (lend : Bool) : (l : List Cap) -> List Value -> St -> Option (capsD l × List Nat × STs × St)
 | [], vs, st => (match vs with
  | [] => some ((), [], [], st)
  | _ => none)
 | q :: l, vs, st => (match vs with
  | v :: vs => (match capJ lend q v st with
   | some (x, ms, ls, st1) => (match capsJ lend l vs st1 with
    | some (y, ms', ls', st2) => some ((x, y), ms ++ ms', ls ++ ls', st2)
    | none => none)
   | none => none)
  | _ => none)
def pJ (lend : Bool) : (p : PK) -> Value -> St -> Option (p.den × List Nat × STs × St)
 | .v ag c, v, st => (match unV ag v with
  | some vs => (match pkM lend c vs st with
   | some (x, ms, ls, [], st1) => some (x, ms, ls, st1)
   | _ => none)
  | none => none)
 | .p q, v, st => capJ lend q v st
 | .fn f cs, v, st => (match v with
  | .func (.func f') fst cap => (match Nat.beq f' f with
   | true => (match fst.toList with
    | [] => capsJ lend cs cap.toList st
    | _ => none)
   | false => none)
  | _ => none)
 | .pf t0 q, v, st => (match v with
  | .pointer (some ⟨h, off, none⟩) => (match Nat.beq off 0 with
   | true => (match asc st.T h with
    | some (.box t cs) => (match lend with
     | true => (match cs with
      | [u] => (match Nat.beq t t0 with
       | true => (match capJ true q u st with
        | some (x, ms, ls, st2) => some (x, h :: ms, (h, .box t cs) :: ls, st2)
        | _ => none)
       | false => none)
      | _ => none)
     | false => none)
    | some (.cel cs) => (match cs with
     | [u] => (match lend with
      | true => (match capJ true q u st with
       | some (x, ms, ls, st2) => some (x, h :: ms, (h, .cel cs) :: ls, st2)
       | _ => none)
      | false => (match capJ false q u st with
       | some (x, ms, ls, st2) => some (x, h :: ms, ls, st2)
       | _ => none))
     | _ => none)
    | _ => none)
   | false => none)
  | _ => none)
def psJ (lend : Bool) : (l : List PK) -> List Value -> St -> Option (denP l × List Nat × STs × St)
 | [], vs, st => (match vs with
  | [] => some ((), [], [], st)
  | _ => none)
 | p :: l, vs, st => (match vs with
  | v :: vs => (match pJ lend p v st with
   | some (x, ms, ls, st1) => (match psJ lend l vs st1 with
    | some (y, ms', ls', st2) => some ((x, y), ms ++ ms', ls ++ ls', st2)
    | none => none)
   | none => none)
  | _ => none)
section
variable {X : Cx} {a : Act} {w : World}
theorem BRel.addCel {g : Gh} {F : SH} {st : St} {Bs : List Th} (H : BRel X g F st Bs a w) {b o : Nat} {cs : List Value} (h : CellsAt F ⟨b, o, none⟩ cs) : BRel X g F st (Bs ++ [.cel b o cs]) a w :=
 ⟨H.new, H.fr, H.tg, let ⟨Us, hs, hR⟩ := H.sp; ⟨Us, (hs.addCel h).perm (by
  rw [<- List.append_assoc]
  exact (List.perm_append_singleton _ _).symm), hR⟩, H.tt, H.al⟩
theorem BRel.get {g : Gh} {F : SH} {st : St} {Bs : List Th} (H : BRel X g F st Bs a w) {h : Nat} {T : STh} (e : asc st.T h = some T) : ∃ U, TR g.E h T U /\ ∃ Us, Sep X.w0 X.F0 X.R w F (Us ++ Bs) /\ TsR g.E st.T Us /\ ∃ i : Nat, Us[i]? = some U := by
 obtain ⟨Us, hs, hR⟩ := H.sp
 obtain ⟨i, U, h1, h2⟩ := hR.get e
 exact ⟨U, h2, Us, hs, hR, i, h1⟩
def InR (g' : Gh) (ms : List Nat) (cnt : Nat) (ls : STs) (Bn : List Th) (V : Env -> Nat -> Prop) (T : Nat -> STs) : Prop :=
 ∃ Tn Pn, ms.length = cnt /\ (∀ m ∈ ms, ∃ y, g'.E m = some y) /\ Hand g' ls Bn Tn Pn /\ ∀ (E2 : Env) (n : Nat), Names E2 g'.E n ms -> V E2 n /\ TsR E2 (T n) Pn
theorem InR.mono {g g' : Gh} (hg : g.le g') {ms : List Nat} {cnt : Nat} {ls : STs} {Bn : List Th} {V : Env -> Nat -> Prop} {T : Nat -> STs} (h : InR g ms cnt ls Bn V T) : InR g' ms cnt ls Bn V T :=
 let ⟨Tn, Pn, h1, h0, h2, h3⟩ := h; ⟨Tn, Pn, h1, fun m hm => let ⟨y, hy⟩ := h0 m hm; ⟨y, hg.E _ _ hy⟩, h2.mono hg, fun E2 n hN => h3 E2 n (hN.mono hg.E)⟩
theorem InR.app {g : Gh} {m1 m2 : List Nat} {c1 c2 : Nat} {l1 l2 : STs} {B1 B2 : List Th} {V1 V2 : Env -> Nat -> Prop} {T1 T2 : Nat -> STs} (h : InR g m1 c1 l1 B1 V1 T1) (k : InR g m2 c2 l2 B2 V2 T2) :
    InR g (m1 ++ m2) (c1 + c2) (l1 ++ l2) (B1 ++ B2) (fun E2 n => V1 E2 n /\ V2 E2 (n + c1)) (fun n => T1 n ++ T2 (n + c1)) := by
 obtain ⟨Tn1, P1, a1, a0, a2, a3⟩ := h
 obtain ⟨Tn2, P2, b1, b0, b2, b3⟩ := k
 refine ⟨_, _, by rw [List.length_append, a1, b1], fun m hm => (List.mem_append.1 hm).elim (a0 m) (b0 m), a2.app b2, fun E2 n hN => ?_⟩
 obtain ⟨v1, t1⟩ := a3 E2 n hN.left
 obtain ⟨v2, t2⟩ := b3 E2 (n + c1) (by rw [<- a1]; exact hN.right)
 exact ⟨⟨v1, v2⟩, t1.app t2⟩
theorem d0_ptr0 {E : Env} {b n q c : Nat} (h : E n = some ⟨some ⟨b, 0, none⟩, q, c⟩) : d0 E (.pointer (some ⟨n, 0, none⟩)) = some (.pointer (some ⟨b, 0, none⟩)) := by simp only [d0, h]
theorem memC {E : Env} {h : Nat} {y : HV} {ms : List Nat} (hh : E h = some y) (k : ∀ m ∈ ms, ∃ y, E m = some y) : ∀ m ∈ h :: ms, ∃ y, E m = some y := fun m hm => by
 rw [List.mem_cons] at hm
 rcases hm with rfl | hm
 · exact ⟨y, hh⟩
 · exact k m hm
theorem LN.ofTk {lend : Bool} {F : SH} {st st1 : St} {h : Nat} {T : STh} (hk : st.tk h = some (T, st1)) : LN lend F F st st1 [] := by
 cases lend
 · rfl
 · exact ⟨rfl, (St.tk_less hk).1, fun p hp => by simp at hp⟩
theorem LN.cons {F F' : SH} {st st1 : St} {h : Nat} {T : STh} {ls : STs} (hT : asc st.T h = some T) (k : LN true F F' st st1 ls) : LN true F F' st st1 ((h, T) :: ls) :=
 ⟨k.1, k.2.1, fun p hp => by
  rw [List.mem_cons] at hp
  rcases hp with rfl | hp
  · exact hT
  · exact k.2.2 p hp⟩
theorem capJ_ok {lend : Bool} {q : Cap} {v u : Value} {st st' : St} {x : q.2.2.den} {ms : List Nat} {ls : STs} {g : Gh} {F : SH} {Bs : List Th} (H : BRel X g F st Bs a w) (h : capJ lend q v st = some (x, ms, ls, st')) (hv : d0 g.E v = some u) :
    ∃ g' F' Bn, g.le g' /\ LeH F F' /\ BRel X g' F' st' (Bs ++ Bn) a w /\ LN lend F F' st st' ls /\ InR g' ms (capN q) ls Bn (fun E2 n => d0 E2 (.pointer (some ⟨n, 0, none⟩)) = some u) (capT q x) := by
 obtain ⟨t0, own, c⟩ := q
 unfold capJ at h
 split at h
 · rename_i hh off
   obtain ⟨qa, qn, qc, hE, rfl⟩ := dV_ptr (dV_ofF (dF_of0 hv))
   split at h
   · rename_i hoff
     have hoff := Nat.eq_of_beq_eq_true hoff
     subst hoff
     -- under a new name
     have hnew : ∀ {g' : Gh} (_ : g.le g') {E2 : Env} {n : Nat} {ms' : List Nat}, Names E2 g'.E n (hh :: ms') -> E2 n = some ⟨some qa, qn, qc⟩ /\ Names E2 g'.E (n + 1) ms' := by
      intro g' hg E2 n ms' hN
      exact ⟨hN 0 hh _ rfl (hg.E _ _ hE), Names.right (a := [hh]) hN⟩
     split at h
     · rename_i how
       dsimp only at how
       subst how
       split at h
       · rename_i t cs st1 hk
         split at h
         · rename_i ht
           have ht := Nat.eq_of_beq_eq_true ht
           dsimp only at ht
           subst ht
           split at h
           · rename_i y m l st2 hp
             cases h
             obtain ⟨U, ⟨b, n1, c1, ds, e1, e2, rfl⟩, H1⟩ := H.tk hk
             rw [hE] at e1
             cases e1
             obtain ⟨g', F', d1, d2, Bn, Tn, Pn, hg, hF, H', rfl, h5, h6, h7, h10, h8, h9⟩ := pkM_ok H1 hp e2
             cases h5
             rw [List.append_nil] at H'
             refine ⟨g', F', .box b t d1 :: Bn, hg, hF, by simpa using H', (LN.ofTk hk).app h7, Tn, .box b t d1 :: Pn, by rw [List.length_cons, h6]; rfl, memC (hg.E _ _ hE) h10, ⟨h8.1, ?_⟩, fun E2 n hN => ?_⟩
             · exact (List.Perm.cons _ h8.2).trans List.perm_middle.symm
             · obtain ⟨k1, k2⟩ := hnew hg hN
               obtain ⟨k3, k4⟩ := h9 E2 (n + 1) k2
               exact ⟨d0_ptr0 k1, ⟨_, Pn, rfl, ⟨b, qn, qc, d1, k1, k3, rfl⟩, k4⟩⟩
           · cases h
         · cases h
       · cases h
     · rename_i how
       dsimp only at how
       subst how
       split at h
       · rename_i t cs hT
         split at h
         · split at h
           · rename_i y m l st2 hp
             cases h
             obtain ⟨U, ⟨b, n1, c1, ds, e1, e2, rfl⟩, Us, hs, hR, i, hi⟩ := H.get hT
             rw [hE] at e1
             cases e1
             obtain ⟨g', F', d1, d2, Bn, Tn, Pn, hg, hF, H', rfl, h5, h6, h7, h10, h8, h9⟩ := pkM_ok H hp e2
             cases h5
             rw [List.append_nil] at e2
             refine ⟨g', F', Bn, hg, hF, H', LN.cons hT h7, .box b t d1 :: Tn, .cel b 0 d1 :: Pn, by rw [List.length_cons, h6]; rfl, memC (hg.E _ _ hE) h10, ⟨⟨_, Tn, rfl, ⟨b, qn, qc, d1, hg.E _ _ hE, mapO_mono (fun _ _ => dF_mono hg.E) e2, rfl⟩, h8.1⟩, ?_⟩, fun E2 n hN => ?_⟩
             · exact List.Perm.cons _ h8.2
             · obtain ⟨k1, k2⟩ := hnew hg hN
               obtain ⟨k3, k4⟩ := h9 E2 (n + 1) k2
               exact ⟨d0_ptr0 k1, ⟨_, Pn, rfl, ⟨b, 0, qn, qc, d1, k1, k3, rfl⟩, k4⟩⟩
           · cases h
         · cases h
       · rename_i cs hT
         obtain ⟨U, ⟨b, o, n1, c1, ds, e1, e2, rfl⟩, Us, hs, hR, i, hi⟩ := H.get hT
         rw [hE] at e1
         cases e1
         split at h
         · split at h
           · rename_i y m l st2 hp
             cases h
             obtain ⟨g', F', d1, d2, Bn, Tn, Pn, hg, hF, H', rfl, h5, h6, h7, h10, h8, h9⟩ := pkM_ok H hp e2
             cases h5
             rw [List.append_nil] at e2
             refine ⟨g', F', Bn, hg, hF, H', LN.cons hT h7, .cel b o d1 :: Tn, .cel b o d1 :: Pn, by rw [List.length_cons, h6]; rfl, memC (hg.E _ _ hE) h10, ⟨⟨_, Tn, rfl, ⟨b, o, qn, qc, d1, hg.E _ _ hE, mapO_mono (fun _ _ => dF_mono hg.E) e2, rfl⟩, h8.1⟩, ?_⟩, fun E2 n hN => ?_⟩
             · exact List.Perm.cons _ h8.2
             · obtain ⟨k1, k2⟩ := hnew hg hN
               obtain ⟨k3, k4⟩ := h9 E2 (n + 1) k2
               refine ⟨?_, ⟨_, Pn, rfl, ⟨b, o, qn, qc, d1, k1, k3, rfl⟩, k4⟩⟩
               simp only [d0, k1]
           · cases h
         · split at h
           · rename_i y m l st2 hp
             cases h
             have hcel := hs.ok i _ (by rw [List.getElem?_append_left (get_lt hi)]; exact hi)
             have H0 := H.addCel (b := b) (o := o) (cs := ds) hcel
             obtain ⟨g', F', d1, d2, Bn, Tn, Pn, hg, hF, H', rfl, h5, h6, h7, h10, h8, h9⟩ := pkM_ok H0 hp e2
             cases h5
             rw [List.append_nil] at H'
             refine ⟨g', F', .cel b o d1 :: Bn, hg, hF, by simpa using H', h7, Tn, .cel b o d1 :: Pn, by rw [List.length_cons, h6]; rfl, memC (hg.E _ _ hE) h10, ⟨h8.1, ?_⟩, fun E2 n hN => ?_⟩
             · exact (List.Perm.cons _ h8.2).trans List.perm_middle.symm
             · obtain ⟨k1, k2⟩ := hnew hg hN
               obtain ⟨k3, k4⟩ := h9 E2 (n + 1) k2
               refine ⟨?_, ⟨_, Pn, rfl, ⟨b, o, qn, qc, d1, k1, k3, rfl⟩, k4⟩⟩
               simp only [d0, k1]
           · cases h
       · cases h
   · cases h
 · cases h
theorem capsJ_ok {lend : Bool} : ∀ {l : List Cap} {vs us : List Value} {st st' : St} {x : capsD l} {ms : List Nat} {ls : STs} {g : Gh} {F : SH} {Bs : List Th}, BRel X g F st Bs a w -> capsJ lend l vs st = some (x, ms, ls, st') -> mapO (d0 g.E) vs = some us ->
    ∃ g' F' Bn, g.le g' /\ LeH F F' /\ BRel X g' F' st' (Bs ++ Bn) a w /\ LN lend F F' st st' ls /\ InR g' ms (capsN l) ls Bn (fun E2 n => mapO (d0 E2) (capsV l n) = some us) (capsT l x)
 | [], vs, us, st, st', x, ms, ls, g, F, Bs, H, h, hv => by
  unfold capsJ at h
  split at h
  · cases h; cases hv
    exact ⟨g, F, [], Gh.le.rfl' _, LeH.refl _, by simpa using H, LN.refl, [], [], rfl, fun m hm => by simp at hm, Hand.nil g, fun E2 n _ => ⟨rfl, rfl⟩⟩
  · cases h
 | q :: l, vs, us, st, st', x, ms, ls, g, F, Bs, H, h, hv => by
  unfold capsJ at h
  split at h
  · rename_i v vs'
    obtain ⟨u, us', h1, h2, rfl⟩ := mapO_cons hv
    split at h
    · rename_i y m l1 st1 hj
      split at h
      · rename_i z m' l2 st2 hj2
        cases h
        obtain ⟨g1, F1, B1, hg1, hF1, H1, f1, r1⟩ := capJ_ok H hj h1
        obtain ⟨g2, F2, B2, hg2, hF2, H2, f2, r2⟩ := capsJ_ok H1 hj2 (mapO_mono (fun _ _ => d0_mono hg1.E) h2)
        refine ⟨g2, F2, B1 ++ B2, hg1.tr hg2, hF1.trans hF2, by rw [<- List.append_assoc]; exact H2, f1.app f2, ?_⟩
        obtain ⟨Tn, Pn, a1, a0, a2, a3⟩ := (r1.mono hg2).app r2
        exact ⟨Tn, Pn, a1, a0, a2, fun E2 n hN => ⟨mapO_mk (a3 E2 n hN).1.1 (a3 E2 n hN).1.2, (a3 E2 n hN).2⟩⟩
      · cases h
    · cases h
  · cases h
theorem pJ_ok {lend : Bool} {p : PK} {v u : Value} {st st' : St} {x : p.den} {ms : List Nat} {ls : STs} {g : Gh} {F : SH} {Bs : List Th} (H : BRel X g F st Bs a w) (h : pJ lend p v st = some (x, ms, ls, st')) (hv : dV g.E v = some u) :
    ∃ g' F' Bn, g.le g' /\ LeH F F' /\ BRel X g' F' st' (Bs ++ Bn) a w /\ LN lend F F' st st' ls /\ InR g' ms p.cnt ls Bn (fun E2 n => dV E2 (pV p x n) = some u) (pT p x) := by
 cases p with
 | v ag c =>
  unfold pJ at h
  dsimp only at h
  split at h
  · rename_i vs hvs
    split at h
    · rename_i y m l st1 hp
      cases h
      obtain ⟨ds, h3, h4⟩ := unV_ok hvs hv
      obtain ⟨g', F', d1, d2, Bn, Tn, Pn, hg, hF, H', rfl, h5, h6, h7, h10, h8, h9⟩ := pkM_ok H hp h3
      cases h5
      rw [List.append_nil] at h4
      exact ⟨g', F', Bn, hg, hF, H', h7, Tn, Pn, h6, h10, h8, fun E2 n hN => ⟨h4 (h9 E2 n hN).1, (h9 E2 n hN).2⟩⟩
    · cases h
  · cases h
 | p q =>
  unfold pJ at h
  dsimp only at h
  have hv0 : d0 g.E v = some u := by
   have : atomV v = true := by
    unfold capJ at h
    split at h
    · rfl
    · cases h
   rw [<- dV_atom this]; exact hv
  obtain ⟨g', F', Bn, hg, hF, H', f1, Tn, Pn, a1, a0, a2, a3⟩ := capJ_ok H h hv0
  exact ⟨g', F', Bn, hg, hF, H', f1, Tn, Pn, a1, a0, a2, fun E2 n hN => ⟨dV_ofF (dF_of0 (a3 E2 n hN).1), (a3 E2 n hN).2⟩⟩
 | fn f cs =>
  unfold pJ at h
  dsimp only at h
  split at h
  · rename_i f' fst cap
    split at h
    · rename_i hf
      have hf := Nat.eq_of_beq_eq_true hf
      subst hf
      split at h
      · rename_i hfst
        obtain ⟨fa, ca, rfl, h1, h2⟩ := dV_func hv
        obtain ⟨g', F', Bn, hg, hF, H', f1, Tn, Pn, a1, a0, a2, a3⟩ := capsJ_ok H h h2
        have hfa : fa = #[] := by
         rw [hfst] at h1
         cases hx : fa.toList with
         | nil => simpa using hx
         | cons y ys => rw [hx] at h1; cases h1
        subst hfa
        refine ⟨g', F', Bn, hg, hF, H', f1, Tn, Pn, a1, a0, a2, fun E2 n hN => ⟨?_, (a3 E2 n hN).2⟩⟩
        exact dV_func_mk rfl (by simpa using (a3 E2 n hN).1)
      · cases h
    · cases h
  · cases h
 | pf t0 q =>
  unfold pJ at h
  dsimp only at h
  split at h
  · rename_i hh off
    obtain ⟨qa, qn, qc, hE, rfl⟩ := dV_ptr hv
    split at h
    · rename_i hoff
      have hoff := Nat.eq_of_beq_eq_true hoff
      subst hoff
      have hnew : ∀ {g' : Gh} (_ : g.le g') {E2 : Env} {n : Nat} {ms' : List Nat}, Names E2 g'.E n (hh :: ms') -> E2 n = some ⟨some qa, qn, qc⟩ /\ Names E2 g'.E (n + 1) ms' := by
       intro g' hg E2 n ms' hN
       exact ⟨hN 0 hh _ rfl (hg.E _ _ hE), Names.right (a := [hh]) hN⟩
      have one : ∀ {E : Env} {uu : Value} {ds : List Value}, mapO (dF E) [uu] = some ds -> atomV uu = true -> ∃ y, ds = [y] /\ d0 E uu = some y := by
       intro E uu ds h ha
       obtain ⟨y, ys, h1, h2, rfl⟩ := mapO_cons h
       cases h2
       refine ⟨y, rfl, ?_⟩
       rw [<- dV_atom ha]; exact dV_ofF h1
      have hat : ∀ {l : Bool} {uu : Value} {r : _}, capJ l q uu st = some r -> atomV uu = true := by
       intro l uu r h
       unfold capJ at h
       split at h
       · rfl
       · cases h
      split at h
      · rename_i t cs hT
        obtain ⟨U, ⟨b, n1, c1, ds, e1, e2, rfl⟩, Us, hs, hR, i, hi⟩ := H.get hT
        rw [hE] at e1
        cases e1
        split at h
        · split at h
          · rename_i uu
            split at h
            · split at h
              · rename_i y m l st2 hp
                cases h
                obtain ⟨yv, rfl, e3⟩ := one e2 (hat hp)
                obtain ⟨g', F', Bn, hg, hF, H', f1, Tn, Pn, a1, a0, a2, a3⟩ := capJ_ok H hp e3
                refine ⟨g', F', Bn, hg, hF, H', LN.cons hT f1, .box b t [yv] :: Tn, .cel b 0 [yv] :: Pn, by rw [List.length_cons, a1]; rfl, memC (hg.E _ _ hE) a0, ⟨⟨_, Tn, rfl, ⟨b, qn, qc, [yv], hg.E _ _ hE, mapO_mono (fun _ _ => dF_mono hg.E) e2, rfl⟩, a2.1⟩, List.Perm.cons _ a2.2⟩, fun E2 n hN => ?_⟩
                obtain ⟨k1, k2⟩ := hnew hg hN
                obtain ⟨k3, k4⟩ := a3 E2 (n + 1) k2
                exact ⟨dV_ofF (dF_of0 (d0_ptr0 k1)), ⟨_, Pn, rfl, ⟨b, 0, qn, qc, [yv], k1, mapO_mk (dF_of0 k3) rfl, rfl⟩, k4⟩⟩
              · cases h
            · cases h
          · cases h
        · cases h
      · rename_i cs hT
        obtain ⟨U, ⟨b, o, n1, c1, ds, e1, e2, rfl⟩, Us, hs, hR, i, hi⟩ := H.get hT
        rw [hE] at e1
        cases e1
        split at h
        · rename_i uu
          split at h
          · split at h
            · rename_i y m l st2 hp
              cases h
              obtain ⟨yv, rfl, e3⟩ := one e2 (hat hp)
              obtain ⟨g', F', Bn, hg, hF, H', f1, Tn, Pn, a1, a0, a2, a3⟩ := capJ_ok H hp e3
              refine ⟨g', F', Bn, hg, hF, H', LN.cons hT f1, .cel b o [yv] :: Tn, .cel b o [yv] :: Pn, by rw [List.length_cons, a1]; rfl, memC (hg.E _ _ hE) a0, ⟨⟨_, Tn, rfl, ⟨b, o, qn, qc, [yv], hg.E _ _ hE, mapO_mono (fun _ _ => dF_mono hg.E) e2, rfl⟩, a2.1⟩, List.Perm.cons _ a2.2⟩, fun E2 n hN => ?_⟩
              obtain ⟨k1, k2⟩ := hnew hg hN
              obtain ⟨k3, k4⟩ := a3 E2 (n + 1) k2
              refine ⟨dV_ofF (dF_of0 ?_), ⟨_, Pn, rfl, ⟨b, o, qn, qc, [yv], k1, mapO_mk (dF_of0 k3) rfl, rfl⟩, k4⟩⟩
              show d0 E2 (.pointer (some ⟨n, 0, none⟩)) = _
              simp only [d0, k1]
            · cases h
          · split at h
            · rename_i y m l st2 hp
              cases h
              obtain ⟨yv, rfl, e3⟩ := one e2 (hat hp)
              have hcel := hs.ok i _ (by rw [List.getElem?_append_left (get_lt hi)]; exact hi)
              have H0 := H.addCel (b := b) (o := o) (cs := [yv]) hcel
              obtain ⟨g', F', Bn, hg, hF, H', f1, Tn, Pn, a1, a0, a2, a3⟩ := capJ_ok H0 hp e3
              refine ⟨g', F', .cel b o [yv] :: Bn, hg, hF, by simpa using H', f1, Tn, .cel b o [yv] :: Pn, by rw [List.length_cons, a1]; rfl, memC (hg.E _ _ hE) a0, ⟨a2.1, (List.Perm.cons _ a2.2).trans List.perm_middle.symm⟩, fun E2 n hN => ?_⟩
              obtain ⟨k1, k2⟩ := hnew hg hN
              obtain ⟨k3, k4⟩ := a3 E2 (n + 1) k2
              refine ⟨dV_ofF (dF_of0 ?_), ⟨_, Pn, rfl, ⟨b, o, qn, qc, [yv], k1, mapO_mk (dF_of0 k3) rfl, rfl⟩, k4⟩⟩
              show d0 E2 (.pointer (some ⟨n, 0, none⟩)) = _
              simp only [d0, k1]
            · cases h
        · cases h
      · cases h
    · cases h
  · cases h
theorem psJ_ok {lend : Bool} : ∀ {l : List PK} {vs us : List Value} {st st' : St} {x : denP l} {ms : List Nat} {ls : STs} {g : Gh} {F : SH} {Bs : List Th}, BRel X g F st Bs a w -> psJ lend l vs st = some (x, ms, ls, st') -> mapO (dV g.E) vs = some us ->
    ∃ g' F' Bn, g.le g' /\ LeH F F' /\ BRel X g' F' st' (Bs ++ Bn) a w /\ LN lend F F' st st' ls /\ InR g' ms (psN l) ls Bn (fun E2 n => mapO (dV E2) (psV l x n) = some us) (psT l x)
 | [], vs, us, st, st', x, ms, ls, g, F, Bs, H, h, hv => by
  unfold psJ at h
  split at h
  · cases h; cases hv
    exact ⟨g, F, [], Gh.le.rfl' _, LeH.refl _, by simpa using H, LN.refl, [], [], rfl, fun m hm => by simp at hm, Hand.nil g, fun E2 n _ => ⟨rfl, rfl⟩⟩
  · cases h
 | p :: l, vs, us, st, st', x, ms, ls, g, F, Bs, H, h, hv => by
  unfold psJ at h
  split at h
  · rename_i v vs'
    obtain ⟨u, us', h1, h2, rfl⟩ := mapO_cons hv
    split at h
    · rename_i y m l1 st1 hj
      split at h
      · rename_i z m' l2 st2 hj2
        cases h
        obtain ⟨g1, F1, B1, hg1, hF1, H1, f1, r1⟩ := pJ_ok H hj h1
        obtain ⟨g2, F2, B2, hg2, hF2, H2, f2, r2⟩ := psJ_ok H1 hj2 (mapO_mono (fun _ _ => dV_mono hg1.E) h2)
        refine ⟨g2, F2, B1 ++ B2, hg1.tr hg2, hF1.trans hF2, by rw [<- List.append_assoc]; exact H2, f1.app f2, ?_⟩
        obtain ⟨Tn, Pn, a1, a0, a2, a3⟩ := (r1.mono hg2).app r2
        exact ⟨Tn, Pn, a1, a0, a2, fun E2 n hN => ⟨mapO_mk (a3 E2 n hN).1.1 (a3 E2 n hN).1.2, (a3 E2 n hN).2⟩⟩
      · cases h
    · cases h
  · cases h
end
end Dm

namespace Dm
open Go Go.RowKit
inductive RK where
 | val (ag : Bool) (c : TC)
 | ob (k t : Nat) (c : TC)
@[reducible] def RK.den : RK -> Type
 | .val _ c => c.den
 | .ob _ _ c => c.den
def RK.cnt : RK -> Nat
 | .val _ c => c.cnt
 | .ob _ _ c => c.cnt
@[reducible] def denR : List RK -> Type
 | [] => Unit
 | i :: l => match l with
  | [] => i.den
  | _ :: _ => i.den × denR l
def rV1 : (i : RK) -> i.den -> Nat -> List Value
 | .val ag c, x, n => [mkV ag (valsC c x n)]
 | .ob _ _ _, _, _ => []
def rT1 (κ : Nat -> Nat) : (i : RK) -> i.den -> Nat -> STs
 | .val _ c, x, n => thsC c x n
 | .ob k t c, x, n => (κ k, .box t (valsC c x n)) :: thsC c x n
def rVs : (l : List RK) -> denR l -> Nat -> List Value
 | [], _, _ => []
 | i :: l, x, n => match l, x with
  | [], x => rV1 i x n
  | j :: r, x => rV1 i x.1 n ++ rVs (j :: r) x.2 (n + i.cnt)
def rTs (κ : Nat -> Nat) : (l : List RK) -> denR l -> Nat -> STs
 | [], _, _ => []
 | i :: l, x, n => match l, x with
  | [], x => rT1 κ i x n
  | j :: r, x => rT1 κ i x.1 n ++ rTs κ (j :: r) x.2 (n + i.cnt)
def rN : List RK -> Nat
 | [] => 0
 | i :: l => i.cnt + rN l
structure Ct where
 f : Nat
 ps : List PK
 rs : List RK
 S : denP ps -> Option (denR rs)
structure Holds (P : Program) (C : Ct) : Prop where
 ent : Ent P C.f
 ok : ∀ (s : denP C.ps) (r : denR C.rs), C.S s = some r -> ∀ (E : Env) (w : World) (F : SH) (Us : List Th) (vs : List Value), (∀ h, psN C.ps <= h -> E h = none) -> mapO (dV E) (psV C.ps s 0) = some vs -> TsR E (psT C.ps s 0) Us -> Sep w F (blks Us) w F Us ->
  Calls P C.f vs.toArray w (Gives fun u w' => ∃ E' F' Vs us, E.le E' /\ LeH F F' /\ mapO (dV E') (rVs C.rs r (psN C.ps)) = some us /\ u = packRes us /\ Sep w F (blks Us) w' F' Vs /\ TsR E' (rTs id C.rs r (psN C.ps)) Vs)
def Same (E E2 : Env) (n m k : Nat) : Prop := ∀ j, j < k -> E2 (m + j) = E (n + j)
theorem valsC_ren {E E2 : Env} : ∀ {c : TC} {x : c.den} {n m : Nat}, Same E E2 n m c.cnt -> mapO (dF E2) (valsC c x m) = mapO (dF E) (valsC c x n)
 | .i k, x, n, m, _ => rfl
 | .b, x, n, m, _ => rfl
 | .s, x, n, m, _ => rfl
 | .sl o c, x, n, m, h => by
  have h0 := h 0 (by show 0 < 1; omega)
  simp only [Nat.add_zero] at h0
  simp only [valsC, mapO, dF, d0, h0]
 | .pr c d, x, n, m, h => by
  have key : ∀ {E : Env} {n : Nat}, mapO (dF E) (valsC (.pr c d) x n) = (match mapO (dF E) (valsC c x.1 n) with
      | none => none
      | some a => match mapO (dF E) (valsC d x.2 (n + c.cnt)) with
       | none => none
       | some b => some (a ++ b)) := by
   intro E n
   have app : ∀ {A B : List Value}, mapO (dF E) (A ++ B) = (match mapO (dF E) A with
       | none => none
       | some a => match mapO (dF E) B with
        | none => none
        | some b => some (a ++ b)) := by
    intro A B
    induction A with
    | nil =>
     simp only [List.nil_append, mapO]
     cases mapO (dF E) B <;> rfl
    | cons y ys ih =>
     rw [List.cons_append, mapO, mapO, ih]
     cases dF E y with
     | none => rfl
     | some v =>
      dsimp only
      cases mapO (dF E) ys with
      | none => rfl
      | some a =>
       dsimp only
       cases mapO (dF E) B <;> rfl
   exact app
  rw [key, key, valsC_ren (c := c) (n := n) (m := m) fun j hj => h j (by show j < c.cnt + d.cnt; omega),
   valsC_ren (c := d) (n := n + c.cnt) (m := m + c.cnt) fun j hj => by
    rw [Nat.add_assoc, Nat.add_assoc]; exact h (c.cnt + j) (by show c.cnt + j < c.cnt + d.cnt; omega)]
theorem TsR.split {E : Env} : ∀ {A B : STs} {Us : List Th}, TsR E (A ++ B) Us -> ∃ U1 U2, Us = U1 ++ U2 /\ TsR E A U1 /\ TsR E B U2
 | [], B, Us, h => ⟨[], Us, rfl, rfl, h⟩
 | p :: A, B, _, ⟨U, Vs, rfl, h2, h3⟩ => by
  obtain ⟨U1, U2, rfl, k1, k2⟩ := TsR.split (A := A) h3
  exact ⟨U :: U1, U2, rfl, ⟨U, U1, rfl, h2, k1⟩, k2⟩
theorem thsC_ren {E E2 : Env} : ∀ {c : TC} {x : c.den} {n m : Nat} {Us : List Th}, Same E E2 n m c.cnt -> TsR E (thsC c x n) Us -> TsR E2 (thsC c x m) Us
 | .i k, x, n, m, Us, _, h => h
 | .b, x, n, m, Us, _, h => h
 | .s, x, n, m, Us, _, h => h
 | .sl o c, x, n, m, Us, h, hU => by
  have h0 := h 0 (by show 0 < 1; omega)
  simp only [Nat.add_zero] at h0
  cases o with
  | none =>
   obtain ⟨U, Vs, rfl, ⟨y, h1, rfl⟩, h2⟩ := hU
   cases h2
   exact ⟨_, [], rfl, ⟨y, h0.trans h1, rfl⟩, rfl⟩
  | some e =>
   obtain ⟨U, Vs, rfl, ⟨y, h1, rfl⟩, h2⟩ := hU
   cases h2
   exact ⟨_, [], rfl, ⟨y, h0.trans h1, rfl⟩, rfl⟩
 | .pr c d, x, n, m, Us, h, hU => by
  obtain ⟨U1, U2, rfl, h1, h2⟩ := TsR.split (A := thsC c x.1 n) hU
  exact (thsC_ren (fun j hj => h j (by show j < c.cnt + d.cnt; omega)) h1).app (thsC_ren (n := n + c.cnt) (m := m + c.cnt) (fun j hj => by
   rw [Nat.add_assoc, Nat.add_assoc]; exact h (c.cnt + j) (by show c.cnt + j < c.cnt + d.cnt; omega)) h2)
theorem valsC_cons : ∀ (c : TC) (x : c.den) (n : Nat), ∃ y r, valsC c x n = y :: r
 | .i k, x, n => ⟨_, _, rfl⟩
 | .b, x, n => ⟨_, _, rfl⟩
 | .s, x, n => ⟨_, _, rfl⟩
 | .sl o c, x, n => ⟨_, _, rfl⟩
 | .pr c d, x, n => by
  obtain ⟨y, r, h⟩ := valsC_cons c x.1 n
  exact ⟨y, r ++ valsC d x.2 (n + c.cnt), by rw [valsC, h]; rfl⟩
theorem mkV_ren {E E2 : Env} {ag : Bool} {c : TC} {x : c.den} {n m : Nat} {u : Value} (h : Same E E2 n m c.cnt) (hu : dV E (mkV ag (valsC c x n)) = some u) : dV E2 (mkV ag (valsC c x m)) = some u := by
 cases ag with
 | true =>
  unfold mkV at *
  dsimp only at *
  obtain ⟨ds, rfl, hd⟩ := dV_agg hu
  exact dV_agg_mk (by rw [show (⟨valsC c x m⟩ : Array Value).toList = valsC c x m from rfl, valsC_ren h]; exact hd)
 | false =>
  cases c with
  | i k => exact hu
  | b => exact hu
  | s => exact hu
  | sl o c =>
   have h0 := h 0 (by show 0 < 1; omega)
   simp only [Nat.add_zero] at h0
   simp only [mkV, valsC, dV, dA, dF, d0] at hu ⊢
   rw [h0]; exact hu
  | pr c d =>
   have key : ∀ k, mkV false (valsC (.pr c d) x k) = undef := fun k => by
    obtain ⟨y, r, h1⟩ := valsC_cons c x.1 k
    obtain ⟨z, q, h2⟩ := valsC_cons d x.2 (k + c.cnt)
    rw [valsC, h1, h2]
    cases r <;> rfl
   rw [key] at hu ⊢
   exact hu
theorem rV1_ren {E E2 : Env} {i : RK} {x : i.den} {n m : Nat} {us : List Value} (h : Same E E2 n m i.cnt) (hu : mapO (dV E) (rV1 i x n) = some us) : mapO (dV E2) (rV1 i x m) = some us := by
 cases i with
 | val ag c =>
  obtain ⟨y, ys, h1, h2, rfl⟩ := mapO_cons hu
  cases h2
  exact mapO_mk (mkV_ren h h1) rfl
 | ob k t c => exact hu
theorem rT1_ren {E E2 : Env} {κ κ' : Nat -> Nat} {i : RK} {x : i.den} {n m : Nat} {Us : List Th} (h : Same E E2 n m i.cnt) (hk : ∀ k t c y, i = .ob k t c -> E (κ k) = some y -> E2 (κ' k) = some y) (hU : TsR E (rT1 κ i x n) Us) : TsR E2 (rT1 κ' i x m) Us := by
 cases i with
 | val ag c => exact thsC_ren h hU
 | ob k t c =>
  obtain ⟨U, Vs, rfl, ⟨b, q, cc, ds, e1, e2, rfl⟩, h2⟩ := hU
  exact ⟨_, Vs, rfl, ⟨b, q, cc, ds, hk k t c _ rfl e1, by rw [valsC_ren h]; exact e2, rfl⟩, thsC_ren h h2⟩
theorem mapO_split {f : Value -> Option Value} : ∀ {A B us : List Value}, mapO f (A ++ B) = some us -> ∃ u1 u2, us = u1 ++ u2 /\ mapO f A = some u1 /\ mapO f B = some u2
 | [], B, us, h => ⟨[], us, rfl, rfl, h⟩
 | x :: A, B, us, h => by
  obtain ⟨y, ys, h1, h2, rfl⟩ := mapO_cons (by simpa using h)
  obtain ⟨u1, u2, rfl, k1, k2⟩ := mapO_split (A := A) h2
  exact ⟨y :: u1, u2, rfl, mapO_mk h1 k1, k2⟩
theorem rVs_ren {E E2 : Env} : ∀ {l : List RK} {x : denR l} {n m : Nat} {us : List Value}, Same E E2 n m (rN l) -> mapO (dV E) (rVs l x n) = some us -> mapO (dV E2) (rVs l x m) = some us
 | [], x, n, m, us, _, h => h
 | [i], x, n, m, us, hs, h => rV1_ren (i := i) (fun j hj => hs j (by show j < i.cnt + 0; omega)) h
 | i :: j :: r, x, n, m, us, hs, h => by
  obtain ⟨u1, u2, rfl, h1, h2⟩ := mapO_split (A := rV1 i x.1 n) h
  exact mapO_app (rV1_ren (fun k hk => hs k (by show k < i.cnt + rN (j :: r); omega)) h1) (rVs_ren (l := j :: r) (n := n + i.cnt) (m := m + i.cnt) (fun k hk => by
   rw [Nat.add_assoc, Nat.add_assoc]; exact hs (i.cnt + k) (by show i.cnt + k < i.cnt + rN (j :: r); omega)) h2)
theorem rTs_ren {E E2 : Env} {κ κ' : Nat -> Nat} : ∀ {l : List RK} {x : denR l} {n m : Nat} {Us : List Th}, Same E E2 n m (rN l) -> (∀ i ∈ l, ∀ k t c y, i = .ob k t c -> E (κ k) = some y -> E2 (κ' k) = some y) -> TsR E (rTs κ l x n) Us -> TsR E2 (rTs κ' l x m) Us
 | [], x, n, m, Us, _, _, h => h
 | [i], x, n, m, Us, hs, hk, h => rT1_ren (i := i) (fun j hj => hs j (by show j < i.cnt + 0; omega)) (hk i (by simp)) h
 | i :: j :: r, x, n, m, Us, hs, hk, h => by
  obtain ⟨U1, U2, rfl, h1, h2⟩ := TsR.split (A := rT1 κ i x.1 n) h
  exact (rT1_ren (fun k hk => hs k (by show k < i.cnt + rN (j :: r); omega)) (hk i (by simp)) h1).app (rTs_ren (l := j :: r) (n := n + i.cnt) (m := m + i.cnt) (fun k hk => by
   rw [Nat.add_assoc, Nat.add_assoc]; exact hs (i.cnt + k) (by show i.cnt + k < i.cnt + rN (j :: r); omega)) (fun q hq => hk q (by simp only [List.mem_cons] at hq ⊢; exact .inr hq)) h2)
def flC : TC -> Bool
 | .sl o c => (match o with
  | some _ => c.flat
  | none => false)
 | .pr c d => (match flC c with
  | true => flC d
  | false => false)
 | _ => true
def flK : RK -> Bool
 | .val _ c => flC c
 | .ob _ _ c => flC c
def flR : List RK -> Bool
 | [] => true
 | i :: l => flK i && flR l
theorem Fls.app : ∀ {A B : List Th}, Fls A -> Fls B -> Fls (A ++ B)
 | [], B, _, h => h
 | T :: A, B, ⟨h1, h2⟩, h => ⟨h1, h2.app h⟩
theorem flC_ok {E : Env} : ∀ {c : TC} {x : c.den} {n : Nat} {Us : List Th}, flC c = true -> TsR E (thsC c x n) Us -> Fls Us
 | .i k, x, n, Us, _, h => by cases h; trivial
 | .b, x, n, Us, _, h => by cases h; trivial
 | .s, x, n, Us, _, h => by cases h; trivial
 | .sl o c, x, n, Us, hf, h => by
  unfold flC at hf
  split at hf
  · obtain ⟨U, Vs, rfl, ⟨y, h1, rfl⟩, h2⟩ := h
    cases h2
    exact ⟨TC.flat_ok hf, trivial⟩
  · cases hf
 | .pr c d, x, n, Us, hf, h => by
  unfold flC at hf
  split at hf
  · rename_i h1
    obtain ⟨U1, U2, rfl, k1, k2⟩ := TsR.split (A := thsC c x.1 n) h
    exact (flC_ok h1 k1).app (flC_ok hf k2)
  · cases hf
theorem fl1_ok {E : Env} {κ : Nat -> Nat} {i : RK} {x : i.den} {n : Nat} {Us : List Th} (hf : flK i = true) (h : TsR E (rT1 κ i x n) Us) : Fls Us := by
 cases i with
 | val ag c => exact flC_ok hf h
 | ob k t c =>
  obtain ⟨U, Vs, rfl, ⟨b, q, cc, ds, e1, e2, rfl⟩, h2⟩ := h
  exact ⟨trivial, flC_ok hf h2⟩
theorem flR_ok {E : Env} {κ : Nat -> Nat} : ∀ {l : List RK} {x : denR l} {n : Nat} {Us : List Th}, flR l = true -> TsR E (rTs κ l x n) Us -> Fls Us
 | [], x, n, Us, _, h => by cases h; trivial
 | [i], x, n, Us, hf, h => by
  rw [flR, Bool.and_eq_true] at hf
  exact fl1_ok (i := i) hf.1 h
 | i :: j :: r, x, n, Us, hf, h => by
  rw [flR, Bool.and_eq_true] at hf
  obtain ⟨U1, U2, rfl, h1, h2⟩ := TsR.split (A := rT1 κ i x.1 n) h
  exact (fl1_ok hf.1 h1).app (flR_ok (l := j :: r) hf.2 h2)
def lentOk (T : STs) : STs -> Bool
 | [] => true
 | p :: l => (match asc T p.1 with
  | some _ => lentOk T l
  | none => false)
def tupV (vs : List Value) : Value := match vs with
 | [v] => v
 | vs => .tuple ⟨vs⟩
def noTups : List Value -> Bool
 | [] => true
 | v :: vs => match notTup v with
  | true => noTups vs
  | false => false
def retS (N : Nat) (C : Ct) (ms : List Nat) (dst : Option Nat) (st : St) (r : denR C.rs) : Option St :=
 let κ := fun k => ms.getD k 0
 let Tn := rTs κ C.rs r st.n
 let n1 := st.n + rN C.rs
 let st1 : St := ⟨n1 + Tn.length, st.L, st.G, Tn ++ st.T, tgs Tn n1 ++ st.GT, st.A⟩
 match dst with
 | none => some st1
 | some d => (match noTups (rVs C.rs r st.n) with
  | true => st1.put N (some d) (tupV (rVs C.rs r st.n))
  | false => none)
def obOk (ms : List Nat) : List RK -> Bool
 | [] => true
 | i :: l => (match i with
  | .val _ _ => obOk ms l
  | .ob k _ _ => (match Nat.blt k ms.length with
   | true => obOk ms l
   | false => false))
def fstOk (dst : Option Nat) (l : List Value) : Bool := match dst with
 | some _ => true
 | none => (match l with
  | [] => true
  | _ => false)
def exCl (N : Nat) (C : Ct) (lend : Bool) (o : Oper) (st : St) : OR St := match o.op with
 | .call c => (match c.callee with
  | .value fo => (match okOs (fo :: c.args.toList) with
   | true => (match evO st.L fo with
    | some (.func (.func f) fst cap) => (match Nat.beq f C.f with
     | true => (match fstOk o.dst fst.toList with
      | true => (match evL st.L c.args.toList with
       | some avs => (match psJ lend C.ps (fst.toList ++ (avs ++ cap.toList)) st with
        | some (s, ms, ls, st1) => (match lentOk st1.T ls && obOk ms C.rs && (!lend || flR C.rs) with
         | true => .bd (C.S s) fun r => .ofO (retS N C ms o.dst st1 r)
         | false => .no)
        | none => .no)
       | none => .no)
      | false => .no)
     | false => .no)
    | _ => .no)
   | false => .no)
  | _ => .no)
 | _ => .no
theorem lentOk_get {T : STs} : ∀ {l : STs}, lentOk T l = true -> ∀ p ∈ l, ∃ U, asc T p.1 = some U
 | [], _, p, hp => by simp at hp
 | q :: l, h, p, hp => by
  rw [lentOk] at h
  split at h
  · rename_i U hU
    rw [List.mem_cons] at hp
    rcases hp with rfl | hp
    · exact ⟨U, hU⟩
    · exact lentOk_get h p hp
  · cases h
theorem obOk_get {ms : List Nat} : ∀ {l : List RK}, obOk ms l = true -> ∀ i ∈ l, ∀ k t c, i = .ob k t c -> k < ms.length
 | [], _, i, hi, _, _, _, _ => by simp at hi
 | q :: l, h, i, hi, k, t, c, e => by
  unfold obOk at h
  rw [List.mem_cons] at hi
  split at h
  · rcases hi with rfl | hi
    · cases e
    · exact obOk_get h i hi k t c e
  · split at h
    · rename_i hb
      rcases hi with rfl | hi
      · cases e; exact Nat.le_of_ble_eq_true hb
      · exact obOk_get h i hi k t c e
    · cases h
section
variable {P : Program} {tb : Tb} {ops : Array Oper} {X : Cx} {o : Oper} {st : St}
theorem packRes_tup {E : Env} {vs us : List Value} (h : mapO (dV E) vs = some us) (hn : noTups vs = true) : dV E (tupV vs) = some (packRes us) := by
 have key : ∀ {vs us : List Value}, noTups vs = true -> mapO (dV E) vs = some us -> mapO (dA E) vs = some us := by
  intro vs
  induction vs with
  | nil => intro us _ h; exact h
  | cons v vs ih =>
   intro us hn h
   rw [noTups] at hn
   split at hn
   · rename_i hv
     obtain ⟨y, ys, h1, h2, rfl⟩ := mapO_cons h
     exact mapO_mk (by rw [<- dV_notTup hv]; exact h1) (ih hn h2)
   · cases hn
 cases vs with
 | nil => cases h; rfl
 | cons v rest =>
  cases rest with
  | nil =>
   obtain ⟨y, ys, h1, h2, rfl⟩ := mapO_cons h
   cases h2
   exact h1
  | cons v2 r =>
   obtain ⟨y, ys, h1, h2, rfl⟩ := mapO_cons h
   obtain ⟨y2, ys2, h3, h4, rfl⟩ := mapO_cons h2
   exact dV_tuple_mk (key hn h)
theorem Calls_mono' {f : Nat} {args : Array Value} {w : World} {T T' : Value -> World -> Prop} (h : Calls P f args w (Gives T)) (k : ∀ u w', T u w' -> T' u w') : Calls P f args w (Gives T') :=
 h.mono fun _ w' h => Gives.mono (fun v hv => k v w' hv) h
theorem pkM_same {lend : Bool} : ∀ {c : TC} {vs r : List Value} {ms : List Nat} {ls : STs} {st st' : St} {x : c.den}, pkM lend c vs st = some (x, ms, ls, r, st') -> st'.L = st.L
 | .i k, vs, r, ms, ls, st, st', x, h => by
  unfold pkM at h
  split at h
  · split at h
    · cases h; rfl
    · cases h
  · cases h
 | .b, vs, r, ms, ls, st, st', x, h => by
  unfold pkM at h
  split at h
  · cases h; rfl
  · cases h
 | .s, vs, r, ms, ls, st, st', x, h => by
  unfold pkM at h
  split at h
  · cases h; rfl
  · cases h
 | .sl o c, vs, r, ms, ls, st, st', x, h => by
  unfold pkM at h
  have viaJ : ∀ {q : Option ((TC.sl o c).den × List Nat × List Value × St)} {x : (TC.sl o c).den} {ms : List Nat} {r : List Value} {st1 : St}, pkJ (.sl o c) vs st = some (x, ms, r, st1) -> st1.L = st.L := fun h => (pkJ_same h).1
  split at h
  · split at h
    · split at h
      · rename_i hj; cases h; exact (pkJ_same hj).1
      · cases h
    · split at h
      · split at h
        · split at h
          · split at h
            · cases h; rfl
            · cases h
          · split at h
            · cases h; rfl
            · cases h
          · split at h
            · cases h; rfl
            · cases h
          · cases h
        · split at h
          · rename_i hj; cases h; exact (pkJ_same hj).1
          · cases h
      · split at h
        · rename_i hj; cases h; exact (pkJ_same hj).1
        · cases h
  · cases h
 | .pr c d, vs, r, ms, ls, st, st', x, h => by
  unfold pkM at h
  split at h
  · rename_i h1
    split at h
    · rename_i h2
      cases h
      exact (pkM_same h2).trans (pkM_same h1)
    · cases h
  · cases h
theorem capJ_same {lend : Bool} {q : Cap} {v : Value} {st st' : St} {x : q.2.2.den} {ms : List Nat} {ls : STs} (h : capJ lend q v st = some (x, ms, ls, st')) : st'.L = st.L := by
 unfold capJ at h
 split at h
 · split at h
   · split at h
     · split at h
       · rename_i hk
         split at h
         · split at h
           · rename_i hp; cases h; exact (pkM_same hp).trans (St.tk_same hk).1
           · cases h
         · cases h
       · cases h
     · split at h
       · split at h
         · split at h
           · rename_i hp; cases h; exact pkM_same hp
           · cases h
         · cases h
       · split at h
         · split at h
           · rename_i hp; cases h; exact pkM_same hp
           · cases h
         · split at h
           · rename_i hp; cases h; exact pkM_same hp
           · cases h
       · cases h
   · cases h
 · cases h
theorem capsJ_same {lend : Bool} : ∀ {l : List Cap} {vs : List Value} {st st' : St} {x : capsD l} {ms : List Nat} {ls : STs}, capsJ lend l vs st = some (x, ms, ls, st') -> st'.L = st.L
 | [], vs, st, st', x, ms, ls, h => by
  unfold capsJ at h
  split at h
  · cases h; rfl
  · cases h
 | q :: l, vs, st, st', x, ms, ls, h => by
  unfold capsJ at h
  split at h
  · split at h
    · rename_i h1
      split at h
      · rename_i h2; cases h; exact (capsJ_same h2).trans (capJ_same h1)
      · cases h
    · cases h
  · cases h
theorem pJ_same {lend : Bool} {p : PK} {v : Value} {st st' : St} {x : p.den} {ms : List Nat} {ls : STs} (h : pJ lend p v st = some (x, ms, ls, st')) : st'.L = st.L := by
 cases p with
 | v ag c =>
  unfold pJ at h
  dsimp only at h
  split at h
  · split at h
    · rename_i hp; cases h; exact pkM_same hp
    · cases h
  · cases h
 | p q => exact capJ_same h
 | fn f cs =>
  unfold pJ at h
  dsimp only at h
  split at h
  · split at h
    · split at h
      · exact capsJ_same h
      · cases h
    · cases h
  · cases h
 | pf t0 q =>
  unfold pJ at h
  dsimp only at h
  split at h
  · split at h
    · split at h
      · split at h
        · split at h
          · split at h
            · split at h
              · rename_i hp; cases h; exact capJ_same hp
              · cases h
            · cases h
          · cases h
        · cases h
      · split at h
        · split at h
          · split at h
            · rename_i hp; cases h; exact capJ_same hp
            · cases h
          · split at h
            · rename_i hp; cases h; exact capJ_same hp
            · cases h
        · cases h
      · cases h
    · cases h
  · cases h
theorem psJ_same {lend : Bool} : ∀ {l : List PK} {vs : List Value} {st st' : St} {x : denP l} {ms : List Nat} {ls : STs}, psJ lend l vs st = some (x, ms, ls, st') -> st'.L = st.L
 | [], vs, st, st', x, ms, ls, h => by
  unfold psJ at h
  split at h
  · cases h; rfl
  · cases h
 | q :: l, vs, st, st', x, ms, ls, h => by
  unfold psJ at h
  split at h
  · split at h
    · rename_i h1
      split at h
      · rename_i h2; cases h; exact (psJ_same h2).trans (pJ_same h1)
      · cases h
    · cases h
  · cases h
theorem ok_cl {C : Ct} (hC : Holds P C) (lend : Bool) (hg : grd ops st.L o.guard = some true) : OpOk P ops X o st (exCl X.N C lend o st) := by
 intro Q g F a w rest st' H he K
 unfold exCl at he
 split at he
 · rename_i c hop
   split at he
   · rename_i fo hcal
     split at he
     · rename_i ho
       split at he
       · rename_i f fst cap hfo
         split at he
         · rename_i hf
           have hf := Nat.eq_of_beq_eq_true hf
           subst hf
           split at he
           · rename_i hfst
             split at he
             · rename_i avs havs
               split at he
               · rename_i s ms ls st1 hps
                 split at he
                 · rename_i hchk
                   simp only [Bool.and_eq_true, Bool.or_eq_true, Bool.not_eq_true'] at hchk
                   obtain ⟨⟨c1, c2⟩, c3⟩ := hchk
                   obtain ⟨r, hr, he⟩ := he
                   have hS := OR.ends_ofO he
                   obtain ⟨L', hfr, hL⟩ := H.fr
                   obtain ⟨uf, f1, f2⟩ := evO_rel hL (okOs_cons ho).1 hfo
                   obtain ⟨fa, ca, rfl, f3, f4⟩ := dV_func f2
                   have hfirst : mapO (dV g.E) fst.toList = some fa.toList := mapO_mono (fun _ _ h => dV_ofF (dF_of0 h)) f3
                   obtain ⟨us, u1, u2⟩ := evL_rel hL (okOs_cons ho).2 havs
                   have hcaps : mapO (dV g.E) cap.toList = some ca.toList := mapO_mono (fun _ _ h => dV_ofF (dF_of0 h)) f4
                   obtain ⟨g1, F1, Bn, hg1, hF1, H1, fl1, Tn, Pn, a1, a0, a2, a3⟩ := psJ_ok H.b hps (mapO_app hfirst (mapO_app u2 hcaps))
                   rw [List.nil_append] at H1
                   -- the callee's own names
                   let E2 : Env := fun h => match ms[h]? with
                    | some m => g1.E m
                    | none => none
                   have hN : Names E2 g1.E 0 ms := fun j m x hj hx => by
                    show (match ms[0 + j]? with | some m => g1.E m | none => none) = _
                    rw [Nat.zero_add, hj]; exact hx
                   obtain ⟨hV, hT⟩ := a3 E2 0 hN
                   have hdom : ∀ h, psN C.ps <= h -> E2 h = none := fun h hh => by
                    show (match ms[h]? with | some m => g1.E m | none => none) = _
                    rw [List.getElem?_eq_none (by omega)]
                   obtain ⟨Us, hs, hR⟩ := H1.sp
                   -- what the call is given, and what is known behind it
                   have hgive : ∃ Fc, Sep w Fc (blks Pn) w Fc Pn /\ ∀ {w' : World} {F2 : SH} {Vs : List Th}, Sep w Fc (blks Pn) w' F2 Vs -> LeH Fc F2 -> (lend = true -> Fls Vs) -> ∃ F3, LeH F F3 /\ Sep X.w0 X.F0 X.R w' F3 (Vs ++ Us) := by
                    cases lend with
                    | true =>
                     obtain ⟨rfl, hless, hwas⟩ := fl1
                     have hmem : ∀ T ∈ Tn, T ∈ Us := by
                      have key : ∀ {l : STs} {Tn : List Th}, TsR g1.E l Tn -> (∀ p ∈ l, asc st1.T p.1 = some p.2) -> ∀ T ∈ Tn, T ∈ Us := by
                       intro l
                       induction l with
                       | nil => intro Tn h _ T hT; cases h; simp at hT
                       | cons p l ih =>
                        intro Tn ⟨U, Vs, e, h2, h3⟩ hh T hT
                        subst e
                        rw [List.mem_cons] at hT
                        rcases hT with rfl | hT
                        · obtain ⟨i, V, h4, h5⟩ := hR.get (hh p (by simp))
                          rw [h2.fn h5]
                          exact List.mem_of_getElem? h4
                        · exact ih h3 (fun q hq => hh q (by simp [hq])) T hT
                      refine key a2.1 fun p hp => ?_
                      obtain ⟨U, hU⟩ := lentOk_get c1 p hp
                      have := hless _ _ hU
                      rw [hwas p hp] at this
                      cases this
                      exact hU
                     obtain ⟨k1, k2⟩ := hs.lendX hmem
                     refine ⟨_, ?_, fun {w' F2 Vs} h _ hfl => ⟨F1, LeH.refl _, k2 (by rw [blks_perm a2.2.symm]; exact h) (hfl rfl)⟩⟩
                     have := k1.perm a2.2.symm
                     rwa [blks_perm a2.2.symm] at this
                    | false =>
                     have hTn : Tn = [] := by
                      have : ls = [] := fl1
                      subst this
                      exact a2.1
                     subst hTn
                     obtain ⟨k1, k2⟩ := hs.enterX
                     have hp : Pn.Perm Bn := by simpa using a2.2
                     refine ⟨F1, ?_, fun {w' F2 Vs} h hle _ => ⟨F2, hF1.trans hle, k2 (by rw [blks_perm hp.symm]; exact h)⟩⟩
                     have := k1.perm hp.symm
                     rwa [blks_perm hp.symm] at this
                   obtain ⟨Fc, k1, k2⟩ := hgive
                   have hcall := hC.ok s r hr E2 w Fc Pn _ hdom hV hT k1
                   obtain ⟨dst, op, type, pos, after, guard⟩ := o
                   obtain ⟨cal, args, ats⟩ := c
                   dsimp only at hop hg hcal hS havs ho u1 hfst
                   subst hop hcal
                   have hargs : args = args.toList.toArray := by simp
                   rw [hargs] at *
                   -- behind it
                   have fin : ∀ {u : Value} {w' : World} {a' : Act} {L2 : List (Nat × Value)}, (∃ E' F' Vs us, E2.le E' /\ LeH Fc F' /\ mapO (dV E') (rVs C.rs r (psN C.ps)) = some us /\ u = packRes us /\ Sep w Fc (blks Pn) w' F' Vs /\ TsR E' (rTs id C.rs r (psN C.ps)) Vs) ->
                       Fr X.N L2 a' -> (L2 = match dst with
                        | none => L'
                        | some d => (d, u) :: er d L') -> wpList P ops Q rest a' w' := by
                    rintro u w' a' L2 ⟨E', F', Vs, us', e1, e2, e3, rfl, e4, e5⟩ hfr' hL2
                    obtain ⟨F3, hF3, hs3⟩ := k2 e4 e2 (fun hl => flR_ok (by
                     rcases c3 with h | h
                     · rw [hl] at h; cases h
                     · exact h) e5)
                    let n0 := st1.n
                    let E3 : Env := fun h => if n0 <= h /\ h < n0 + rN C.rs then E' (psN C.ps + (h - n0)) else g1.E h
                    have hE3 : g1.E.le E3 := fun h x e => by
                     show (if _ then _ else _) = _
                     rw [if_neg]
                     · exact e
                     · rintro ⟨h1, _⟩
                       rw [(H1.new h h1).1] at e; cases e
                    have hsame : Same E' E3 (psN C.ps) n0 (rN C.rs) := fun j hj => by
                     show (if _ then _ else _) = _
                     rw [if_pos ⟨by omega, by omega⟩]
                     congr 1; omega
                    let Ts := rTs (fun k => ms.getD k 0) C.rs r n0
                    let n1 := n0 + rN C.rs
                    let g3 : Gh := ⟨E3, g1.tv, fun t => if t < n0 then g1.tt t else if n1 <= t then (Ts[t - n1]?).map (·.2) else none⟩
                    have hg3 : g1.le g3 := ⟨hE3, fun _ _ h => h, fun t T h => by
                     show (if _ then _ else _) = _
                     rw [if_pos]
                     · exact h
                     · rcases Nat.lt_or_ge t n0 with h' | h'
                       · exact h'
                       · rw [(H1.new t h').2.2] at h; cases h⟩
                    have hvals : mapO (dV E3) (rVs C.rs r n0) = some us' := rVs_ren hsame e3
                    have hths : TsR E3 Ts Vs := rTs_ren hsame (fun i hi k t c y e hy => by
                     have hk := obOk_get c2 i hi k t c e
                     have h1 : E2 k = some y := by
                      cases h : E2 k with
                      | none =>
                       exfalso
                       obtain ⟨y', hy'⟩ := a0 _ (List.getElem_mem hk)
                       have : E2 k = g1.E ms[k] := by
                        show (match ms[k]? with | some m => g1.E m | none => none) = _
                        rw [List.getElem?_eq_getElem hk]
                       rw [this, hy'] at h
                       cases h
                      | some z =>
                       have := e1 _ _ h
                       rw [show E' (id k) = E' k from rfl] at hy
                       rw [hy] at this
                       cases this; rfl
                     have h2 : ms[k]? = some (ms.getD k 0) := by
                      rw [List.getD_eq_getElem?_getD, List.getElem?_eq_getElem hk]; rfl
                     have h3 : g1.E (ms.getD k 0) = some y := by
                      have : E2 k = g1.E (ms.getD k 0) := by
                       show (match ms[k]? with | some m => g1.E m | none => none) = _
                       rw [h2]
                      rw [<- this]; exact h1
                     exact hE3 _ _ h3) e5
                    have hL3 : LR E3 st.L L' := (hL.mono hg1.E).mono hE3
                    have hst1L := psJ_same hps
                    let st2 : St := ⟨n1 + Ts.length, st1.L, st1.G, Ts ++ st1.T, tgs Ts n1 ++ st1.GT, st1.A⟩
                    have H2 : Rel X g3 F3 st2 a w' := by
                     refine ⟨fun h hh => ?_, ⟨L', hfr, by rw [show st2.L = st1.L from rfl, hst1L]; exact hL3⟩, fun d v hv => ?_, ⟨Vs ++ Us, hs3, hths.app (hR.mono hE3)⟩, fun k T hT => ?_, fun p v e => (H1.al p v e).mono hE3⟩
                     · have hh' : n0 + rN C.rs + Ts.length <= h := hh
                       have hb := H1.new h (by show n0 <= h; omega)
                       refine ⟨?_, hb.2.1, ?_⟩
                       · show (if _ then _ else _) = _
                         rw [if_neg (by omega)]; exact hb.1
                       · show (if _ then _ else _) = _
                         rw [if_neg (by omega), if_pos (by show n0 + rN C.rs <= h; omega), List.getElem?_eq_none (by show Ts.length <= h - (n0 + rN C.rs); omega)]; rfl
                     · exact H1.tg d v hv
                     · rcases asc_app hT with h1 | ⟨h1, h2⟩
                       · obtain ⟨i, q, h3, h4⟩ := tgs_some (n := n1) h1
                         refine ⟨n1 + i, asc_app1 h4, ?_⟩
                         show (if _ then _ else _) = _
                         rw [if_neg (by show ¬ (n0 + rN C.rs + i < n0); omega), if_pos (by omega), Nat.add_sub_cancel_left, h3]; rfl
                       · obtain ⟨t, h5, h6⟩ := H1.tt _ _ h2
                         refine ⟨t, ?_, hg3.tt _ _ h6⟩
                         show asc (tgs Ts n1 ++ st1.GT) k = some t
                         rw [asc_app2 (tgs_none h1)]; exact h5
                    unfold retS at hS
                    dsimp only at hS
                    cases dst with
                    | none =>
                     cases hS
                     dsimp only at hL2
                     subst hL2
                     exact K _ _ _ _ (hg1.tr hg3) hF3 (H2.frame hfr' (by rw [show st2.L = st1.L from rfl, hst1L]; exact hL3))
                    | some d =>
                     dsimp only at hL2 hS
                     subst hL2
                     split at hS
                     · rename_i hnt
                       obtain ⟨d', hd', _, g4, hg4, hput⟩ := H2.put hS (packRes_tup hvals hnt) (L' := L') (by rw [show st2.L = st1.L from rfl, hst1L]; exact hL3)
                       cases hd'
                       exact K _ _ _ _ ((hg1.tr hg3).tr hg4) hF3 (hput _ hfr')
                     · cases hS
                   cases dst with
                   | none =>
                    have hfa : fa = #[] := by
                     have : fst.toList = [] := by
                      unfold fstOk at hfst
                      dsimp only at hfst
                      split at hfst
                      · assumption
                      · cases hfst
                     rw [this] at f3
                     cases hx : fa.toList with
                     | nil => simpa using hx
                     | cons y ys => rw [hx] at f3; cases f3
                    subst hfa
                    exact clVN (caps := ca.toList) hC.ent hfr (grd_rel hL hg) u1 (by simpa using f1) (by simpa using hcall) fun v w' a' hT hf' => fin hT hf' rfl
                   | some d =>
                    have hdN : Nat.blt d X.N = true := by
                     unfold retS at hS
                     dsimp only at hS
                     split at hS
                     · exact St.put_lt hS
                     · cases hS
                    exact clB (fs := fa.toList) (caps := ca.toList) hC.ent hfr hdN (grd_rel hL hg) u1 (by simpa using f1) (by rw [List.append_assoc]; exact hcall) fun v w' a' hT hf' => fin hT hf' rfl
                 · cases he
               · cases he
             · cases he
           · cases he
         · cases he
       · cases he
     · cases he
   · cases he
 · cases he
end
end Dm

namespace Dm
open Go Go.RowKit
inductive Hn where
 | nm (ds : List Nat)
 | bn
 | mm (d : Nat)
 | fb
 | fa
 | fi
 | cs (ks : List (Nat × Bool))
 | cl (k : Nat) (lend : Bool)
def HL (P : Program) : List Ct -> Prop
 | [] => True
 | C :: l => Holds P C /\ HL P l
theorem HL.get {P : Program} : ∀ {l : List Ct}, HL P l -> ∀ (k : Nat) (C : Ct), l[k]? = some C -> Holds P C
 | [], _, k, C, h => by simp at h
 | D :: l, ⟨h1, _⟩, 0, C, h => by
  have : D = C := by simpa using h
  exact this ▸ h1
 | D :: l, ⟨_, h2⟩, k + 1, C, h => h2.get k C (by simpa using h)
def isTmp (x : Operand) : Bool := match x with
 | .tmp _ => true
 | _ => false
def callee (o : Oper) (st : St) (f : Nat) : Bool := match o.op with
 | .call c => (match c.callee with
  | .value fo => (match evO st.L fo with
   | some (.func (.func f') _ _) => Nat.beq f' f
   | _ => false)
  | _ => false)
 | _ => false
def exCs (N : Nat) (cts : List Ct) (o : Oper) (st : St) : List (Nat × Bool) -> OR St
 | [] => .no
 | q :: r => match cts[q.1]? with
  | some C => (match callee o st C.f with
   | true => exCl N C q.2 o st
   | false => exCs N cts o st r)
  | none => .no
def exPu (tb : Tb) (N : Nat) (o : Oper) (st : St) : OR St := match pureS tb st.L o.op with
 | some v => .ofO (st.put N o.dst v)
 | none => .no
def exOp (tb : Tb) (N : Nat) (cts : List Ct) (o : Oper) (h : Option Hn) (st : St) : OR St := match h with
 | some (.nm ds) => exNm N o ds st
 | some .bn => exBn N o st
 | some (.mm d) => .ofO (exMm tb N (some d) o st)
 | some .fb => .ofO (exFb tb N o st)
 | some .fa => .ofO (exFa tb N o st)
 | some .fi => .ofO (exFi tb N o st)
 | some (.cs ks) => exCs N cts o st ks
 | some (.cl k lend) => (match cts[k]? with
  | some C => exCl N C lend o st
  | none => .no)
 | none => (match o.op with
  | .load _ _ => .ofO (exLd tb N o st)
  | .store _ _ _ => (match o.dst with
   | none => .ofO (exSt tb o st)
   | some _ => .no)
  | .box _ _ => .ofO (exBox N o st)
  | .alloc _ => .ofO (exAl tb N o st)
  | .nilCheck _ => .ofO (exNc N o st)
  | .indexAddr _ _ _ => exIx tb N o st
  | .index T _ _ => (match asc tb.und T with
   | some .string => exIxS tb N o st
   | _ => exIxA tb N o st)
  | .slice _ _ _ _ _ => exSl tb N o st
  | .convert src dst _ => (match asc tb.und src with
   | some (.slice _) => exCv tb N o st
   | some .string => (match asc tb.und dst with
    | some (.slice _) => exCv tb N o st
    | _ => exPu tb N o st)
   | _ => exPu tb N o st)
  | .makeSlice _ _ _ => exMk tb N o st
  | .makeMap _ _ => .ofO (exMm tb N none o st)
  | .mapUpdate _ _ _ _ => .ofO (exMi tb o st)
  | .insert _ _ _ _ => .ofO (exMi tb o st)
  | .lookup _ _ _ _ => exMg tb N o st
  | .buildSlice _ _ _ => .ofO (exBs tb N o st)
  | .call c => (match c.callee with
   | .builtin .append => exAp tb N o st
   | .builtin _ => (match exLen tb st o with
    | some v => .ofO (st.put N o.dst v)
    | none => .no)
   | _ => .no)
  | .move x => (match isTmp x with
   | true => .ofO (exMv N o st)
   | false => exPu tb N o st)
  | .assign x => (match isTmp x with
   | true => .ofO (exMv N o st)
   | false => exPu tb N o st)
  | _ => exPu tb N o st)
def exO (tb : Tb) (N : Nat) (cts : List Ct) (ops : Array Oper) (o : Oper) (h : Option Hn) (st : St) : OR St := match grd ops st.L o.guard with
 | some true => exOp tb N cts o h st
 | some false => (match o.dst with
  | none => .ok st
  | some _ => .ofO (st.put N o.dst undef))
 | none => .no
section ops
variable {P : Program} {tb : Tb} {ops : Array Oper} {X : Cx} {o : Oper} {st : St} {cts : List Ct}
theorem OpOk.no : OpOk P ops X o st .no := fun _ he _ => he.elim
theorem ok_pu (htb : TbOk P tb) (hg : grd ops st.L o.guard = some true) : OpOk P ops X o st (exPu tb X.N o st) := by
 unfold exPu
 split
 · exact ok_pure htb hg ‹_›
 · exact OpOk.no
theorem ok_cs (hc : HL P cts) (hg : grd ops st.L o.guard = some true) : ∀ {ks : List (Nat × Bool)}, OpOk P ops X o st (exCs X.N cts o st ks)
 | [] => OpOk.no
 | q :: r => by
  rw [exCs]
  split
  · split
    · exact ok_cl (hc.get _ _ ‹_›) _ hg
    · exact ok_cs hc hg
  · exact OpOk.no
theorem ok_op (htb : TbOk P tb) (hc : HL P cts) (h : Option Hn) (hg : grd ops st.L o.guard = some true) : OpOk P ops X o st (exOp tb X.N cts o h st) := by
 unfold exOp
 split
 · exact ok_nm hg _
 · exact ok_bn hg
 · exact ok_mm _ hg
 · exact ok_fb htb hg
 · exact ok_fa htb hg
 · exact ok_fi htb hg
 · exact ok_cs hc hg
 · split
   · exact ok_cl (hc.get _ _ ‹_›) _ hg
   · exact OpOk.no
 · split
   · exact ok_ld htb hg
   · split
     · exact ok_st htb ‹_› hg
     · exact OpOk.no
   · exact ok_box hg
   · exact ok_al htb hg
   · exact ok_nc hg
   · exact ok_ix htb hg
   · split
     · exact ok_ixS htb hg
     · exact ok_ixA htb hg
   · exact ok_sl htb hg
   · split
     · exact ok_cv htb hg
     · split
       · exact ok_cv htb hg
       · exact ok_pu htb hg
     · exact ok_pu htb hg
   · exact ok_mk htb hg
   · exact ok_mm _ hg
   · exact ok_mi htb hg
   · exact ok_mi htb hg
   · exact ok_mg htb hg
   · exact ok_bs htb hg
   · split
     · exact ok_ap htb hg
     · split
       · exact ok_len htb hg ‹_›
       · exact OpOk.no
     · exact OpOk.no
   · split
     · exact ok_mv hg
     · exact ok_pu htb hg
   · split
     · exact ok_mv hg
     · exact ok_pu htb hg
   · exact ok_pu htb hg
theorem ok_o (htb : TbOk P tb) (hc : HL P cts) (h : Option Hn) : OpOk P ops X o st (exO tb X.N cts ops o h st) := by
 unfold exO
 split
 · exact ok_op htb hc h ‹_›
 · exact ok_skip ‹_›
 · exact OpOk.no
end ops
inductive Hs where
 | nil
 | h (i : Nat) (x : Hn) (r : Hs)
 | sp (i : Nat) (t f : Hs)
def hintOf (i : Nat) (hs : Hs) : Option Hn × Hs := match hs with
 | .h j x r => (match Nat.beq j i with
  | true => (some x, r)
  | false => (none, hs))
 | _ => (none, hs)
def splitOf (i : Nat) (hs : Hs) : Option (Hs × Hs) := match hs with
 | .sp j t f => (match Nat.beq j i with
  | true => some (t, f)
  | false => none)
 | _ => none
def grdSlot (ops : Array Oper) (o : Oper) : Option Nat := match o.guard with
 | none => none
 | some (j, _) => (match ops.toList[j]? with
  | some q => q.dst
  | none => none)
section
variable {ρ : Type}
def exOps (tb : Tb) (N : Nat) (cts : List Ct) (ops : Array Oper) : List Oper -> Nat -> Hs -> St -> (St -> Option ρ) -> Option ρ
 | [], _, _, st, K => K st
 | o :: l, i, hs, st, K =>
  let go : Hs -> St -> Option ρ := fun hs st => match hintOf i hs with
   | (h, hs') => (exO tb N cts ops o h st).run fun st' => exOps tb N cts ops l (i + 1) hs' st' K
  match splitOf i hs with
  | some (t, f) => (match grdSlot ops o with
   | some d => (match asc st.L d with
    | some (.bool e) => (if e = true then (match st.put N (some d) (.bool true) with
        | some st1 => go t st1
        | none => none)
     else (match st.put N (some d) (.bool false) with
      | some st1 => go f st1
      | none => none))
    | _ => none)
   | none => none)
  | none => go hs st
def GoodK (X : Cx) (r : ρ) (K : St -> Option ρ) (Q : Act -> World -> Prop) (g : Gh) (F : SH) : Prop :=
 ∀ st' g' F' a' w', g.le g' -> LeH F F' -> Rel X g' F' st' a' w' -> K st' = some r -> Q a' w'
variable {P : Program} {tb : Tb} {ops : Array Oper} {X : Cx} {cts : List Ct} {r : ρ} {K : St -> Option ρ} {g : Gh} {F : SH} {st : St} {a : Act} {w : World} {Q : Exit -> Act -> World -> Prop}
theorem GoodK.step {Q : Act -> World -> Prop} {g' : Gh} {F' : SH} (h : GoodK X r K Q g F) (hg : g.le g') (hF : LeH F F') : GoodK X r K Q g' F' :=
 fun _ _ _ _ _ a b c d => h _ _ _ _ _ (hg.tr a) (hF.trans b) c d
theorem Rel.setB (H : Rel X g F st a w) {d : Nat} {e b : Bool} {st1 : St} (h0 : asc st.L d = some (.bool e)) (hb : e = b) (hS : st.put X.N (some d) (.bool b) = some st1) : ∃ g', g.le g' /\ Rel X g' F st1 a w := by
 subst hb
 obtain ⟨L', hf, hL⟩ := H.fr
 obtain ⟨u, h1, h2⟩ := hL.look h0
 rw [dV_bool h2] at h1
 obtain ⟨d', hd, _, g', hg', hput⟩ := H.put hS (u := .bool e) rfl hL
 cases hd
 exact ⟨g', hg', hput a ⟨hf.look h1, Fr.erA d hf⟩⟩
theorem exOps_ok (htb : TbOk P tb) (hc : HL P cts) : ∀ {l : List Oper} {i : Nat} {hs : Hs} {st : St} {g : Gh} {F : SH} {a : Act} {w : World}, exOps tb X.N cts ops l i hs st K = some r -> Rel X g F st a w -> GoodK X r K (Q .normal) g F -> wpList P ops Q l a w
 | [], i, hs, st, g, F, a, w, h, H, G => wpList_nil (G _ _ _ _ _ (Gh.le.rfl' _) (LeH.refl _) H h)
 | o :: l, i, hs, st, g, F, a, w, h, H, G => by
  have step : ∀ {hn : Option Hn} {hs' : Hs} {st1 : St} {g1 : Gh}, g.le g1 -> Rel X g1 F st1 a w -> (exO tb X.N cts ops o hn st1).run (fun st' => exOps tb X.N cts ops l (i + 1) hs' st' K) = some r -> wpList P ops Q (o :: l) a w := by
   intro hn hs' st1 g1 hg1 H1 h1
   obtain ⟨st', he, h2⟩ := OR.run_ends h1
   exact ok_o htb hc hn H1 he fun g' F' a' w' hg hF H' => exOps_ok htb hc h2 H' (G.step (hg1.tr hg) hF)
  rw [exOps] at h
  dsimp only at h
  split at h
  · split at h
    · split at h
      · rename_i e he
        split at h
        · rename_i hb
          split at h
          · rename_i st1 h1
            obtain ⟨g1, hg1, H1⟩ := H.setB he hb h1
            exact step hg1 H1 h
          · cases h
        · rename_i hb
          split at h
          · rename_i st1 h1
            obtain ⟨g1, hg1, H1⟩ := H.setB he (by cases e; rfl; exact absurd rfl hb) h1
            exact step hg1 H1 h
          · cases h
      · cases h
    · cases h
  · exact step (Gh.le.rfl' _) H h
end
def memH (h : Nat) : List Nat -> Bool
 | [] => false
 | k :: l => match Nat.beq k h with
  | true => true
  | false => memH h l
inductive Hp where
 | en (k : Nat)
 | at_ (d : Nat) (p : List Nat)
def cellsOf (st : St) (v : Value) : List Value := match v with
 | .pointer (some ⟨h, _, _⟩) => (match asc st.T h with
  | some (.box _ cs) => cs
  | some (.cel cs) => cs
  | _ => [])
 | .func _ _ cap => cap.toList
 | .agg cs => cs.toList
 | .tuple cs => cs.toList
 | _ => []
def nthV : List Value -> Nat -> Option Value
 | [], _ => none
 | v :: l, i => match i with
  | 0 => some v
  | j + 1 => nthV l j
def goV (st : St) : Value -> List Nat -> Option Value
 | v, [] => some v
 | v, i :: p => match nthV (cellsOf st v) i with
  | some u => goV st u p
  | none => none
def hdlV (v : Value) : Option Nat := match v with
 | .pointer (some ⟨h, _, _⟩) => some h
 | .slice (some ⟨h, _, _⟩) _ _ => some h
 | .map (some h) => some h
 | _ => none
def Hp.find (st : St) : Hp -> Option Nat
 | .en k => some k
 | .at_ d p => match asc st.L d with
  | some v => (match goV st v p with
   | some u => hdlV u
   | none => none)
  | none => none
end Dm

namespace Dm
open Go Go.RowKit
section regi
variable {P : Program} {N : Nat} {L0 : List (Nat × Value)}
def StepI (P : Program) (ops : Array Oper) (I : (Nat -> Bool) -> Act -> World -> Prop) (done : Nat -> Bool) (i : Nat) (o : Oper) (a : Act) (w : World) : Prop :=
 ∃ G : Exit -> Act -> World -> Prop, (∀ e a w, G e a w -> e = .normal /\ a.defers = []) /\ wpList P ops G [o] a w /\ ∀ v w', G .normal (a.put o.dst v) w' -> I (upd done i) (a.put o.dst v) w'
def cntL (listed : Array Bool) : List Nat -> Nat
 | [] => 0
 | i :: r => cntL listed r + (if listed.getD i false then 0 else 1)
theorem cntL_zero {listed : Array Bool} : ∀ {od : List Nat}, cntL listed od = 0 -> ∀ i ∈ od, listed.getD i false = true
 | [], _, i, hi => by simp at hi
 | j :: r, h, i, hi => by
  simp only [cntL] at h
  rw [List.mem_cons] at hi
  rcases hi with rfl | hi
  · cases e : listed.getD i false with
    | true => rfl
    | false => rw [e] at h; simp at h
  · exact cntL_zero (od := r) (by omega) i hi
theorem cntL_none {listed : Array Bool} : ∀ {od : List Nat}, (∀ i ∈ od, listed.getD i false = false) -> cntL listed od = od.length
 | [], _ => rfl
 | j :: r, h => by simp only [cntL, h j (by simp), cntL_none (od := r) fun i hi => h i (by simp [hi])]; simp
theorem cntL_same {listed : Array Bool} {i : Nat} : ∀ {od : List Nat}, i ∉ od -> cntL (listed.setIfInBounds i true) od = cntL listed od
 | [], _ => rfl
 | j :: r, h => by
  rw [List.mem_cons, not_or] at h
  simp only [cntL, cntL_same h.2, getD_set_ne false h.1]
theorem cntL_set {listed : Array Bool} {i : Nat} (hs : i < listed.size) (hu : listed.getD i false = false) : ∀ {od : List Nat}, od.Nodup -> i ∈ od -> cntL (listed.setIfInBounds i true) od + 1 = cntL listed od
 | [], _, h => by simp at h
 | j :: r, hn, h => by
  have hn' := List.nodup_cons.1 hn
  simp only [cntL]
  by_cases hi : i = j
  · subst hi
    rw [cntL_same hn'.1, hu]
    have : (listed.setIfInBounds i true).getD i false = true := by simp [hs]
    rw [this]; simp
  · rw [getD_set_ne false hi]
    have := cntL_set hs hu hn'.2 (by
     rw [List.mem_cons] at h
     exact h.resolve_left hi)
    omega
def sinkG (ops : Array Oper) (m : Nat) (fs : List Nat) (r0 : Nat) : Bool :=
 (List.range m).all fun i => fs.contains i || Region.waitsFor .any ops r0 i || (List.range m).any fun j => decide (i < j) && notF fs j && Region.waitsFor .any ops j i
def depG (ops : Array Oper) (m : Nat) (fs : List Nat) : Bool :=
 fs.all fun p => match ops[p]? with
  | some o => o.after.all fun e => !Region.binds .any e || (Nat.blt e.on m && notF fs e.on)
  | none => false
def odG (m : Nat) (fs : List Nat) : List Nat := List.range m ++ fs.filter fun p => Nat.ble m p
def listG (n : Nat) (rest : List Nat) : Array Bool := ((List.range n).map fun i => !rest.contains i).toArray
def regGB (l : List Oper) (m : Nat) (fs rest : List Nat) : Bool :=
 backB l.toArray m && Nat.ble m l.length && (rest.isEmpty || sinkG l.toArray m fs (rest.headD 0)) && chainD l.toArray rest && depG l.toArray m fs && freeF l.toArray fs && Region.noSelect l.toArray &&
  seqD l.toArray rest (listG l.length rest) && ((List.range l.length).all fun i => Nat.blt i m || (fs.contains i || rest.contains i)) && (rest.all fun i => Nat.ble m i && !fs.contains i) &&
  Nat.beq l.length ((odG m fs).length + rest.length) && decide (odG m fs).Nodup && (fs.all fun i => Nat.blt i l.length)
structure GInv (ops : Array Oper) (rest : List Nat) (listed : Array Bool) : Prop where
 size : listed.size = ops.size
 closed : ∀ j oj, ops[j]? = some oj -> listed.getD j false = true -> ∀ e ∈ oj.after, Region.binds .any e = true -> listed.getD e.on false = true
 rest : ∀ t, rest.contains t = true -> t < ops.size -> listed.getD t true = false
theorem GInv.set {ops : Array Oper} {rest : List Nat} {listed : Array Bool} (inv : GInv ops rest listed) {i : Nat} (hi : i ∈ Region.ready .any ops listed) (hr : rest.contains i = false) : GInv ops rest (listed.setIfInBounds i true) := by
 obtain ⟨_, o, ho, hall⟩ := mem_ready.1 hi
 refine ⟨by rw [Array.size_setIfInBounds]; exact inv.size, fun j oj hoj hl e he hb => ?_, fun t ht hts => ?_⟩
 · by_cases hij : i = j
   · subst hij
     have : oj = o := Option.some.inj (hoj.symm.trans ho)
     subst this
     exact getD_set_true (hall e he hb)
   · rw [getD_set_ne false hij] at hl
     exact getD_set_true (inv.closed j oj hoj hl e he hb)
 · rw [getD_set_ne true (fun e => by subst e; rw [ht] at hr; cases hr)]; exact inv.rest t ht hts
theorem mem_odG {m : Nat} {fs : List Nat} {i : Nat} : i ∈ odG m fs ↔ i < m \/ (fs.contains i = true /\ m <= i) := by
 unfold odG
 rw [List.mem_append, List.mem_range, List.mem_filter]
 constructor
 · rintro (h | ⟨h1, h2⟩)
   · exact .inl h
   · exact .inr ⟨by simpa using h1, Nat.le_of_ble_eq_true h2⟩
 · rintro (h | ⟨h1, h2⟩)
   · exact .inl h
   · exact .inr ⟨by simpa using h1, Nat.ble_eq_true_of_le h2⟩
theorem wpAny_G {l : List Oper} {m : Nat} {fs rest : List Nat} {Q : Exit -> Act -> World -> Prop} (I : (Nat -> Bool) -> Act -> World -> Prop) (hB : regGB l m fs rest = true) (hQ : ∀ c a w d v, Q (.panic c) (a.put d v) w -> Q (.panic c) a w)
    (hob : ∀ done i o a w, i < m -> fs.contains i = false -> l[i]? = some o -> done i = false -> (∀ j, Region.waitsFor .any l.toArray i j = true -> done j = true) -> I done a w -> StepI P l.toArray I done i o a w)
    (hfl : ∀ done i o a w, fs.contains i = true -> l[i]? = some o -> done i = false -> (∀ j, Region.waitsFor .any l.toArray i j = true -> done j = true) -> I done a w -> ∃ v, Yields P l.toArray o v a /\ I (upd done i) (a.put o.dst v) w)
    (ht : ∀ done a w, (∀ i, i < m \/ fs.contains i = true -> done i = true) -> I done a w -> wpList P l.toArray Q (pickO l rest) a w) :
    ∀ (f : Nat) (listed : Array Bool) (a : Act) (w : World), GInv l.toArray rest listed -> cntL listed (odG m fs) = f -> I (fun k => listed.getD k false) a w -> wpAny P .any l.toArray Q (f + rest.length) listed a w := by
 simp only [regGB, Bool.and_eq_true] at hB
 obtain ⟨⟨⟨⟨⟨⟨⟨⟨⟨⟨⟨⟨hback, hle⟩, hsink⟩, hchain⟩, hdep⟩, hfree⟩, hsel⟩, hseq⟩, hcov⟩, hrall⟩, _⟩, hnd⟩, hfsl⟩ := hB
 have hle : m <= l.length := Nat.le_of_ble_eq_true hle
 have hnd : (odG m fs).Nodup := of_decide_eq_true hnd
 have hops : ∀ i : Nat, l.toArray[i]? = l[i]? := fun i => by simp
 have hod : ∀ i, i < m \/ fs.contains i = true -> i ∈ odG m fs := fun i h => mem_odG.2 (by
  rcases h with h | h
  · exact .inl h
  · rcases Nat.lt_or_ge i m with h1 | h1
    · exact .inl h1
    · exact .inr ⟨h, h1⟩)
 have hrest : ∀ i, rest.contains i = true -> m <= i /\ fs.contains i = false := fun i h => by
  have h1 := List.all_eq_true.1 hrall i (by simpa using h)
  simp only [Bool.and_eq_true] at h1
  exact ⟨Nat.le_of_ble_eq_true h1.1, by simpa using h1.2⟩
 have hnr : ∀ i, i < m \/ fs.contains i = true -> rest.contains i = false := fun i h => by
  cases e : rest.contains i with
  | false => rfl
  | true =>
   obtain ⟨h1, h2⟩ := hrest i e
   rcases h with h | h
   · omega
   · rw [h2] at h; cases h
 have hlt : ∀ i, i < m \/ fs.contains i = true -> i < l.length := fun i h => by
  rcases h with h | h
  · omega
  · exact Nat.le_of_ble_eq_true (List.all_eq_true.1 hfsl i (by simpa using h))
 have hdeps : ∀ {i : Nat} {o : Oper} {listed : Array Bool}, l.toArray[i]? = some o -> (∀ e ∈ o.after, Region.binds .any e = true -> listed.getD e.on false = true) -> ∀ j, Region.waitsFor .any l.toArray i j = true -> listed.getD j false = true := by
  intro i o listed ho hall j hwf
  obtain ⟨o', ho', e, he, hb, hon⟩ := Region.waitsFor_spec hwf
  have : o' = o := Option.some.inj (ho'.symm.trans ho)
  subst this
  rw [<- hon]; exact hall e he hb
 intro f
 induction f with
 | zero =>
  intro listed a w inv hc hI
  have hall : ∀ i, i < m \/ fs.contains i = true -> listed.getD i false = true := fun i h => cntL_zero hc i (hod i h)
  have hL : listed = listG l.length rest := by
   apply Array.ext
   · rw [inv.size]; simp [listG]
   · intro i h1 h2
     have hi : i < l.length := by rw [inv.size] at h1; simpa using h1
     simp only [listG, List.getElem_map, List.getElem_toArray, List.getElem_range]
     cases hr : rest.contains i with
     | true =>
      have h3 := inv.rest i hr (by simpa using hi)
      rw [Array.getD_eq_getD_getElem?, Array.getElem?_eq_getElem h1] at h3
      simpa using h3
     | false =>
      have h2 := List.all_eq_true.1 hcov i (List.mem_range.2 hi)
      rw [hr, Bool.or_false, Bool.or_eq_true] at h2
      have h3 := hall i (h2.imp (fun h => Nat.le_of_ble_eq_true h) id)
      rw [Array.getD_eq_getD_getElem?, Array.getElem?_eq_getElem h1] at h3
      simpa using h3
  rw [Nat.zero_add]
  exact wpAny_seqD rest listed a w (by rw [hL]; exact hseq) (ht _ a w hall hI)
 | succ f ih =>
  intro listed a w inv hc hI
  rw [show f + 1 + rest.length = (f + rest.length) + 1 by omega]
  by_cases hfl' : ∃ p, fs.contains p = true /\ p ∈ Region.ready .any l.toArray listed
  · obtain ⟨p, hp1, hp2⟩ := hfl'
    obtain ⟨hun, o, ho, hall⟩ := mem_ready.1 hp2
    have hpl := hlt p (.inr hp1)
    have hsz : p < listed.size := by rw [inv.size]; simpa using hpl
    obtain ⟨v, hv1, hv2⟩ := hfl (fun k => listed.getD k false) p o a w hp1 (by rw [<- hops]; exact ho) (getD_both hun) (hdeps ho hall) hI
    refine wpAny_first ho (Region.noSelect_spec hsel) (fun c a' w' h => hQ c a' w' _ _ h) _ listed a w (fun j oj hoj hji hunj hno => ?_) hp2 hv1 ?_
    · have h1 := List.all_eq_true.1 hfree p (by simpa using hp1)
      rw [ho] at h1
      have h2 := List.all_eq_true.1 h1 j (List.mem_range.2 (Array.getElem?_eq_some_iff.1 hoj).1)
      rw [hoj] at h2
      simp only [Bool.or_eq_true] at h2
      rcases h2 with ((h2 | h2) | h3) | h2
      · exact absurd (Nat.eq_of_beq_eq_true h2) hji
      · obtain ⟨o', ho', e, he, hb, hon⟩ := Region.waitsFor_spec h2
        have : o' = oj := Option.some.inj (ho'.symm.trans hoj)
        subst this
        exact absurd hon (hno e he hb)
      · have h4 := hdeps ho hall j h3
        rw [getD_both hunj] at h4
        cases h4
      · exact h2
    · refine ih _ _ _ (inv.set hp2 (hnr p (.inr hp1))) (by have := cntL_set hsz (getD_both hun) hnd (hod p (.inr hp1)); omega) ?_
      rw [upd_eq hsz]; exact hv2
  · have hno : ∀ p, fs.contains p = true -> p ∉ Region.ready .any l.toArray listed := fun p h1 h2 => hfl' ⟨p, h1, h2⟩
    have hrdyOf : ∀ i o, l.toArray[i]? = some o -> listed.getD i false = false -> (∀ e ∈ o.after, Region.binds .any e = true -> listed.getD e.on false = true) -> i ∈ Region.ready .any l.toArray listed := fun i o ho hu hall =>
     mem_ready.2 ⟨getD_in (by rw [inv.size]; exact (Array.getElem?_eq_some_iff.1 ho).1) hu, o, ho, hall⟩
    -- one of the head that is no float is left
    have hex : ∃ i, i < m /\ fs.contains i = false /\ listed.getD i false = false := by
     apply Classical.byContradiction
     intro hcon
     have hall1 : ∀ i, i < m -> fs.contains i = false -> listed.getD i false = true := fun i h1 h2 => by
      cases e : listed.getD i false with
      | true => rfl
      | false => exact absurd ⟨i, h1, h2, e⟩ hcon
     have hall2 : ∀ i, i ∈ odG m fs -> listed.getD i false = true := fun i hi => by
      cases e : listed.getD i false with
      | true => rfl
      | false =>
       have him := mem_odG.1 hi
       cases hf : fs.contains i with
       | false =>
        rcases him with h | ⟨h, _⟩
        · rw [hall1 i h hf] at e; cases e
        · rw [hf] at h; cases h
       | true =>
        have h1 := List.all_eq_true.1 hdep i (by simpa using hf)
        have hil := hlt i (.inr hf)
        have ho : l.toArray[i]? = some l[i] := by rw [hops]; exact List.getElem?_eq_getElem hil
        rw [ho] at h1
        exact absurd (hrdyOf i _ ho e fun e' he hb => by
         have h3 := (Array.all_eq_true_iff_forall_mem.1 h1) e' he
         rw [hb] at h3
         simp only [Bool.not_true, Bool.false_or, Bool.and_eq_true] at h3
         exact hall1 _ (Nat.le_of_ble_eq_true h3.1) (by simpa [notF] using h3.2)) (hno i hf)
     have hz : ∀ {od : List Nat}, (∀ i ∈ od, listed.getD i false = true) -> cntL listed od = 0 := by
      intro od
      induction od with
      | nil => intro _; rfl
      | cons j r ih => intro h; simp only [cntL, h j (by simp), ih fun i hi => h i (by simp [hi])]; simp
     rw [hz hall2] at hc
     cases hc
    obtain ⟨i0, hi0, hf0, hu0⟩ := hex
    -- the first one of them is ready
    have hready : Region.ready .any l.toArray listed ≠ [] := by
     have key : ∀ (n i : Nat), i = n -> i < m -> listed.getD i false = false -> Region.ready .any l.toArray listed ≠ [] := by
      intro n
      induction n using Nat.strongRecOn with
      | _ n ihn =>
       intro i hin him hui hem
       have hil : i < l.length := by omega
       have ho : l.toArray[i]? = some l[i] := by rw [hops]; exact List.getElem?_eq_getElem hil
       have h1 := List.all_eq_true.1 hback i (List.mem_range.2 him)
       rw [ho] at h1
       have : i ∈ Region.ready .any l.toArray listed := hrdyOf i _ ho hui fun e he hb => by
        have h2 := (Array.all_eq_true_iff_forall_mem.1 h1) e he
        rw [hb] at h2
        have h2 : e.on < i := Nat.le_of_ble_eq_true h2
        cases hl : listed.getD e.on false with
        | true => rfl
        | false => exact absurd hem (ihn e.on (by omega) e.on rfl (by omega) hl)
       rw [hem] at this
       cases this
     exact key i0 i0 rfl hi0 hu0
    refine ⟨fun h => absurd h hready, fun i hi => ?_⟩
    obtain ⟨hun, o, ho, hall⟩ := mem_ready.1 hi
    have hio : l[i]? = some o := by rw [<- hops]; exact ho
    have hil : i < l.length := (List.getElem?_eq_some_iff.1 hio).1
    have hfi : fs.contains i = false := by
     cases e : fs.contains i with
     | false => rfl
     | true => exact absurd hi (hno i e)
    have him : i < m := by
     rcases Nat.lt_or_ge i m with h | h
     · exact h
     · have h2 := List.all_eq_true.1 hcov i (List.mem_range.2 hil)
       have h3 : Nat.blt i m = false := by
        cases e : Nat.blt i m with
        | false => rfl
        | true => have := Nat.le_of_ble_eq_true e; omega
       rw [h3, hfi, Bool.false_or, Bool.false_or] at h2
       -- none of the rest is ready
       cases rest with
       | nil => simp at h2
       | cons r0 r =>
        simp only [Bool.or_eq_true, List.isEmpty_cons, Bool.false_eq_true, false_or] at hsink
        have hsink : sinkG l.toArray m fs r0 = true := hsink
        have hw := hdeps ho hall
        have hund : ∀ k, (r0 :: r).contains k = true -> listed.getD k false = false := fun k hk => by
         rcases Nat.lt_or_ge k l.toArray.size with h | h
         · exact getD_both (inv.rest k hk h)
         · have : listed.size <= k := by rw [inv.size]; exact h
           simp [Array.getElem?_eq_none this]
        by_cases hk0 : i = r0
        · subst hk0
          exfalso
          have up : ∀ (d k : Nat), m - k = d -> k < m -> fs.contains k = false -> listed.getD k false = false -> False := by
           intro d
           induction d using Nat.strongRecOn with
           | _ d ihd =>
            intro k hd hk hnf huk
            have h1 := List.all_eq_true.1 hsink k (List.mem_range.2 hk)
            rw [hnf, Bool.false_or, Bool.or_eq_true] at h1
            rcases h1 with h1 | h1
            · rw [hw k h1] at huk; cases huk
            · obtain ⟨j, hj, hj2⟩ := List.any_eq_true.1 h1
              simp only [Bool.and_eq_true, decide_eq_true_eq] at hj2
              have hjm := List.mem_range.1 hj
              refine ihd (m - j) (by omega) j rfl hjm (by simpa [notF] using hj2.1.2) ?_
              cases hl : listed.getD j false with
              | false => rfl
              | true =>
               obtain ⟨oj, hoj, e, he, hb, hon⟩ := Region.waitsFor_spec hj2.2
               have h3 := inv.closed j oj hoj hl e he hb
               rw [hon, huk] at h3; cases h3
          exact up _ i0 rfl hi0 hf0 hu0
        · have hkr : i ∈ r := by
           have h4 : i ∈ r0 :: r := by simpa using h2
           rcases List.mem_cons.1 h4 with h | h
           · exact absurd h hk0
           · exact h
          obtain ⟨j, hj, hj2⟩ := chainD_get hchain i hkr
          have := hw j hj2
          rw [hund j (by simpa using hj)] at this; cases this
    have hsz : i < listed.size := by rw [inv.size]; simpa using hil
    obtain ⟨G, g1, hw, g2⟩ := hob (fun k => listed.getD k false) i o a w him hfi hio (getD_both hun) (hdeps ho hall) hI
    unfold wpOp
    simp only [ho]
    refine wpList_one g1 hw fun v w' hg => ih _ _ _ (inv.set hi (hnr i (.inl him))) (by have := cntL_set hsz (getD_both hun) hnd (hod i (.inl him)); omega) ?_
    rw [upd_eq hsz]
    exact g2 v w' hg
theorem regG {id : Nat} {l : List Oper} {a : Act} {w0 : World} {Q : Exit -> Act -> World -> Prop} (m : Nat) (fs rest : List Nat) (I : (Nat -> Bool) -> Act -> World -> Prop) (hmx : P.follows .mixedOrders = true) (hB : regGB l m fs rest = true) (hQ : ∀ c a w d v, Q (.panic c) (a.put d v) w -> Q (.panic c) a w)
    (h0 : I (fun _ => false) a { w0 with drawn := w0.drawn + 1 })
    (hob : ∀ done i o a w, i < m -> fs.contains i = false -> l[i]? = some o -> done i = false -> (∀ j, Region.waitsFor .any l.toArray i j = true -> done j = true) -> I done a w -> StepI P l.toArray I done i o a w)
    (hfl : ∀ done i o a w, fs.contains i = true -> l[i]? = some o -> done i = false -> (∀ j, Region.waitsFor .any l.toArray i j = true -> done j = true) -> I done a w -> ∃ v, Yields P l.toArray o v a /\ I (upd done i) (a.put o.dst v) w)
    (ht : ∀ done a w, (∀ i, i < m \/ fs.contains i = true -> done i = true) -> I done a w -> wpList P l.toArray Q (pickO l rest) a w) : (Code.region id l.toArray true).wp P Q a w0 := by
 refine wp_region_any hmx ?_
 have hlen : l.length = (odG m fs).length + rest.length := by
  simp only [regGB, Bool.and_eq_true] at hB
  exact Nat.eq_of_beq_eq_true hB.1.1.2
 have h := wpAny_G (Q := Q) I hB hQ hob hfl ht (odG m fs).length (Array.replicate l.toArray.size false) a { w0 with drawn := w0.drawn + 1 }
  ⟨by simp, fun j oj _ hl => (by rw [getD_replicate_false] at hl; cases hl), fun t _ ht => getD_in (by simpa using ht) (getD_replicate_false _ _)⟩
  (cntL_none fun i _ => getD_replicate_false _ _) (by
   have : (fun k => (Array.replicate l.toArray.size false).getD k false) = fun _ => false := funext fun k => getD_replicate_false _ _
   rw [this]; exact h0)
 rw [<- hlen] at h
 simpa using h
end regi
def allB {α : Type} (f : α -> Bool) : List α -> Bool
 | [] => true
 | x :: l => match f x with
  | true => allB f l
  | false => false
theorem allB_get {α : Type} {f : α -> Bool} : ∀ {l : List α}, allB f l = true -> ∀ x ∈ l, f x = true
 | [], _, x, hx => by simp at hx
 | y :: l, h, x, hx => by
  rw [allB] at h
  split at h
  · rename_i hy
    rw [List.mem_cons] at hx
    rcases hx with rfl | hx
    · exact hy
    · exact allB_get h x hx
  · cases h
def k0 (p : Nat -> Bool) (v : Value) : Bool := match v with
 | .slice a _ _ => (match a with
  | none => true
  | some q => p q.block)
 | .pointer a => (match a with
  | none => true
  | some q => p q.block)
 | .map r => (match r with
  | none => true
  | some h => p h)
 | _ => true
def kF (p : Nat -> Bool) (v : Value) : Bool := match v with
 | .func _ fst cap => (match allB (k0 p) fst.toList with
  | true => allB (k0 p) cap.toList
  | false => false)
 | v => k0 p v
def kA (p : Nat -> Bool) (v : Value) : Bool := match v with
 | .agg cs => allB (kF p) cs.toList
 | v => kF p v
def kV (p : Nat -> Bool) (v : Value) : Bool := match v with
 | .tuple vs => allB (kA p) vs.toList
 | v => kA p v
section kn
variable {E E' : Env} {p : Nat -> Bool}
def Env.leP (p : Nat -> Bool) (E E' : Env) : Prop := ∀ h x, p h = true -> E h = some x -> E' h = some x
theorem mapO_leP {α β : Type} {f g : α -> Option β} {k : α -> Bool} (h : ∀ x y, k x = true -> f x = some y -> g x = some y) : ∀ {l : List α} {l' : List β}, allB k l = true -> mapO f l = some l' -> mapO g l = some l'
 | [], l', _, e => e
 | x :: xs, l', hk, e => by
  rw [allB] at hk
  split at hk
  · obtain ⟨y, ys, h1, h2, rfl⟩ := mapO_cons e
    exact mapO_mk (h _ _ ‹_› h1) (mapO_leP h hk h2)
  · cases hk
theorem d0_leP (hE : E.leP p E') {v u : Value} (hk : k0 p v = true) (h : d0 E v = some u) : d0 E' v = some u := by
 unfold d0 at *
 split at h
 · split at h
   · exact h
   · split at h
     · rename_i x hx; rw [hE _ _ hk hx]; exact h
     · cases h
 · split at h
   · exact h
   · split at h
     · rename_i q n c hx; rw [hE _ _ hk hx]; exact h
     · cases h
 · split at h
   · exact h
   · split at h
     · rename_i q n c hx; rw [hE _ _ hk hx]; exact h
     · cases h
 · cases h
 · cases h
 · cases h
 · exact h
theorem dF_leP (hE : E.leP p E') {v u : Value} (hk : kF p v = true) (h : dF E v = some u) : dF E' v = some u := by
 unfold dF at *
 split at h
 · unfold kF at hk
   dsimp only at hk
   split at hk
   · split at h
     · rename_i a ha
       split at h
       · rename_i b hb
         rw [mapO_leP (fun _ _ => d0_leP hE) ‹_› ha, mapO_leP (fun _ _ => d0_leP hE) hk hb]; exact h
       · cases h
     · cases h
   · cases hk
 · rename_i hn
   have : kF p v = k0 p v := by
    unfold kF; split
    · exact absurd rfl (hn _ _ _)
    · rfl
   rw [this] at hk
   exact d0_leP hE hk h
theorem dA_leP (hE : E.leP p E') {v u : Value} (hk : kA p v = true) (h : dA E v = some u) : dA E' v = some u := by
 unfold dA at *
 split at h
 · split at h
   · rename_i l hl
     rw [mapO_leP (fun _ _ => dF_leP hE) hk hl]; exact h
   · cases h
 · rename_i hn
   have : kA p v = kF p v := by
    unfold kA; split
    · exact absurd rfl (hn _)
    · rfl
   rw [this] at hk
   exact dF_leP hE hk h
theorem dV_leP (hE : E.leP p E') {v u : Value} (hk : kV p v = true) (h : dV E v = some u) : dV E' v = some u := by
 unfold dV at *
 split at h
 · split at h
   · rename_i l hl
     rw [mapO_leP (fun _ _ => dA_leP hE) hk hl]; exact h
   · cases h
 · rename_i hn
   have : kV p v = kA p v := by
    unfold kV; split
    · exact absurd rfl (hn _)
    · rfl
   rw [this] at hk
   exact dA_leP hE hk h
def kT (p : Nat -> Bool) (q : Nat × STh) : Bool := match p q.1 with
 | true => (match q.2 with
  | .box _ cs => allB (kF p) cs
  | .cel cs => allB (kF p) cs
  | .fs _ vs => allB (kF p) vs
  | .mp _ v _ => (match v with
   | .p h => p h
   | _ => true)
  | _ => true)
 | false => false
theorem TR_leP (hE : E.leP p E') {q : Nat × STh} {U : Th} (hk : kT p q = true) (H : TR E q.1 q.2 U) : TR E' q.1 q.2 U := by
 obtain ⟨h, T⟩ := q
 unfold kT at hk
 split at hk
 · rename_i hp
   dsimp only at hp hk H ⊢
   cases T with
   | ro c xs => obtain ⟨x, h1, h2⟩ := H; exact ⟨x, hE _ _ hp h1, h2⟩
   | row e c xs => obtain ⟨x, h1, h2⟩ := H; exact ⟨x, hE _ _ hp h1, h2⟩
   | srow e xs => obtain ⟨x, h1, h2⟩ := H; exact ⟨x, hE _ _ hp h1, h2⟩
   | box t cs => obtain ⟨b, n, c, ds, h1, h2, h3⟩ := H; exact ⟨b, n, c, ds, hE _ _ hp h1, mapO_leP (fun _ _ => dF_leP hE) hk h2, h3⟩
   | cel cs => obtain ⟨b, o, n, c, ds, h1, h2, h3⟩ := H; exact ⟨b, o, n, c, ds, hE _ _ hp h1, mapO_leP (fun _ _ => dF_leP hE) hk h2, h3⟩
   | arr t k n xs => obtain ⟨b, m, c, h1, h2⟩ := H; exact ⟨b, m, c, hE _ _ hp h1, h2⟩
   | car k n xs => obtain ⟨b, m, c, h1, h2⟩ := H; exact ⟨b, m, c, hE _ _ hp h1, h2⟩
   | fs e vs =>
    obtain ⟨x, ys, h1, h2, h3⟩ := H
    refine ⟨x, ys, hE _ _ hp h1, ?_, h3⟩
    exact mapO_leP (k := kF p) (fun v y hv hy => fnO_of hy fun u hu => dF_leP hE hv hu) hk h2
   | mp k v kvs =>
    obtain ⟨b, n, c, ev, h1, h2, h3⟩ := H
    refine ⟨b, n, c, ev, hE _ _ hp h1, ?_, h3⟩
    cases v with
    | i k => exact h2
    | b => exact h2
    | s => exact h2
    | p hh =>
     unfold VC.ev at *
     dsimp only at h2 hk
     split at h2
     · rename_i q n c hq
       simp only [hE _ _ hk hq]; exact h2
     · cases h2
 · cases hk
theorem TsR_leP (hE : E.leP p E') : ∀ {Ts : STs} {Us : List Th}, allB (kT p) Ts = true -> TsR E Ts Us -> TsR E' Ts Us
 | [], _, _, h => h
 | q :: Ts, _, hk, ⟨U, Vs, h1, h2, h3⟩ => by
  rw [allB] at hk
  split at hk
  · exact ⟨U, Vs, h1, TR_leP hE ‹_› h2, TsR_leP hE hk h3⟩
  · cases hk
abbrev STA := List (Nat × (Nat × Int × Nat))
def kAl (p : Nat -> Bool) (q : Nat × (Nat × Int × Nat)) : Bool := match p q.1 with
 | true => p q.2.1
 | false => false
theorem AlOk_leP (hE : E.leP p E') {q h s : Nat} {i : Int} (h1 : p q = true) (h2 : p h = true) (H : AlOk E q h i s) : AlOk E' q h i s := by
 obtain ⟨x, b, o, e1, e2, e3, e4, e5⟩ := H
 exact ⟨x, b, o, hE _ _ h2 e1, e2, e3, e4, hE _ _ h1 e5⟩
end kn
def flat (Us : Nat -> List Th) : Nat -> List Th
 | 0 => []
 | m + 1 => flat Us m ++ Us m
def clr (Us : Nat -> List Th) (vis : List Nat) : Nat -> List Th := fun k => if k ∈ vis then [] else Us k
theorem flat_congr {Us Vs : Nat -> List Th} : ∀ {m : Nat}, (∀ k, k < m -> Us k = Vs k) -> flat Us m = flat Vs m
 | 0, _ => rfl
 | m + 1, h => by rw [flat, flat, flat_congr (fun k hk => h k (by omega)), h m (by omega)]
theorem flat_take {Us Vs : Nat -> List Th} {j : Nat} (hV : ∀ k, k ≠ j -> Vs k = Us k) (hj : Vs j = []) : ∀ {m : Nat}, j < m -> (flat Us m).Perm (flat Vs m ++ Us j)
 | 0, h => by omega
 | m + 1, h => by
  rw [flat, flat]
  by_cases hm : j = m
  · subst hm
    rw [hj, List.append_nil, flat_congr (Us := Us) (Vs := Vs) (m := j) (fun k hk => (hV k (by omega)).symm)]
  · rw [hV m (fun e => hm e.symm)]
    have ih := flat_take (m := m) hV hj (by omega)
    refine (ih.append_right _).trans ?_
    rw [List.append_assoc, List.append_assoc]
    exact List.Perm.append_left _ List.perm_append_comm
theorem flat_vis : ∀ {vis : List Nat} {Us : Nat -> List Th} {m : Nat}, vis.Nodup -> (∀ j ∈ vis, j < m) -> (flat Us m).Perm (flat (clr Us vis) m ++ vis.flatMap Us)
 | [], Us, m, _, _ => by
  have : clr Us [] = Us := funext fun k => by simp [clr]
  rw [this]; simp
 | j :: vis, Us, m, hn, hm => by
  have hn' := List.nodup_cons.1 hn
  have h1 := flat_vis (vis := vis) (Us := Us) (m := m) hn'.2 fun k hk => hm k (by simp [hk])
  have h2 := flat_take (Us := clr Us vis) (Vs := clr Us (j :: vis)) (j := j) (fun k hk => by simp [clr, hk]) (by simp [clr]) (m := m) (hm j (by simp))
  have h3 : clr Us vis j = Us j := by simp [clr, hn'.1]
  rw [h3] at h2
  refine h1.trans ((h2.append_right _).trans ?_)
  rw [List.flatMap_cons, List.append_assoc]
end Dm

namespace Dm
open Go Go.RowKit
structure Cb where
 n0 : Nat
 n1 : Nat
 d : Option Nat
 v : Value
 T : STs
 A : STA
 vis : List Nat
 al : List Nat
 ow : STs
inductive Vk where
 | op (vis al : List Nat) (own : List Hp)
 | fl (vis al : List Nat)
 | sk
def inR (c : Cb) (h : Nat) : Bool := match Nat.ble c.n0 h with
 | true => Nat.blt h c.n1
 | false => false
def nthC : List Cb -> Nat -> Option Cb
 | [], _ => none
 | c :: l, i => match i with
  | 0 => some c
  | j + 1 => nthC l j
def visL (cs : List Cb) : List Nat -> List (Nat × Value)
 | [] => []
 | j :: vis => match nthC cs j with
  | some c => (match c.d with
   | some d => (d, c.v) :: visL cs vis
   | none => visL cs vis)
  | none => visL cs vis
def visT (cs : List Cb) : List Nat -> STs
 | [] => []
 | j :: vis => match nthC cs j with
  | some c => c.T ++ visT cs vis
  | none => visT cs vis
def visA (cs : List Cb) : List Nat -> STA
 | [] => []
 | j :: vis => match nthC cs j with
  | some c => c.A ++ visA cs vis
  | none => visA cs vis
def qSt (base : St) (cs : List Cb) (vis : List Nat) (ow : STs) (n : Nat) : St :=
 let L := visL cs vis ++ base.L
 let T := ow ++ (visT cs vis ++ base.T)
 ⟨n + L.length + T.length, L, tgs L n, T, tgs T (n + L.length), visA cs vis ++ base.A⟩
def anyR (cs : List Cb) (h : Nat) : List Nat -> Bool
 | [] => false
 | j :: l => match nthC cs j with
  | some c => (match inR c h with
   | true => true
   | false => anyR cs h l)
  | none => anyR cs h l
def pOk (nb : Nat) (cs : List Cb) (al : List Nat) (n0 n1 : Nat) (h : Nat) : Bool := match Nat.blt h nb with
 | true => true
 | false => (match Nat.ble n0 h with
  | true => Nat.blt h n1
  | false => anyR cs h al)
def keysD : List Nat -> Bool
 | [] => true
 | h :: l => match memH h l with
  | true => false
  | false => keysD l
def subN (vis : List Nat) : List Nat -> Bool
 | [] => true
 | j :: l => match memH j vis with
  | true => subN vis l
  | false => false
def vOf (o : Oper) (st : St) : Option Value := match o.dst with
 | none => some undef
 | some d => asc st.L d
def apartT (ow : STs) : List Nat -> Bool
 | [] => true
 | h :: l => match asc ow h with
  | none => apartT ow l
  | some _ => false
def mkCb (base : St) (cs : List Cb) (vis al : List Nat) (ow : STs) (n : Nat) (o : Oper) (q st' : St) : Option Cb :=
 let K := (visT cs vis ++ base.T).map (·.1)
 match keysD K with
 | true => (match apartT ow K with
  | true => (match tkAll q.GT K st' with
   | some st1 => (match vOf o st' with
    | some v => (match Nat.ble n st'.n with
     | true =>
      let A := st'.A.take (st'.A.length - q.A.length)
      let p := pOk base.n cs al n st'.n
      (match kV p v with
      | true => (match allB (kT p) st1.T with
       | true => (match allB (kAl p) A with
        | true => some ⟨n, st'.n, o.dst, v, st1.T, A, vis, al, ow⟩
        | false => none)
       | false => none)
      | false => none)
     | false => none)
    | none => none)
   | none => none)
  | false => none)
 | false => none
def mkFl (tb : Tb) (N : Nat) (ops : Array Oper) (base : St) (cs : List Cb) (vis al : List Nat) (n : Nat) (o : Oper) : Option Cb :=
 let L := visL cs vis ++ base.L
 match grd ops L o.guard with
 | some true => (match o.dst with
  | some d => (match Nat.blt d N with
   | true => (match pureS tb L o.op with
    | some v => (match kV (pOk base.n cs al n n) v with
     | true => some ⟨n, n, some d, v, [], [], vis, al, []⟩
     | false => none)
    | none => none)
   | false => none)
  | none => none)
 | _ => none
def befB (ops : Array Oper) (cs : List Cb) (i : Nat) (vis : List Nat) (j : Nat) : Bool := match Region.waitsFor .any ops i j with
 | true => true
 | false => vis.any fun k => match Region.waitsFor .any ops i k with
  | true => (match nthC cs k with
   | some c => memH j c.vis
   | none => false)
  | false => false
def chkV (ops : Array Oper) (cs : List Cb) (i : Nat) (vis al : List Nat) : Bool := match keysD vis with
 | true => (match subN vis al with
  | true => allB (fun j => match nthC cs j with
   | some c => (match subN vis c.al with
    | true => befB ops cs i vis j
    | false => false)
   | none => false) vis
  | false => false)
 | false => false
def getV (cs : List Cb) (d : Nat) : Option Value := match cs with
 | [] => none
 | c :: l => match c.d with
  | some d' => (match Nat.beq d' d with
   | true => some c.v
   | false => getV l d)
  | none => getV l d
def setV (d : Nat) (v : Value) : List Cb -> List Cb
 | [] => []
 | c :: l => match c.d with
  | some d' => (match Nat.beq d' d with
   | true => ⟨c.n0, c.n1, c.d, v, c.T, c.A, c.vis, c.al, c.ow⟩ :: l
   | false => c :: setV d v l)
  | none => c :: setV d v l
section
variable {ρ : Type}
def exHd (tb : Tb) (N : Nat) (cts : List Ct) (ops : Array Oper) (base : St) : List Oper -> Nat -> List (Vk × STs) -> Hs -> List Cb -> Nat -> (List Cb -> Nat -> Hs -> Option ρ) -> Option ρ
 | [], _, _, hs, cs, n, K => K cs n hs
 | o :: l, i, vs, hs, cs, n, K => match vs with
  | [] => none
  | (k, ow) :: vs' => match k with
   | .sk => exHd tb N cts ops base l (i + 1) vs' hs (cs ++ [⟨n, n, none, undef, [], [], [], [], []⟩]) n K
   | .fl vis al => (match chkV ops cs i vis al with
    | true => (match mkFl tb N ops base cs vis al n o with
     | some c => exHd tb N cts ops base l (i + 1) vs' hs (cs ++ [c]) n K
     | none => none)
    | false => none)
   | .op vis al _ =>
    let go : Hs -> List Cb -> Option ρ := fun hs cs => match chkV ops cs i vis al with
     | true => (match hintOf i hs with
      | (h, hs') => (exO tb N cts ops o h (qSt base cs vis ow n)).run fun st' => match mkCb base cs vis al ow n o (qSt base cs vis ow n) st' with
       | some c => exHd tb N cts ops base l (i + 1) vs' hs' (cs ++ [c]) c.n1 K
       | none => none)
     | false => none
    match splitOf i hs with
    | some (t, f) => (match grdSlot ops o with
     | some d => (match getV cs d with
      | some (.bool e) => if e = true then go t (setV d (.bool true) cs) else go f (setV d (.bool false) cs)
      | _ => none)
     | none => none)
    | none => go hs cs
def finL : List Cb -> List (Nat × Value)
 | [] => []
 | c :: l => match c.d with
  | some d => (d, c.v) :: finL l
  | none => finL l
def finT : List Cb -> STs
 | [] => []
 | c :: l => c.T ++ finT l
def finA : List Cb -> STA
 | [] => []
 | c :: l => c.A ++ finA l
def finS (base : St) (cs : List Cb) (n : Nat) : St :=
 let L := finL cs
 let T := finT cs
 ⟨n + L.length + T.length, L ++ base.L, tgs L n ++ base.G, T ++ base.T, tgs T (n + L.length) ++ base.GT, finA cs ++ base.A⟩
def lessL (ds : List Nat) : List (Nat × Value) -> List (Nat × Value)
 | [] => []
 | p :: l => match memH p.1 ds with
  | true => lessL ds l
  | false => p :: lessL ds l
def dstsG (N : Nat) (L0 : List (Nat × Value)) : List Oper -> List Vk -> Bool
 | [], _ => true
 | o :: os, ks => match ks with
  | [] => false
  | k :: ks => (match k with
   | .sk => dstsG N L0 os ks
   | _ => (match o.dst with
    | none => dstsG N L0 os ks
    | some d => Nat.blt d N && L0.all (fun p => !Nat.beq p.1 d) && othG d os ks && dstsG N L0 os ks))
 where othG (d : Nat) : List Oper -> List Vk -> Bool
 | [], _ => true
 | o :: os, ks => match ks with
  | [] => false
  | k :: ks => (match k with
   | .sk => othG d os ks
   | _ => (match o.dst with
    | none => othG d os ks
    | some d' => !Nat.beq d' d && othG d os ks))
def dstsK : List Oper -> List Vk -> List Nat
 | [], _ => []
 | o :: os, ks => match ks with
  | [] => []
  | k :: ks => (match k with
   | .sk => dstsK os ks
   | _ => (match o.dst with
    | some d => d :: dstsK os ks
    | none => dstsK os ks))
def flIx : Nat -> List Vk -> List Nat
 | _, [] => []
 | n, k :: r => match k with
  | .fl _ _ => n :: flIx (n + 1) r
  | _ => flIx (n + 1) r
def skIx : Nat -> List Vk -> List Nat
 | _, [] => []
 | n, k :: r => match k with
  | .sk => n :: skIx (n + 1) r
  | _ => skIx (n + 1) r
def tkL (st0 : St) : List Hp -> St -> Option (STs × St)
 | [], st => some ([], st)
 | p :: ps, st => match p.find st0 with
  | some h => (match st.tk h with
   | some (T, st1) => (match tkL st0 ps st1 with
    | some (To, st2) => some ((h, T) :: To, st2)
    | none => none)
   | none => none)
  | none => none
def ownsOf (st0 : St) : List Vk -> St -> Option (List (Vk × STs) × St)
 | [], st => some ([], st)
 | k :: r, st => match tkL st0 (match k with
     | .op _ _ own => own
     | _ => []) st with
  | some (To, st1) => (match ownsOf st0 r st1 with
   | some (l, st2) => some ((k, To) :: l, st2)
   | none => none)
  | none => none
def exDrw (tb : Tb) (N : Nat) (cts : List Ct) (m : Nat) (vs : List Vk) (hs : Hs) (l : List Oper) (st : St) (K : St -> Option ρ) : Option ρ := match ownsOf st vs st with
 | some (os, st1) =>
  let base : St := ⟨st1.n, lessL (dstsK l vs) st1.L, st1.G, st1.T, st1.GT, st1.A⟩
  (match regGB l m (flIx 0 vs) (skIx 0 vs) && Nat.beq vs.length l.length with
  | true => (match dstsG N base.L l vs with
   | true => exHd tb N cts l.toArray base l 0 os hs [] st1.n fun cs n hs' => exOps tb N cts l.toArray (pickO l (skIx 0 vs)) 1000 hs' (finS base cs n) K
   | false => none)
  | false => none)
 | none => none
end
theorem memH_mem {h : Nat} : ∀ {l : List Nat}, memH h l = true -> h ∈ l
 | [], e => by cases e
 | k :: l, e => by
  rw [memH] at e
  split at e
  · rename_i hb
    rw [Nat.eq_of_beq_eq_true hb]; simp
  · simp [memH_mem e]
theorem memH_of {h : Nat} : ∀ {l : List Nat}, h ∈ l -> memH h l = true
 | k :: l, e => by
  rw [memH]
  rw [List.mem_cons] at e
  split
  · rfl
  · rename_i hb
    rcases e with rfl | e
    · rw [Nat.beq_refl] at hb; cases hb
    · exact memH_of e
theorem keysD_nodup : ∀ {l : List Nat}, keysD l = true -> l.Nodup
 | [], _ => List.nodup_nil
 | h :: l, e => by
  rw [keysD] at e
  split at e
  · cases e
  · rename_i hm
    exact List.nodup_cons.2 ⟨(fun hh => by rw [memH_of hh] at hm; cases hm), keysD_nodup e⟩
theorem subN_get {vis : List Nat} : ∀ {l : List Nat}, subN vis l = true -> ∀ j ∈ l, j ∈ vis
 | [], _, j, hj => by simp at hj
 | k :: l, e, j, hj => by
  rw [subN] at e
  split at e
  · rename_i hm
    rw [List.mem_cons] at hj
    rcases hj with rfl | hj
    · exact memH_mem hm
    · exact subN_get e j hj
  · cases e
theorem nthC_eq : ∀ {cs : List Cb} {i : Nat}, nthC cs i = cs[i]?
 | [], i => by simp [nthC]
 | c :: l, 0 => by simp [nthC]
 | c :: l, i + 1 => by simp only [nthC, List.getElem?_cons_succ]; exact nthC_eq
theorem inR_iff {c : Cb} {h : Nat} : inR c h = true ↔ c.n0 <= h /\ h < c.n1 := by
 unfold inR
 split
 · rename_i h1
   have := Nat.le_of_ble_eq_true h1
   constructor
   · intro h2; exact ⟨this, Nat.le_of_ble_eq_true h2⟩
   · intro h2; exact Nat.ble_eq_true_of_le h2.2
 · rename_i h1
   constructor
   · intro h2; cases h2
   · intro h2; rw [Nat.ble_eq_true_of_le h2.1] at h1; cases h1
theorem anyR_iff {cs : List Cb} {h : Nat} : ∀ {l : List Nat}, anyR cs h l = true ↔ ∃ j ∈ l, ∃ c, cs[j]? = some c /\ inR c h = true
 | [] => by simp [anyR]
 | j :: l => by
  rw [anyR, nthC_eq]
  constructor
  · intro e
    split at e
    · rename_i c hc
      split at e
      · exact ⟨j, by simp, c, hc, ‹_›⟩
      · obtain ⟨k, h1, h2⟩ := anyR_iff.1 e; exact ⟨k, by simp [h1], h2⟩
    · obtain ⟨k, h1, h2⟩ := anyR_iff.1 e; exact ⟨k, by simp [h1], h2⟩
  · rintro ⟨k, h1, c, h2, h3⟩
    rw [List.mem_cons] at h1
    split
    · split
      · rfl
      · rename_i c' hc' _ hn
        rcases h1 with rfl | h1
        · rw [h2] at hc'; cases hc'; rw [h3] at hn; cases hn
        · exact anyR_iff.2 ⟨k, h1, c, h2, h3⟩
    · rename_i hn
      rcases h1 with rfl | h1
      · rw [h2] at hn; cases hn
      · exact anyR_iff.2 ⟨k, h1, c, h2, h3⟩
theorem pOk_cases {nb n0 n1 h : Nat} {cs : List Cb} {al : List Nat} (e : pOk nb cs al n0 n1 h = true) : h < nb \/ (n0 <= h /\ h < n1) \/ ∃ j ∈ al, ∃ c, cs[j]? = some c /\ inR c h = true := by
 unfold pOk at e
 split at e
 · rename_i h1; exact .inl (Nat.le_of_ble_eq_true h1)
 · split at e
   · rename_i h1; exact .inr (.inl ⟨Nat.le_of_ble_eq_true h1, Nat.le_of_ble_eq_true e⟩)
   · exact .inr (.inr (anyR_iff.1 e))
section
variable {P : Program} {tb : Tb} {ops : Array Oper} {X : Cx} {cts : List Ct}
structure Bs (base : St) (Eb : Env) (Lb : List (Nat × Value)) (UsB : List Th) : Prop where
 tot : ∀ h, h < base.n -> ∃ y, Eb h = some y
 sup : ∀ h, base.n <= h -> Eb h = none
 lr : LR Eb base.L Lb
 ts : TsR Eb base.T UsB
 al : ∀ p v, asc base.A p = some v -> AlOk Eb p v.1 v.2.1 v.2.2
structure CbR (E : Env) (c : Cb) (a : Act) (Us : List Th) : Prop where
 v : ∀ d, c.d = some d -> ∃ u, a.tmps.getD d undef = u /\ dV E c.v = some u
 ts : TsR E c.T Us
 al : ∀ p v, asc c.A p = some v -> AlOk E p v.1 v.2.1 v.2.2
def May (nb : Nat) (cs : List Cb) (c : Cb) (h : Nat) : Prop := h < nb \/ (c.n0 <= h /\ h < c.n1) \/ ∃ j ∈ c.al, ∃ c', cs[j]? = some c' /\ inR c' h = true
def CbK (nb : Nat) (cs : List Cb) (c : Cb) : Prop := ∃ p : Nat -> Bool, kV p c.v = true /\ allB (kT p) c.T = true /\ allB (kAl p) c.A = true /\ ∀ h, p h = true -> May nb cs c h
theorem kAl_get {p : Nat -> Bool} {q : Nat × (Nat × Int × Nat)} (h : kAl p q = true) : p q.1 = true /\ p q.2.1 = true := by
 unfold kAl at h
 split at h
 · exact ⟨‹_›, h⟩
 · cases h
theorem CbR.leP {nb : Nat} {cs : List Cb} {c : Cb} {E E' : Env} {a : Act} {Us : List Th} (H : CbR E c a Us) (k : CbK nb cs c) (hE : ∀ h x, May nb cs c h -> E h = some x -> E' h = some x) : CbR E' c a Us := by
 obtain ⟨p, k1, k2, k3, k4⟩ := k
 have hp : E.leP p E' := fun h x e => hE h x (k4 h e)
 exact ⟨fun d hd => let ⟨u, h1, h2⟩ := H.v d hd; ⟨u, h1, dV_leP hp k1 h2⟩, TsR_leP hp k2 H.ts, fun q v hq => by
  obtain ⟨h1, h2⟩ := kAl_get (allB_get k3 _ (asc_mem hq))
  exact AlOk_leP hp h1 h2 (H.al q v hq)⟩
theorem CbR.mono {c : Cb} {E E' : Env} {a : Act} {Us : List Th} (H : CbR E c a Us) (hE : E.le E') : CbR E' c a Us :=
 ⟨fun d hd => let ⟨u, h1, h2⟩ := H.v d hd; ⟨u, h1, dV_mono hE h2⟩, H.ts.mono hE, fun p v hp => (H.al p v hp).mono hE⟩
structure HOrd (nb : Nat) (cs : List Cb) (n : Nat) : Prop where
 le : nb <= n
 lo : ∀ (i : Nat) (c : Cb), cs[i]? = some c -> nb <= c.n0 /\ c.n0 <= c.n1 /\ c.n1 <= n
 sq : ∀ (i j : Nat) (c c' : Cb), j < i -> cs[i]? = some c -> cs[j]? = some c' -> c'.n1 <= c.n0
def StepY (P : Program) (ops : Array Oper) (X : Cx) (base : St) (Eb : Env) (Lb : List (Nat × Value)) (cs : List Cb) (c : Cb) (o : Oper) : Prop :=
 (∃ d, o.dst = some d /\ d < X.N) /\ ∀ (E : Env) (a : Act) (Us : Nat -> List Th), Eb.le E -> Fr X.N Lb a -> (∀ j ∈ c.vis, ∃ c', cs[j]? = some c' /\ CbR E c' a (Us j)) -> ∃ u, Yields P ops o u a /\ dV E c.v = some u
def StepC (P : Program) (ops : Array Oper) (X : Cx) (base : St) (Eb : Env) (Fb : SH) (Lb : List (Nat × Value)) (UsB : List Th) (cs : List Cb) (c : Cb) (o : Oper) : Prop :=
 ∀ (E : Env) (F : SH) (a : Act) (w : World) (Us : Nat -> List Th) (Uo : List Th), Eb.le E -> LeH Fb F -> Fr X.N Lb a -> (∀ j ∈ c.vis, ∃ c', cs[j]? = some c' /\ CbR E c' a (Us j) /\ ∀ h, inR c' h = true -> ∃ y, E h = some y) ->
  TsR Eb c.ow Uo -> Sep w F (blks (Uo ++ (c.vis.flatMap Us ++ UsB))) w F (Uo ++ (c.vis.flatMap Us ++ UsB)) -> ∀ S : Nat -> Prop, (∀ h, S h -> h < base.n \/ ∃ j ∈ c.vis, ∃ c', cs[j]? = some c' /\ inR c' h = true) ->
  wpList P ops (fun e a' w' => e = .normal /\ a'.defers = [] /\ ∃ E' F' Un, (∀ h x, S h -> E h = some x -> E' h = some x) /\ LeH F F' /\ CbR E' c a' Un /\ Sep w F (blks (Uo ++ (c.vis.flatMap Us ++ UsB))) w' F' (Un ++ (c.vis.flatMap Us ++ UsB))) [o] a w
theorem TsR.fn {E : Env} : ∀ {T : STs} {Us Vs : List Th}, TsR E T Us -> TsR E T Vs -> Us = Vs
 | [], _, _, h, k => h.trans k.symm
 | q :: T, _, _, ⟨U, A, e1, h1, h2⟩, ⟨V, C, e2, k1, k2⟩ => by
  rw [e1, e2, h1.fn k1, TsR.fn h2 k2]
theorem visL_ok {cs : List Cb} {E : Env} {a : Act} {N : Nat} {L : List (Nat × Value)} {L0 : List (Nat × Value)} (hf : Fr N L0 a) (hL : LR E L L0) : ∀ {vis : List Nat}, (∀ j ∈ vis, ∃ c', cs[j]? = some c' /\ ∃ U, CbR E c' a U) -> ∃ L', Fr N L' a /\ LR E (visL cs vis ++ L) L'
 | [], _ => ⟨L0, hf, hL⟩
 | j :: vis, h => by
  obtain ⟨L', h1, h2⟩ := visL_ok hf hL (vis := vis) fun k hk => h k (by simp [hk])
  obtain ⟨c', h3, U, h4⟩ := h j (by simp)
  rw [visL, nthC_eq, h3]
  dsimp only
  cases hd : c'.d with
  | none => exact ⟨L', h1, h2⟩
  | some d =>
   obtain ⟨u, h5, h6⟩ := h4.v d hd
   exact ⟨(d, u) :: L', ⟨h5, h1⟩, u, L', rfl, h6, h2⟩
theorem visT_ok {cs : List Cb} {E : Env} {a : Act} {T : STs} {UsB : List Th} {Us : Nat -> List Th} (hT : TsR E T UsB) : ∀ {vis : List Nat}, (∀ j ∈ vis, ∃ c', cs[j]? = some c' /\ CbR E c' a (Us j)) -> TsR E (visT cs vis ++ T) (vis.flatMap Us ++ UsB)
 | [], _ => hT
 | j :: vis, h => by
  obtain ⟨c', h3, h4⟩ := h j (by simp)
  rw [visT, nthC_eq, h3, List.flatMap_cons]
  dsimp only
  rw [List.append_assoc, List.append_assoc]
  exact h4.ts.app (visT_ok hT fun k hk => h k (by simp [hk]))
theorem visA_ok {cs : List Cb} {E : Env} {a : Act} {A : STA} (hA : ∀ p v, asc A p = some v -> AlOk E p v.1 v.2.1 v.2.2) : ∀ {vis : List Nat}, (∀ j ∈ vis, ∃ c', cs[j]? = some c' /\ ∃ U, CbR E c' a U) -> ∀ p v, asc (visA cs vis ++ A) p = some v -> AlOk E p v.1 v.2.1 v.2.2
 | [], _, p, v, hp => hA p v hp
 | j :: vis, h, p, v, hp => by
  obtain ⟨c', h3, U, h4⟩ := h j (by simp)
  rw [visA, nthC_eq, h3] at hp
  dsimp only at hp
  rw [List.append_assoc] at hp
  rcases asc_app hp with h5 | ⟨_, h5⟩
  · exact h4.al p v h5
  · exact visA_ok hA (fun k hk => h k (by simp [hk])) p v h5
theorem keepT_all : ∀ {T : STs}, keysD (T.map (·.1)) = true -> ∀ {pre : STs}, (∀ h ∈ T.map (·.1), asc pre h = none) -> keepT (pre ++ T) (T.map (·.1)) = some T
 | [], _, _, _ => rfl
 | q :: T, hk, pre, hp => by
  rw [List.map_cons, keysD] at hk
  split at hk
  · cases hk
  · rename_i hm
    have h1 : asc (pre ++ q :: T) q.1 = some q.2 := by
     rw [asc_app2 (hp q.1 (by simp))]
     exact asc_hd
    have h2 := keepT_all hk (pre := pre ++ [q]) fun h hh => by
     cases e : asc (pre ++ [q]) h with
     | none => rfl
     | some z =>
      rcases asc_app e with h3 | ⟨_, h3⟩
      · rw [hp h (by simp only [List.map_cons, List.mem_cons]; exact .inr hh)] at h3; cases h3
      · rw [asc] at h3
        split at h3
        · rename_i hb
          rw [<- Nat.eq_of_beq_eq_true hb] at hh
          rw [memH_of hh] at hm; cases hm
        · cases h3
    rw [List.append_assoc] at h2
    rw [List.map_cons, keepT, h1]
    dsimp only
    rw [show pre ++ q :: T = pre ++ ([q] ++ T) from rfl, h2]
theorem apartT_get {ow : STs} : ∀ {l : List Nat}, apartT ow l = true -> ∀ h ∈ l, asc ow h = none
 | [], _, h, hh => by simp at hh
 | k :: l, e, h, hh => by
  rw [apartT] at e
  split at e
  · rename_i hk
    rw [List.mem_cons] at hh
    rcases hh with rfl | hh
    · exact hk
    · exact apartT_get e h hh
  · cases e
theorem seen {base : St} {Eb : Env} {Lb : List (Nat × Value)} {UsB : List Th} (B : Bs base Eb Lb UsB) {cs : List Cb} {vis : List Nat} {n : Nat} (hO : HOrd base.n cs n) (hK : ∀ (i : Nat) (c : Cb), cs[i]? = some c -> CbK base.n cs c)
    (hv : ∀ j ∈ vis, ∃ c', cs[j]? = some c' /\ ∀ k ∈ c'.al, k ∈ vis) {E : Env} {a : Act} {Us : Nat -> List Th} (hE : Eb.le E) (hvis : ∀ j ∈ vis, ∃ c', cs[j]? = some c' /\ CbR E c' a (Us j)) :
    ∃ Er : Env, (∀ h x, (h < base.n \/ ∃ j ∈ vis, ∃ c', cs[j]? = some c' /\ inR c' h = true) -> E h = some x -> Er h = some x) /\ Er.le E /\ Eb.le Er /\ (∀ h, n <= h -> Er h = none) /\ ∀ j ∈ vis, ∃ c', cs[j]? = some c' /\ CbR Er c' a (Us j) := by
 let pv : Nat -> Bool := fun h => Nat.blt h base.n || anyR cs h vis
 have hpv : ∀ {h}, pv h = true ↔ (h < base.n \/ ∃ j ∈ vis, ∃ c', cs[j]? = some c' /\ inR c' h = true) := by
  intro h
  show (Nat.blt h base.n || anyR cs h vis) = true ↔ _
  rw [Bool.or_eq_true, anyR_iff]
  constructor
  · rintro (h1 | h1)
    · exact .inl (Nat.le_of_ble_eq_true h1)
    · exact .inr h1
  · rintro (h1 | h1)
    · exact .inl (Nat.ble_eq_true_of_le h1)
    · exact .inr h1
 let Er : Env := fun h => if pv h = true then E h else none
 have hEr : ∀ h x, (h < base.n \/ ∃ j ∈ vis, ∃ c', cs[j]? = some c' /\ inR c' h = true) -> E h = some x -> Er h = some x := fun h x hp e => by show (if pv h = true then _ else _) = _; rw [if_pos (hpv.2 hp)]; exact e
 refine ⟨Er, hEr, fun h x e => ?_, fun h x e => ?_, fun h hh => ?_, fun j hj => ?_⟩
 · have e : (if pv h = true then E h else none) = some x := e
   by_cases hp : pv h = true
   · rw [if_pos hp] at e; exact e
   · rw [if_neg hp] at e; cases e
 · rcases Nat.lt_or_ge h base.n with hl | hl
   · exact hEr h x (.inl hl) (hE h x e)
   · rw [B.sup h hl] at e; cases e
 · show (if pv h = true then _ else _) = _
   rw [if_neg]
   intro hp
   rcases hpv.1 hp with q1 | ⟨j, _, c', q3, q4⟩
   · have := hO.le; omega
   · have := (hO.lo j c' q3).2.2; have := (inR_iff.1 q4).2; omega
 · obtain ⟨c', h1, h2⟩ := hvis j hj
   obtain ⟨c2, h3, h4⟩ := hv j hj
   rw [h1] at h3
   cases h3
   refine ⟨c', h1, h2.leP (hK j c' h1) fun h x hp e => hEr h x ?_ e⟩
   rcases hp with q1 | q2 | ⟨k, q3, c3, q4, q5⟩
   · exact .inl q1
   · exact .inr ⟨j, hj, c', h1, inR_iff.2 q2⟩
   · exact .inr ⟨k, h4 k q3, c3, q4, q5⟩
theorem step_fl (htb : TbOk P tb) {base : St} {Eb : Env} {Lb : List (Nat × Value)} {UsB : List Th} (B : Bs base Eb Lb UsB) {cs : List Cb} {vis al : List Nat} {n : Nat} {o : Oper} {c : Cb} (hm : mkFl tb X.N ops base cs vis al n o = some c) :
    StepY P ops X base Eb Lb cs c o /\ CbK base.n cs c /\ c.n0 = n /\ c.n1 = n /\ c.d = o.dst /\ c.vis = vis /\ c.al = al /\ c.T = [] /\ c.A = [] /\ c.ow = [] := by
 unfold mkFl at hm
 dsimp only at hm
 split at hm
 · rename_i hg
   split at hm
   · rename_i d hd
     split at hm
     · rename_i hdN
       split at hm
       · rename_i v hv
         split at hm
         · rename_i k1
           cases hm
           refine ⟨⟨⟨d, hd, Nat.le_of_ble_eq_true hdN⟩, fun E a Us hE hf hvis => ?_⟩, ⟨_, k1, rfl, rfl, fun h hp => pOk_cases hp⟩, rfl, rfl, hd.symm, rfl, rfl, rfl, rfl, rfl⟩
           obtain ⟨L1, f1, f2⟩ := visL_ok hf (B.lr.mono hE) fun j hj => let ⟨c', h1, h2⟩ := hvis j hj; ⟨c', h1, _, h2⟩
           obtain ⟨u, h1, h2⟩ := pureS_rel f2 hv
           exact ⟨u, yields_t htb f1 (grd_rel f2 hg) h1, h2⟩
         · cases hm
       · cases hm
     · cases hm
   · cases hm
 · cases hm
theorem step_mk (htb : TbOk P tb) (hc : HL P cts) {base : St} {Eb : Env} {Fb : SH} {Lb : List (Nat × Value)} {UsB : List Th} (B : Bs base Eb Lb UsB) {cs : List Cb} {vis al : List Nat} {ow : STs} {n : Nat} {o : Oper} {h : Option Hn} {st' : St} {c : Cb} (hO : HOrd base.n cs n) (hK : ∀ (i : Nat) (c : Cb), cs[i]? = some c -> CbK base.n cs c)
    (hv : ∀ j ∈ vis, ∃ c', cs[j]? = some c' /\ ∀ k ∈ c'.al, k ∈ vis) (he : (exO tb X.N cts ops o h (qSt base cs vis ow n)).Ends st') (hm : mkCb base cs vis al ow n o (qSt base cs vis ow n) st' = some c) :
    StepC P ops X base Eb Fb Lb UsB cs c o /\ CbK base.n cs c /\ c.n0 = n /\ n <= c.n1 /\ c.d = o.dst /\ c.vis = vis /\ c.al = al /\ c.ow = ow := by
 unfold mkCb at hm
 dsimp only at hm
 split at hm
 · rename_i hkd
   split at hm
   · rename_i hap
     split at hm
     · rename_i st1 htk
       split at hm
       · rename_i v hvo
         split at hm
         · rename_i hle
           split at hm
           · rename_i k1
             split at hm
             · rename_i k2
               split at hm
               · rename_i k3
                 cases hm
                 refine ⟨?_, ⟨_, k1, k2, k3, fun h hp => pOk_cases hp⟩, rfl, Nat.le_of_ble_eq_true hle, rfl, rfl, rfl, rfl⟩
                 intro E F a w Us Uo hE hF hfr hvis hUo hs S hS
                 dsimp only at hvis hs hS hUo ⊢
                 obtain ⟨Er, hEr, hErE, hEb, hnew, hvis'⟩ := seen B hO hK hv hE fun j hj => let ⟨c', h1, h2, _⟩ := hvis j hj; ⟨c', h1, h2⟩
                 have hvisU : ∀ j ∈ vis, ∃ c', cs[j]? = some c' /\ ∃ U, CbR Er c' a U := fun j hj => let ⟨c', h1, h2⟩ := hvis' j hj; ⟨c', h1, _, h2⟩
                 obtain ⟨L1, f1, f2⟩ := visL_ok hfr (B.lr.mono hEb) hvisU
                 let L := visL cs vis ++ base.L
                 let T := ow ++ (visT cs vis ++ base.T)
                 have hT0 : TsR Er (visT cs vis ++ base.T) (vis.flatMap Us ++ UsB) := visT_ok (B.ts.mono hEb) hvis'
                 have hT : TsR Er T (Uo ++ (vis.flatMap Us ++ UsB)) := (hUo.mono hEb).app hT0
                 let g : Gh := ⟨Er, fun t => if n <= t then (L[t - n]?).map (·.2) else none, fun t => if n + L.length <= t then (T[t - (n + L.length)]?).map (·.2) else none⟩
                 have H : Rel ⟨w, F, blks (Uo ++ (vis.flatMap Us ++ UsB)), X.N⟩ g F (qSt base cs vis ow n) a w := by
                  refine ⟨?_, ⟨L1, f1, f2⟩, ?_, ⟨_, hs, hT⟩, ?_, ?_⟩
                  · intro h hh
                    have hh : n + L.length + T.length <= h := hh
                    refine ⟨hnew h (by omega), ?_, ?_⟩
                    · show (if n <= h then _ else _) = _
                      rw [if_pos (by omega), List.getElem?_eq_none (by omega)]; rfl
                    · show (if n + L.length <= h then _ else _) = _
                      rw [if_pos (by omega), List.getElem?_eq_none (by omega)]; rfl
                  · intro d v hv
                    obtain ⟨i, q, h3, h4⟩ := tgs_some (n := n) hv
                    refine ⟨n + i, h4, ?_⟩
                    show (if n <= n + i then _ else _) = _
                    rw [if_pos (by omega), Nat.add_sub_cancel_left]
                    show (L[i]?).map _ = _
                    rw [show L[i]? = some (q, v) from h3]; rfl
                  · intro d v hv
                    obtain ⟨i, q, h3, h4⟩ := tgs_some (n := n + L.length) hv
                    refine ⟨n + L.length + i, h4, ?_⟩
                    show (if n + L.length <= n + L.length + i then _ else _) = _
                    rw [if_pos (by omega), Nat.add_sub_cancel_left]
                    show (T[i]?).map _ = _
                    rw [show T[i]? = some (q, v) from h3]; rfl
                  · exact visA_ok (fun p v hp => (B.al p v hp).mono hEb) hvisU
                 refine ok_o (X := ⟨w, F, blks (Uo ++ (vis.flatMap Us ++ UsB)), X.N⟩) htb hc h H he fun g' F' a' w' hg hF H' => wpList_nil ?_
                 obtain ⟨L2, f3, f4⟩ := H'.fr
                 obtain ⟨Bn, H2, hBn⟩ := tkAll_ok H hg H'.b htk (keepT_all hkd (pre := ow) (apartT_get hap))
                 have hBn' : Bn = vis.flatMap Us ++ UsB := TsR.fn hBn hT0
                 obtain ⟨Un, hs2, hUn⟩ := H2.sp
                 rw [List.nil_append, hBn'] at hs2
                 refine ⟨rfl, f3.base.2, g'.E, F', Un, fun h x hp e => hg.E h x (hEr h x (hS h hp) e), hF, ⟨fun d hd => ?_, hUn, fun p x hp => ?_⟩, hs2⟩
                 · dsimp only at hd
                   unfold vOf at hvo
                   rw [hd] at hvo
                   obtain ⟨u, e1, e2⟩ := f4.look hvo
                   exact ⟨u, f3.look e1, e2⟩
                 · refine H'.al p x ?_
                   rw [<- List.take_append_drop (st'.A.length - (qSt base cs vis ow n).A.length) st'.A]
                   exact asc_app1 hp
               · cases hm
             · cases hm
           · cases hm
         · cases hm
       · cases hm
     · cases hm
   · cases hm
 · cases hm
end
end Dm

namespace Dm
open Go Go.RowKit
theorem upd_at {f : Nat -> Bool} {i : Nat} : upd f i i = true := by
 unfold upd
 rw [show Nat.beq i i = true from Nat.beq_refl i]
theorem upd_ne {f : Nat -> Bool} {i j : Nat} (h : j ≠ i) : upd f i j = f j := by
 unfold upd
 split
 · rename_i hb; exact absurd (Nat.eq_of_beq_eq_true hb) h
 · rfl
section
variable {P : Program} {tb : Tb} {X : Cx} {cts : List Ct} {base : St} {Eb : Env} {Fb : SH} {Lb : List (Nat × Value)} {UsB : List Th} {l : List Oper}
structure VisOk (l : List Oper) (cs : List Cb) (i : Nat) (c : Cb) : Prop where
 nd : c.vis.Nodup
 al : ∀ k ∈ c.al, k ∈ c.vis
 lt : ∀ j ∈ c.vis, j < i
 sub : ∀ j ∈ c.vis, ∃ c', cs[j]? = some c' /\ ∀ k ∈ c'.al, k ∈ c.vis
 bef : ∀ j ∈ c.vis, Region.waitsFor .any l.toArray i j = true \/ ∃ k ∈ c.vis, Region.waitsFor .any l.toArray i k = true /\ ∃ c2, cs[k]? = some c2 /\ j ∈ c2.vis
def KOk (P : Program) (X : Cx) (base : St) (Eb : Env) (Fb : SH) (Lb : List (Nat × Value)) (UsB : List Th) (l : List Oper) (cs : List Cb) (c : Cb) (o : Oper) (q : Vk × STs) : Prop := match q.1 with
 | .op _ _ _ => StepC P l.toArray X base Eb Fb Lb UsB cs c o /\ c.d = o.dst /\ c.ow = q.2
 | .fl _ _ => StepY P l.toArray X base Eb Lb cs c o /\ c.d = o.dst /\ c.T = [] /\ c.A = [] /\ c.ow = []
 | .sk => c.d = none /\ c.T = [] /\ c.A = [] /\ c.ow = []
structure GCs (P : Program) (X : Cx) (base : St) (Eb : Env) (Fb : SH) (Lb : List (Nat × Value)) (UsB : List Th) (l : List Oper) (vs : List (Vk × STs)) (cs : List Cb) (n : Nat) : Prop where
 ord : HOrd base.n cs n
 k : ∀ (i : Nat) (c : Cb), cs[i]? = some c -> CbK base.n cs c
 st : ∀ (i : Nat) (c : Cb) (o : Oper) (q : Vk × STs), cs[i]? = some c -> l[i]? = some o -> vs[i]? = some q -> KOk P X base Eb Fb Lb UsB l cs c o q
 vis : ∀ (i : Nat) (c : Cb), cs[i]? = some c -> VisOk l cs i c
theorem getA {cs : List Cb} {c c' : Cb} {j : Nat} (h : cs[j]? = some c') : (cs ++ [c])[j]? = some c' := by
 rw [List.getElem?_append_left (get_lt h)]; exact h
theorem getA' {cs : List Cb} {c c' : Cb} {j : Nat} (h : (cs ++ [c])[j]? = some c') : cs[j]? = some c' \/ (j = cs.length /\ c' = c) := by
 rcases Nat.lt_or_ge j cs.length with h1 | h1
 · rw [List.getElem?_append_left h1] at h; exact .inl h
 · rw [List.getElem?_append_right h1] at h
   have h2 : j - cs.length = 0 := by
    have := get_lt h
    simp at this; omega
   rw [h2] at h
   exact .inr ⟨by omega, by simpa using h.symm⟩
theorem CbK.app {nb : Nat} {cs : List Cb} {c d : Cb} (h : CbK nb cs c) : CbK nb (cs ++ [d]) c := by
 obtain ⟨p, k1, k2, k3, k4⟩ := h
 refine ⟨p, k1, k2, k3, fun h hp => ?_⟩
 rcases k4 h hp with q | q | ⟨j, q1, c', q2, q3⟩
 · exact .inl q
 · exact .inr (.inl q)
 · exact .inr (.inr ⟨j, q1, c', getA q2, q3⟩)
theorem StepC.app {ops : Array Oper} {cs : List Cb} {c d : Cb} {o : Oper} (hv : ∀ j ∈ c.vis, ∃ c', cs[j]? = some c') (h : StepC P ops X base Eb Fb Lb UsB cs c o) : StepC P ops X base Eb Fb Lb UsB (cs ++ [d]) c o := by
 intro E F a w Us Uo h1 h2 h3 h4 h5 h6 S hS
 have key : ∀ j ∈ c.vis, ∀ c', (cs ++ [d])[j]? = some c' -> cs[j]? = some c' := fun j hj c' h => by
  obtain ⟨c2, h6⟩ := hv j hj
  have := getA (c := d) h6
  rw [h] at this
  cases this
  exact h6
 refine h E F a w Us Uo h1 h2 h3 (fun j hj => ?_) h5 h6 S fun h hh => ?_
 · obtain ⟨c', k1, k2⟩ := h4 j hj
   exact ⟨c', key j hj c' k1, k2⟩
 · rcases hS h hh with q | ⟨j, q1, c', q2, q3⟩
   · exact .inl q
   · exact .inr ⟨j, q1, c', key j q1 c' q2, q3⟩
theorem StepY.app {ops : Array Oper} {cs : List Cb} {c d : Cb} {o : Oper} (hv : ∀ j ∈ c.vis, ∃ c', cs[j]? = some c') (h : StepY P ops X base Eb Lb cs c o) : StepY P ops X base Eb Lb (cs ++ [d]) c o := by
 refine ⟨h.1, fun E a Us h1 h2 h3 => h.2 E a Us h1 h2 fun j hj => ?_⟩
 obtain ⟨c', k1, k2⟩ := h3 j hj
 obtain ⟨c2, h6⟩ := hv j hj
 have := getA (c := d) h6
 rw [k1] at this
 cases this
 exact ⟨c', h6, k2⟩
theorem KOk.app {cs : List Cb} {c d : Cb} {o : Oper} {q : Vk × STs} (hv : ∀ j ∈ c.vis, ∃ c', cs[j]? = some c') (h : KOk P X base Eb Fb Lb UsB l cs c o q) : KOk P X base Eb Fb Lb UsB l (cs ++ [d]) c o q := by
 unfold KOk at *
 split
 · rename_i hq; rw [hq] at h; exact ⟨h.1.app hv, h.2⟩
 · rename_i hq; rw [hq] at h; exact ⟨h.1.app hv, h.2⟩
 · rename_i hq; rw [hq] at h; exact h
theorem VisOk.app {cs : List Cb} {c d : Cb} {i : Nat} (V : VisOk l cs i c) : VisOk l (cs ++ [d]) i c := by
 refine ⟨V.nd, V.al, V.lt, fun k hk => let ⟨c2, a1, a2⟩ := V.sub k hk; ⟨c2, getA a1, a2⟩, fun k hk => ?_⟩
 rcases V.bef k hk with a1 | ⟨q, a1, a2, c2, a3, a4⟩
 · exact .inl a1
 · exact .inr ⟨q, a1, a2, c2, getA a3, a4⟩
theorem GCs.push {vs : List (Vk × STs)} {cs : List Cb} {n i : Nat} {c : Cb} (G : GCs P X base Eb Fb Lb UsB l vs cs n) (hlen : cs.length = i) (h0 : c.n0 = n) (h1 : n <= c.n1) (hk : CbK base.n cs c) (hst : ∀ o q, l[i]? = some o -> vs[i]? = some q -> KOk P X base Eb Fb Lb UsB l cs c o q) (hv : VisOk l cs i c) :
    GCs P X base Eb Fb Lb UsB l vs (cs ++ [c]) c.n1 := by
 refine ⟨⟨Nat.le_trans G.ord.le h1, fun j c' h => ?_, fun a b ca cb hab ha hb => ?_⟩, fun j c' h => ?_, fun j c' o' q h ho' hq => ?_, fun j c' h => ?_⟩
 · rcases getA' h with h | ⟨_, rfl⟩
   · have := G.ord.lo j c' h; exact ⟨this.1, this.2.1, Nat.le_trans this.2.2 h1⟩
   · rw [h0]; exact ⟨G.ord.le, h1, Nat.le_refl _⟩
 · rcases getA' ha with ha | ⟨ha', rfl⟩
   · rcases getA' hb with hb | ⟨hb', _⟩
     · exact G.ord.sq a b ca cb hab ha hb
     · have := get_lt ha; omega
   · rcases getA' hb with hb | ⟨hb', _⟩
     · rw [h0]; exact (G.ord.lo b cb hb).2.2
     · omega
 · rcases getA' h with h | ⟨_, rfl⟩
   · exact (G.k j c' h).app
   · exact hk.app
 · rcases getA' h with h | ⟨hi, rfl⟩
   · exact (G.st j c' o' q h ho' hq).app fun k hk => let ⟨c', h, _⟩ := (G.vis j c' h).sub k hk; ⟨c', h⟩
   · rw [hi, hlen] at ho' hq
     exact (hst o' q ho' hq).app fun k hk => let ⟨c', h, _⟩ := hv.sub k hk; ⟨c', h⟩
 · rcases getA' h with h | ⟨hi, rfl⟩
   · exact (G.vis j c' h).app
   · rw [hi, hlen]; exact hv.app
theorem setV_same {d : Nat} {v : Value} : ∀ {cs : List Cb}, getV cs d = some v -> setV d v cs = cs
 | [], h => by cases h
 | ⟨n0, n1, none, u, T, A, vis, al, ow⟩ :: cs, h => by
  have h' : getV cs d = some v := h
  have : setV d v (⟨n0, n1, none, u, T, A, vis, al, ow⟩ :: cs) = ⟨n0, n1, none, u, T, A, vis, al, ow⟩ :: setV d v cs := rfl
  rw [this, setV_same h']
 | ⟨n0, n1, some d', u, T, A, vis, al, ow⟩ :: cs, h => by
  have h' : (match Nat.beq d' d with
   | true => some u
   | false => getV cs d) = some v := h
  have : setV d v (⟨n0, n1, some d', u, T, A, vis, al, ow⟩ :: cs) = (match Nat.beq d' d with
   | true => ⟨n0, n1, some d', v, T, A, vis, al, ow⟩ :: cs
   | false => ⟨n0, n1, some d', u, T, A, vis, al, ow⟩ :: setV d v cs) := rfl
  rw [this]
  split at h'
  · cases h'; rfl
  · rw [setV_same h']
theorem chk_ok {cs : List Cb} {i : Nat} {vis al : List Nat} (hchk : chkV l.toArray cs i vis al = true) : vis.Nodup /\ (∀ k ∈ al, k ∈ vis) /\ (∀ j ∈ vis, ∃ c', cs[j]? = some c' /\ (∀ k ∈ c'.al, k ∈ vis)) /\
    ∀ j ∈ vis, Region.waitsFor .any l.toArray i j = true \/ ∃ k ∈ vis, Region.waitsFor .any l.toArray i k = true /\ ∃ c2, cs[k]? = some c2 /\ j ∈ c2.vis := by
 unfold chkV at hchk
 split at hchk
 · rename_i c1
   split at hchk
   · rename_i c2
     have hj : ∀ j ∈ vis, ∃ c', cs[j]? = some c' /\ (∀ k ∈ c'.al, k ∈ vis) /\ befB l.toArray cs i vis j = true := fun j hj => by
      have := allB_get hchk j hj
      rw [nthC_eq] at this
      split at this
      · rename_i c' hc'
        split at this
        · exact ⟨c', hc', subN_get ‹_›, this⟩
        · cases this
      · cases this
     refine ⟨keysD_nodup c1, subN_get c2, fun j h => let ⟨c', a1, a2, _⟩ := hj j h; ⟨c', a1, a2⟩, fun k hk => ?_⟩
     obtain ⟨_, _, _, a3⟩ := hj k hk
     unfold befB at a3
     split at a3
     · exact .inl ‹_›
     · obtain ⟨q, b1, b2⟩ := List.any_eq_true.1 a3
       split at b2
       · split at b2
         · rename_i c3 hc3
           rw [nthC_eq] at hc3
           exact .inr ⟨q, b1, ‹_›, c3, hc3, memH_mem b2⟩
         · cases b2
       · cases b2
   · cases hchk
 · cases hchk
theorem exHd_ok {ρ : Type} {r : ρ} {K : List Cb -> Nat -> Hs -> Option ρ} {Goal : Prop} {vs : List (Vk × STs)} (htb : TbOk P tb) (hc : HL P cts) (B : Bs base Eb Lb UsB) : ∀ {lr : List Oper} {i : Nat} {vr : List (Vk × STs)} {hs : Hs} {cs : List Cb} {n : Nat}, exHd tb X.N cts l.toArray base lr i vr hs cs n K = some r ->
    (∀ k o, lr[k]? = some o -> l[i + k]? = some o) -> (∀ k q, vr[k]? = some q -> vs[i + k]? = some q) -> cs.length = i -> GCs P X base Eb Fb Lb UsB l vs cs n -> (∀ cs' n' hs', cs'.length = i + lr.length -> GCs P X base Eb Fb Lb UsB l vs cs' n' -> K cs' n' hs' = some r -> Goal) -> Goal
 | [], i, vr, hs, cs, n, h, hl, hq, hlen, G, k => k cs n hs (by rw [hlen]; rfl) G (by unfold exHd at h; exact h)
 | o :: lr, i, vr, hs, cs, n, h, hl, hq, hlen, G, k => by
  unfold exHd at h
  split at h
  · cases h
  · rename_i kd ow vr'
    have ho : l[i]? = some o := hl 0 o rfl
    have hk0 : vs[i]? = some (kd, ow) := hq 0 _ rfl
    have next : ∀ {c : Cb} {hs' : Hs}, exHd tb X.N cts l.toArray base lr (i + 1) vr' hs' (cs ++ [c]) c.n1 K = some r -> c.n0 = n -> n <= c.n1 -> CbK base.n cs c -> (∀ o' q, l[i]? = some o' -> vs[i]? = some q -> KOk P X base Eb Fb Lb UsB l cs c o' q) -> VisOk l cs i c -> Goal := fun {c hs'} h2 a1 a2 a3 a4 a5 =>
     exHd_ok htb hc B h2 (fun k o' hk => by rw [show i + 1 + k = i + (k + 1) by omega]; exact hl (k + 1) o' hk) (fun k o' hk => by rw [show i + 1 + k = i + (k + 1) by omega]; exact hq (k + 1) o' hk) (by rw [List.length_append, hlen]; rfl) (G.push hlen a1 a2 a3 a4 a5) (fun cs' n' hs' h5 h6 h7 => k cs' n' hs' (by rw [h5, List.length_cons]; omega) h6 h7)
    have visOf : ∀ {vis al : List Nat} {c : Cb}, chkV l.toArray cs i vis al = true -> c.vis = vis -> c.al = al -> VisOk l cs i c := fun {vis al c} h e1 e2 => by
     obtain ⟨a1, a2, a3, a4⟩ := chk_ok h
     refine ⟨by rw [e1]; exact a1, by rw [e1, e2]; exact a2, fun k hk => ?_, fun k hk => ?_, fun k hk => ?_⟩
     · rw [e1] at hk; obtain ⟨c2, b1, _⟩ := a3 k hk; have := get_lt b1; omega
     · rw [e1] at hk ⊢; exact a3 k hk
     · rw [e1] at hk ⊢; exact a4 k hk
    split at h
    · -- of the rest
      refine next (c := ⟨n, n, none, undef, [], [], [], [], []⟩) h rfl (Nat.le_refl _) ⟨fun _ => false, rfl, rfl, rfl, fun h hh => by cases hh⟩ (fun o' q h1 h2 => ?_) ⟨List.nodup_nil, fun k hk => by simp at hk, fun k hk => by simp at hk, fun k hk => by simp at hk, fun k hk => by simp at hk⟩
      rw [hk0] at h2
      cases h2
      exact ⟨rfl, rfl, rfl, rfl⟩
    · -- a float
      rename_i vis al
      split at h
      · rename_i hchk
        split at h
        · rename_i c hm
          obtain ⟨s1, s2, s3, s4, s5, s6, s7, s8, s9, s10⟩ := step_fl (P := P) (X := X) (ops := l.toArray) htb B hm
          refine next (c := c) (by rw [s4]; exact h) s3 (by rw [s4]; exact Nat.le_refl _) s2 (fun o' q h1 h2 => ?_) (visOf hchk s6 s7)
          rw [hk0] at h2
          rw [ho] at h1
          cases h2
          cases h1
          exact ⟨s1, s5, s8, s9, s10⟩
        · cases h
      · cases h
    · rename_i vis al own
      have go : ∀ {hs : Hs}, (match chkV l.toArray cs i vis al with
          | true => (match hintOf i hs with
           | (h, hs') => (exO tb X.N cts l.toArray o h (qSt base cs vis ow n)).run fun st' => match mkCb base cs vis al ow n o (qSt base cs vis ow n) st' with
            | some c => exHd tb X.N cts l.toArray base lr (i + 1) vr' hs' (cs ++ [c]) c.n1 K
            | none => none)
          | false => none) = some r -> Goal := by
       intro hs h
       split at h
       · rename_i hchk
         obtain ⟨st', he, h2⟩ := OR.run_ends h
         split at h2
         · rename_i c hm
           obtain ⟨s1, s2, s3, s4, s5, s6, s7, s8⟩ := step_mk (P := P) (X := X) (Fb := Fb) htb hc B G.ord G.k (chk_ok hchk).2.2.1 he hm
           refine next h2 s3 s4 s2 (fun o' q h1 h2 => ?_) (visOf hchk s6 s7)
           rw [hk0] at h2
           rw [ho] at h1
           cases h2
           cases h1
           exact ⟨s1, s5, s8⟩
         · cases h2
       · cases h
      dsimp only at h
      split at h
      · split at h
        · split at h
          · rename_i e he
            split at h
            · rename_i hb
              subst hb
              rw [setV_same he] at h
              exact go h
            · rename_i hb
              have : e = false := by cases e; rfl; exact absurd rfl hb
              subst this
              rw [setV_same he] at h
              exact go h
          · cases h
        · cases h
      · exact go h
def HInv (X : Cx) (base : St) (Eb : Env) (Fb : SH) (Lb : List (Nat × Value)) (UsB : List Th) (cs : List Cb) (done : Nat -> Bool) (a : Act) (w : World) : Prop :=
 ∃ (E : Env) (F : SH) (Us : Nat -> List Th), Eb.le E /\ LeH Fb F /\ Fr X.N Lb a /\ Sep X.w0 X.F0 X.R w F (flat Us cs.length ++ UsB) /\
  (∀ (j : Nat) (c : Cb), cs[j]? = some c -> done j = true -> CbR E c a (Us j) /\ ∀ h, inR c h = true -> ∃ y, E h = some y) /\
  (∀ (j : Nat) (c : Cb), cs[j]? = some c -> done j = false -> TsR Eb c.ow (Us j)) /\
  (∀ h y, E h = some y -> h < base.n \/ ∃ (j : Nat) (c : Cb), cs[j]? = some c /\ done j = true /\ inR c h = true) /\
  (∀ (j : Nat) (c : Cb), cs[j]? = some c -> done j = true -> ∀ k ∈ c.vis, done k = true)
theorem CbR.act {c : Cb} {E : Env} {a a' : Act} {Us : List Th} (H : CbR E c a Us) (h : ∀ d, c.d = some d -> a'.tmps.getD d undef = a.tmps.getD d undef) : CbR E c a' Us :=
 ⟨fun d hd => let ⟨u, h1, h2⟩ := H.v d hd; ⟨u, by rw [h d hd]; exact h1, h2⟩, H.ts, H.al⟩
def dum : HV := ⟨none, 0, 0⟩
theorem othG_get {d : Nat} : ∀ {os : List Oper} {ks : List Vk}, dstsG.othG d os ks = true -> ∀ (j : Nat) (o : Oper) (k : Vk), os[j]? = some o -> ks[j]? = some k -> k ≠ .sk -> o.dst ≠ some d
 | [], ks, _, j, o, k, h, _, _ => by simp at h
 | o1 :: os, [], h, j, o, k, _, hk, _ => by simp at hk
 | o1 :: os, k1 :: ks, h, j, o, k, ho, hk, hne => by
  unfold dstsG.othG at h
  dsimp only at h
  cases j with
  | zero =>
   have e1 : o1 = o := by simpa using ho
   have e2 : k1 = k := by simpa using hk
   subst e1 e2
   split at h
   · exact absurd rfl hne
   · split at h
     · rename_i hd; rw [hd]; simp
     · rename_i d' hd
       rw [hd]
       simp only [Bool.and_eq_true, Bool.not_eq_true'] at h
       intro e
       cases e
       rw [Nat.beq_refl] at h; cases h.1
  | succ j =>
   have ho : os[j]? = some o := by simpa using ho
   have hk : ks[j]? = some k := by simpa using hk
   split at h
   · exact othG_get h j o k ho hk hne
   · split at h
     · exact othG_get h j o k ho hk hne
     · rw [Bool.and_eq_true] at h
       exact othG_get h.2 j o k ho hk hne
theorem dstsG_get {N : Nat} {L0 : List (Nat × Value)} : ∀ {os : List Oper} {ks : List Vk}, dstsG N L0 os ks = true -> ∀ (i : Nat) (o : Oper) (k : Vk) (d : Nat), os[i]? = some o -> ks[i]? = some k -> k ≠ .sk -> o.dst = some d ->
    d < N /\ L0.all (fun p => !Nat.beq p.1 d) = true /\ ∀ (j : Nat) (o' : Oper) (k' : Vk), i < j -> os[j]? = some o' -> ks[j]? = some k' -> k' ≠ .sk -> o'.dst ≠ some d
 | [], ks, _, i, o, k, d, h, _, _, _ => by simp at h
 | o1 :: os, [], h, i, o, k, d, _, hk, _, _ => by simp at hk
 | o1 :: os, k1 :: ks, h, i, o, k, d, ho, hk, hne, hd => by
  unfold dstsG at h
  dsimp only at h
  cases i with
  | zero =>
   have e1 : o1 = o := by simpa using ho
   have e2 : k1 = k := by simpa using hk
   subst e1 e2
   split at h
   · exact absurd rfl hne
   · rw [hd] at h
     simp only [Bool.and_eq_true] at h
     obtain ⟨⟨⟨h1, h2⟩, h3⟩, _⟩ := h
     refine ⟨Nat.le_of_ble_eq_true h1, h2, fun j o' k' hj ho' hk' hne' => ?_⟩
     obtain ⟨j, rfl⟩ : ∃ q, j = q + 1 := ⟨j - 1, by omega⟩
     exact othG_get h3 j o' k' (by simpa using ho') (by simpa using hk') hne'
  | succ i =>
   have ho : os[i]? = some o := by simpa using ho
   have hk : ks[i]? = some k := by simpa using hk
   have hrec : dstsG N L0 os ks = true := by
    split at h
    · exact h
    · split at h
      · exact h
      · simp only [Bool.and_eq_true] at h; exact h.2
   obtain ⟨h1, h2, h3⟩ := dstsG_get hrec i o k d ho hk hne hd
   refine ⟨h1, h2, fun j o' k' hj ho' hk' hne' => ?_⟩
   obtain ⟨j, rfl⟩ : ∃ q, j = q + 1 := ⟨j - 1, by omega⟩
   exact h3 j o' k' (by omega) (by simpa using ho') (by simpa using hk') hne'
theorem dstsG_ne {N : Nat} {L0 : List (Nat × Value)} {os : List Oper} {ks : List Vk} (hB : dstsG N L0 os ks = true) {i j : Nat} {oi oj : Oper} {ki kj : Vk} {d : Nat} (hi : os[i]? = some oi) (hj : os[j]? = some oj) (hki : ks[i]? = some ki) (hkj : ks[j]? = some kj) (hi' : ki ≠ .sk) (hj' : kj ≠ .sk) (hd : oi.dst = some d) (hd' : oj.dst = some d) : i = j := by
 rcases Nat.lt_trichotomy i j with h | h | h
 · exact absurd hd' ((dstsG_get hB i oi ki d hi hki hi' hd).2.2 j oj kj h hj hkj hj')
 · exact h
 · exact absurd hd ((dstsG_get hB j oj kj d hj hkj hj' hd').2.2 i oi ki h hi hki hi')
theorem hcomb {ks : List Vk} {vs : List (Vk × STs)} {cs : List Cb} {n : Nat} (B : Bs base Eb Lb UsB) (hdst : dstsG X.N Lb l ks = true) (hks : ks = vs.map (·.1)) (hlen : cs.length = l.length) (hvl : vs.length = l.length) (G : GCs P X base Eb Fb Lb UsB l vs cs n) {done : Nat -> Bool} {i : Nat} {o : Oper} {a : Act} {c : Cb} {q : Vk × STs} (hio : l[i]? = some o) (hci : cs[i]? = some c) (hqi : vs[i]? = some q) (hqk : q.1 ≠ .sk) (hcd : c.d = o.dst) (hnd : done i = false)
    (hvd : ∀ j ∈ c.vis, done j = true) {E E' : Env} {F F' : SH} {Us : Nat -> List Th} (i1 : Eb.le E) (i2 : LeH Fb F) (i3 : Fr X.N Lb a) 
    (i5 : ∀ (j : Nat) (c : Cb), cs[j]? = some c -> done j = true -> CbR E c a (Us j) /\ ∀ h, inR c h = true -> ∃ y, E h = some y)
    (i6 : ∀ (j : Nat) (c : Cb), cs[j]? = some c -> done j = false -> TsR Eb c.ow (Us j))
    (i7 : ∀ h y, E h = some y -> h < base.n \/ ∃ (j : Nat) (c : Cb), cs[j]? = some c /\ done j = true /\ inR c h = true)
    (i8 : ∀ (j : Nat) (c : Cb), cs[j]? = some c -> done j = true -> ∀ k ∈ c.vis, done k = true) {v : Value} {w' : World} {Un : List Th}
    (e1 : ∀ h x, (h < base.n \/ ∃ j ∈ c.vis, ∃ c', cs[j]? = some c' /\ inR c' h = true) -> E h = some x -> E' h = some x) (e2 : LeH F F') (e3 : CbR E' c (a.put o.dst v) Un) (hsep : Sep X.w0 X.F0 X.R w' F' ((Un ++ (c.vis.flatMap Us ++ UsB)) ++ flat (clr Us (i :: c.vis)) cs.length)) :
    HInv X base Eb Fb Lb UsB cs (upd done i) (a.put o.dst v) w' := by
 have V := G.vis i c hci
 have hlo := G.ord.lo i c hci
 have hne : ∀ {j : Nat} {cj : Cb} {h : Nat}, cs[j]? = some cj -> j ≠ i -> inR cj h = true -> inR c h = false := fun {j cj h} h1 h2 h3 => by
  cases e : inR c h with
  | false => rfl
  | true =>
   have a1 := inR_iff.1 h3
   have a2 := inR_iff.1 e
   rcases Nat.lt_or_gt_of_ne h2 with h4 | h4
   · have := G.ord.sq i j c cj h4 hci h1; omega
   · have := G.ord.sq j i cj c h4 h1 hci; omega
 have hnb : ∀ {h : Nat}, h < base.n -> inR c h = false := fun {h} h1 => by
  cases e : inR c h with
  | false => rfl
  | true => have a2 := inR_iff.1 e; omega
 have hkind : ∀ {j : Nat} {q : Vk × STs}, vs[j]? = some q -> ks[j]? = some q.1 := fun {j q} h => by rw [hks, List.getElem?_map, h]; rfl
 let E2 : Env := fun h => if inR c h = true then some ((E' h).getD dum) else E h
 let Us2 : Nat -> List Th := fun k => if k = i then Un else Us k
 have hE2 : E.le E2 := fun h y e => by
  show (if inR c h = true then _ else _) = _
  rw [if_neg]
  · exact e
  · rcases i7 h y e with q | ⟨j, cj, q1, q2, q3⟩
    · rw [hnb q]; simp
    · rw [hne q1 (fun hj => by subst hj; rw [hnd] at q2; cases q2) q3]; simp
 have hput : ∀ (j : Nat) (cj : Cb) (d : Nat), cs[j]? = some cj -> j ≠ i -> cj.d = some d -> (a.put o.dst v).tmps.getD d undef = a.tmps.getD d undef := fun j cj d h1 h2 h3 => by
  cases hod : o.dst with
  | none => rfl
  | some d' =>
   have hjl : j < l.length := by have := get_lt h1; omega
   have hoj : l[j]? = some l[j] := List.getElem?_eq_getElem hjl
   have hqj : vs[j]? = some (vs[j]'(by omega)) := List.getElem?_eq_getElem (by omega)
   have hK := G.st j cj _ _ h1 hoj hqj
   have hdd : d ≠ d' := fun e => by
    subst e
    unfold KOk at hK
    split at hK
    · rename_i hq
      exact h2 (dstsG_ne hdst hoj hio (hkind hqj) (hkind hqi) (by rw [hq]; simp) hqk (by rw [<- hK.2.1]; exact h3) hod)
    · rename_i hq
      exact h2 (dstsG_ne hdst hoj hio (hkind hqj) (hkind hqi) (by rw [hq]; simp) hqk (by rw [<- hK.2.1]; exact h3) hod)
    · rw [hK.1] at h3; cases h3
   simp only [Act.put]
   rw [getD_put_ne _ _ _ _ _ hdd]
 have hiv : i ∉ c.vis := fun h => by have := V.lt i h; omega
 have hcl : clr Us2 (i :: c.vis) = clr Us (i :: c.vis) := funext fun k => by
  unfold clr
  split
  · rfl
  · rename_i hk
    rw [List.mem_cons, not_or] at hk
    exact if_neg hk.1
 have hfm : ∀ {vis : List Nat}, i ∉ vis -> vis.flatMap Us2 = vis.flatMap Us := by
  intro vis
  induction vis with
  | nil => intro _; rfl
  | cons k r ih =>
   intro h
   rw [List.mem_cons, not_or] at h
   rw [List.flatMap_cons, List.flatMap_cons, ih h.2, show Us2 k = Us k from if_neg (fun e => h.1 e.symm)]
 refine ⟨E2, F', Us2, i1.tr hE2, i2.trans e2, ?_, hsep.perm ?_, fun j cj hj hdj => ?_, fun j cj hj hdj => ?_, fun h y e => ?_, fun j cj hj hdj k hk => ?_⟩
 · cases hod : o.dst with
   | none => exact i3
   | some d => exact Fr.put_other (dstsG_get hdst i o q.1 d hio (hkind hqi) hqk hod).2.1 i3
 · have p1 : (flat Us2 cs.length).Perm (flat (clr Us2 (i :: c.vis)) cs.length ++ (i :: c.vis).flatMap Us2) := flat_vis (List.nodup_cons.2 ⟨hiv, V.nd⟩) fun j hj => by
    rw [List.mem_cons] at hj
    rcases hj with rfl | hj
    · exact get_lt hci
    · have := V.lt j hj; have := get_lt hci; omega
   rw [hcl, List.flatMap_cons, hfm hiv, show Us2 i = Un from if_pos rfl] at p1
   refine List.Perm.trans ?_ (p1.append_right UsB).symm
   refine List.perm_append_comm.trans ?_
   rw [List.append_assoc, List.append_assoc]
 · by_cases hji : j = i
   · subst hji
     rw [hci] at hj
     cases hj
     have h2 : Us2 j = Un := if_pos rfl
     rw [h2]
     refine ⟨e3.leP (G.k j c hci) fun h x hm hx => ?_, fun h hh => ⟨_, by show (if inR c h = true then _ else _) = _; rw [if_pos hh]⟩⟩
     show (if inR c h = true then _ else _) = _
     rcases hm with q | q | ⟨k, q1, ck, q2, q3⟩
     · rw [hnb q, if_neg (by simp)]
       obtain ⟨y, hy⟩ := B.tot h q
       have h3 := i1 h y hy
       have h4 := e1 h y (.inl q) h3
       rw [hx] at h4
       rw [h3]; exact h4.symm
     · rw [if_pos (inR_iff.2 q), hx]; rfl
     · have hkv := V.al k q1
       have hki : k ≠ j := by have := V.lt k hkv; omega
       rw [hne q2 hki q3, if_neg (by simp)]
       obtain ⟨y, hy⟩ := (i5 k ck q2 (hvd k hkv)).2 h q3
       have h4 := e1 h y (.inr ⟨k, hkv, ck, q2, q3⟩) hy
       rw [hx] at h4
       rw [hy]; exact h4.symm
   · rw [upd_ne hji] at hdj
     obtain ⟨q1, q2⟩ := i5 j cj hj hdj
     have h2 : Us2 j = Us j := if_neg hji
     rw [h2]
     exact ⟨(q1.mono hE2).act fun d hd => hput j cj d hj hji hd, fun h hh => let ⟨y, hy⟩ := q2 h hh; ⟨y, hE2 h y hy⟩⟩
 · by_cases hji : j = i
   · subst hji; rw [upd_at] at hdj; cases hdj
   · rw [upd_ne hji] at hdj
     show TsR Eb cj.ow (if j = i then Un else Us j)
     rw [if_neg hji]; exact i6 j cj hj hdj
 · by_cases hr : inR c h = true
   · exact .inr ⟨i, c, hci, upd_at, hr⟩
   · have h3 : E h = some y := by
      have : E2 h = E h := if_neg hr
      rw [<- this]; exact e
     rcases i7 h y h3 with q | ⟨j, cj, q1, q2, q3⟩
     · exact .inl q
     · refine .inr ⟨j, cj, q1, ?_, q3⟩
       by_cases hji : j = i
       · subst hji; exact upd_at
       · rw [upd_ne hji]; exact q2
 · have hk2 : done k = true := by
    by_cases hji : j = i
    · subst hji
      rw [hci] at hj
      cases hj
      exact hvd k hk
    · rw [upd_ne hji] at hdj
      exact i8 j cj hj hdj k hk
   by_cases hki : k = i
   · subst hki; exact upd_at
   · rw [upd_ne hki]; exact hk2
theorem hdone {cs : List Cb} {i : Nat} {c : Cb} {done : Nat -> Bool} (V : VisOk l cs i c) (hw : ∀ j, Region.waitsFor .any l.toArray i j = true -> done j = true) (i8 : ∀ (j : Nat) (c : Cb), cs[j]? = some c -> done j = true -> ∀ k ∈ c.vis, done k = true) : ∀ j ∈ c.vis, done j = true := fun j hj => by
 rcases V.bef j hj with h1 | ⟨k, h1, h2, c2, h3, h4⟩
 · exact hw j h1
 · exact i8 k c2 h3 (hw k h2) j h4
theorem hstep {ks : List Vk} {vs : List (Vk × STs)} {cs : List Cb} {n : Nat} (B : Bs base Eb Lb UsB) (hdst : dstsG X.N Lb l ks = true) (hks : ks = vs.map (·.1)) (hlen : cs.length = l.length) (hvl : vs.length = l.length) (G : GCs P X base Eb Fb Lb UsB l vs cs n) {done : Nat -> Bool} {i : Nat} {o : Oper} {a : Act} {w : World} {c : Cb} {q : Vk × STs} (hio : l[i]? = some o) (hci : cs[i]? = some c) (hqi : vs[i]? = some q) (hqk : q.1 ≠ .sk) (hS : StepC P l.toArray X base Eb Fb Lb UsB cs c o) (hcd : c.d = o.dst) (hnd : done i = false)
    (hw : ∀ j, Region.waitsFor .any l.toArray i j = true -> done j = true) (hI : HInv X base Eb Fb Lb UsB cs done a w) : StepI P l.toArray (HInv X base Eb Fb Lb UsB cs) done i o a w := by
 obtain ⟨E, F, Us, i1, i2, i3, i4, i5, i6, i7, i8⟩ := hI
 have V := G.vis i c hci
 have hvd := hdone V hw i8
 have hiv : i ∉ c.vis := fun h => by have := V.lt i h; omega
 have hperm : (flat Us cs.length ++ UsB).Perm (flat (clr Us (i :: c.vis)) cs.length ++ (Us i ++ (c.vis.flatMap Us ++ UsB))) := by
  have p1 : (flat Us cs.length).Perm (flat (clr Us (i :: c.vis)) cs.length ++ (i :: c.vis).flatMap Us) := flat_vis (List.nodup_cons.2 ⟨hiv, V.nd⟩) fun j hj => by
   rw [List.mem_cons] at hj
   rcases hj with rfl | hj
   · exact get_lt hci
   · have := V.lt j hj; have := get_lt hci; omega
  rw [List.flatMap_cons] at p1
  refine (p1.append_right UsB).trans ?_
  rw [List.append_assoc, List.append_assoc]
 obtain ⟨k1, k2⟩ := (i4.perm hperm).enterX
 refine ⟨_, fun e a w h => ⟨h.1, h.2.1⟩, hS E F a w Us (Us i) i1 i2 i3 (fun j hj => ?_) (i6 i c hci hnd) k1 _ (fun _ h => h), fun v w' hp => ?_⟩
 · obtain ⟨c', h1, _⟩ := V.sub j hj
   exact ⟨c', h1, i5 j c' h1 (hvd j hj)⟩
 · obtain ⟨_, _, E', F', Un, e1, e2, e3, e4⟩ := hp
   exact hcomb B hdst hks hlen hvl G hio hci hqi hqk hcd hnd hvd i1 i2 i3 i5 i6 i7 i8 e1 e2 e3 (k2 e4)
theorem hfloat {ks : List Vk} {vs : List (Vk × STs)} {cs : List Cb} {n : Nat} (B : Bs base Eb Lb UsB) (hdst : dstsG X.N Lb l ks = true) (hks : ks = vs.map (·.1)) (hlen : cs.length = l.length) (hvl : vs.length = l.length) (G : GCs P X base Eb Fb Lb UsB l vs cs n) {done : Nat -> Bool} {i : Nat} {o : Oper} {a : Act} {w : World} {c : Cb} {q : Vk × STs} (hio : l[i]? = some o) (hci : cs[i]? = some c) (hqi : vs[i]? = some q) (hqk : q.1 ≠ .sk) (hS : StepY P l.toArray X base Eb Lb cs c o) (hcd : c.d = o.dst) (hT : c.T = []) (hA : c.A = []) (how : c.ow = []) (hnd : done i = false)
    (hw : ∀ j, Region.waitsFor .any l.toArray i j = true -> done j = true) (hI : HInv X base Eb Fb Lb UsB cs done a w) : ∃ v, Yields P l.toArray o v a /\ HInv X base Eb Fb Lb UsB cs (upd done i) (a.put o.dst v) w := by
 obtain ⟨E, F, Us, i1, i2, i3, i4, i5, i6, i7, i8⟩ := hI
 have V := G.vis i c hci
 have hvd := hdone V hw i8
 have hiv : i ∉ c.vis := fun h => by have := V.lt i h; omega
 have hUi : Us i = [] := by have := i6 i c hci hnd; rw [how] at this; exact this
 have hperm : (flat Us cs.length ++ UsB).Perm (([] ++ (c.vis.flatMap Us ++ UsB)) ++ flat (clr Us (i :: c.vis)) cs.length) := by
  have p1 : (flat Us cs.length).Perm (flat (clr Us (i :: c.vis)) cs.length ++ (i :: c.vis).flatMap Us) := flat_vis (List.nodup_cons.2 ⟨hiv, V.nd⟩) fun j hj => by
   rw [List.mem_cons] at hj
   rcases hj with rfl | hj
   · exact get_lt hci
   · have := V.lt j hj; have := get_lt hci; omega
  rw [List.flatMap_cons, hUi, List.nil_append] at p1
  refine (p1.append_right UsB).trans ?_
  rw [List.nil_append, List.append_assoc]
  exact List.perm_append_comm
 obtain ⟨⟨d, hd, hdN⟩, S⟩ := hS
 obtain ⟨u, h1, h2⟩ := S E a Us i1 i3 fun j hj => by
  obtain ⟨c', h1, _⟩ := V.sub j hj
  exact ⟨c', h1, (i5 j c' h1 (hvd j hj)).1⟩
 refine ⟨u, h1, hcomb B hdst hks hlen hvl G hio hci hqi hqk hcd hnd hvd (E' := E) (Un := []) i1 i2 i3 i5 i6 i7 i8 (fun _ _ _ e => e) (LeH.refl _) ⟨fun d' hd' => ?_, by rw [hT]; rfl, fun p v hp => by rw [hA] at hp; cases hp⟩ (i4.perm hperm)⟩
 rw [hcd, hd] at hd'
 cases hd'
 refine ⟨u, ?_, h2⟩
 rw [hd]
 simp only [Act.put]
 exact getD_put_same _ _ _ _ (by rw [i3.base.1]; exact hdN)
theorem lessL_ok {E : Env} {N : Nat} {ds : List Nat} : ∀ {L L' : List (Nat × Value)} {a : Act}, LR E L L' -> Fr N L' a -> ∃ Lb, LR E (lessL ds L) Lb /\ Fr N Lb a
 | [], _, a, h, hf => ⟨[], rfl, hf.base⟩
 | p :: L, _, a, ⟨u, M, rfl, h2, h3⟩, hf => by
  obtain ⟨Lb, k1, k2⟩ := lessL_ok (ds := ds) h3 hf.2
  rw [lessL]
  split
  · exact ⟨Lb, k1, k2⟩
  · exact ⟨(p.1, u) :: Lb, ⟨u, Lb, rfl, h2, k1⟩, hf.1, k2⟩
theorem lessL_asc {ds : List Nat} {d : Nat} {v : Value} : ∀ {L : List (Nat × Value)}, asc (lessL ds L) d = some v -> asc L d = some v
 | [], h => h
 | p :: L, h => by
  rw [lessL] at h
  split at h
  · rename_i hm
    have h1 := lessL_asc h
    have hne : d ≠ p.1 := by
     rintro rfl
     have key : ∀ {L : List (Nat × Value)}, asc (lessL ds L) p.1 = none := by
      intro L
      induction L with
      | nil => rfl
      | cons q L ih =>
       rw [lessL]
       split
       · exact ih
       · rename_i hq
         rw [show q = (q.1, q.2) from rfl, asc_tl]
         · exact ih
         · intro e; rw [e, hq] at hm; cases hm
     rw [key] at h; cases h
    rw [show p = (p.1, p.2) from rfl, asc_tl hne]; exact h1
  · rw [asc] at h ⊢
    split at h
    · exact h
    · exact lessL_asc h
theorem LR.keys {E : Env} : ∀ {L L' : List (Nat × Value)}, LR E L L' -> L'.map (·.1) = L.map (·.1)
 | [], _, h => by cases h; rfl
 | p :: L, _, ⟨u, M, rfl, _, h3⟩ => by rw [List.map_cons, List.map_cons, h3.keys]
theorem dstsG_keys {N : Nat} {L L' : List (Nat × Value)} (h : L'.map (·.1) = L.map (·.1)) : ∀ {os : List Oper} {ks : List Vk}, dstsG N L os ks = dstsG N L' os ks
 | [], _ => by unfold dstsG; rfl
 | o :: os, [] => by unfold dstsG; rfl
 | o :: os, k :: ks => by
  have key : ∀ (L : List (Nat × Value)) (d : Nat), L.all (fun p => !Nat.beq p.1 d) = (L.map (·.1)).all (fun k => !Nat.beq k d) := fun L d => by rw [List.all_map]; rfl
  have ih := dstsG_keys (N := N) h (os := os) (ks := ks)
  unfold dstsG
  dsimp only
  cases k <;> dsimp only
  · cases o.dst with
    | none => exact ih
    | some d => simp only [key, h, ih]
  · cases o.dst with
    | none => exact ih
    | some d => simp only [key, h, ih]
  · exact ih
theorem flIx_iff : ∀ {vs : List Vk} {n i : Nat}, i ∈ flIx n vs ↔ ∃ j vis al, i = n + j /\ vs[j]? = some (.fl vis al)
 | [], n, i => by simp [flIx]
 | k :: r, n, i => by
  have ih := flIx_iff (vs := r) (n := n + 1) (i := i)
  have key : i ∈ flIx (n + 1) r ↔ ∃ j vis al, i = n + (j + 1) /\ (k :: r)[j + 1]? = some (Vk.fl vis al) := by
   rw [ih]
   constructor
   · rintro ⟨j, vis, al, h1, h2⟩; exact ⟨j, vis, al, by omega, by simpa using h2⟩
   · rintro ⟨j, vis, al, h1, h2⟩; exact ⟨j, vis, al, by omega, by simpa using h2⟩
  constructor
  · intro h
    unfold flIx at h
    split at h
    · rename_i vis al
      rw [List.mem_cons] at h
      rcases h with rfl | h
      · exact ⟨0, vis, al, rfl, rfl⟩
      · obtain ⟨j, a1, a2, a3, a4⟩ := key.1 h; exact ⟨j + 1, a1, a2, a3, a4⟩
    · obtain ⟨j, a1, a2, a3, a4⟩ := key.1 h; exact ⟨j + 1, a1, a2, a3, a4⟩
  · rintro ⟨j, vis, al, h1, h2⟩
    cases j with
    | zero =>
     have : k = .fl vis al := by simpa using h2
     subst this
     unfold flIx
     rw [List.mem_cons]; exact .inl h1
    | succ j =>
     have := key.2 ⟨j, vis, al, h1, h2⟩
     unfold flIx
     split
     · exact List.mem_cons_of_mem _ this
     · exact this
theorem skIx_iff : ∀ {vs : List Vk} {n i : Nat}, i ∈ skIx n vs ↔ ∃ j, i = n + j /\ vs[j]? = some .sk
 | [], n, i => by simp [skIx]
 | k :: r, n, i => by
  have ih := skIx_iff (vs := r) (n := n + 1) (i := i)
  have key : i ∈ skIx (n + 1) r ↔ ∃ j, i = n + (j + 1) /\ (k :: r)[j + 1]? = some Vk.sk := by
   rw [ih]
   constructor
   · rintro ⟨j, h1, h2⟩; exact ⟨j, by omega, by simpa using h2⟩
   · rintro ⟨j, h1, h2⟩; exact ⟨j, by omega, by simpa using h2⟩
  constructor
  · intro h
    unfold skIx at h
    split at h
    · rw [List.mem_cons] at h
      rcases h with rfl | h
      · exact ⟨0, rfl, rfl⟩
      · obtain ⟨j, a1, a2⟩ := key.1 h; exact ⟨j + 1, a1, a2⟩
    · obtain ⟨j, a1, a2⟩ := key.1 h; exact ⟨j + 1, a1, a2⟩
  · rintro ⟨j, h1, h2⟩
    cases j with
    | zero =>
     have : k = .sk := by simpa using h2
     subst this
     unfold skIx
     rw [List.mem_cons]; exact .inl h1
    | succ j =>
     have := key.2 ⟨j, h1, h2⟩
     unfold skIx
     split
     · exact List.mem_cons_of_mem _ this
     · exact this
theorem tkL_ok {st0 : St} {g : Gh} {F : SH} {a : Act} {w : World} : ∀ {ps : List Hp} {st st1 : St} {To : STs} {Bs : List Th}, BRel X g F st Bs a w -> tkL st0 ps st = some (To, st1) -> ∃ Uo, BRel X g F st1 (Bs ++ Uo) a w /\ TsR g.E To Uo
 | [], st, st1, To, Bs, H, h => by cases h; exact ⟨[], by simpa using H, rfl⟩
 | p :: ps, st, st1, To, Bs, H, h => by
  rw [tkL] at h
  split at h
  · split at h
    · rename_i hk
      split at h
      · rename_i h2
        cases h
        obtain ⟨U, k1, H1⟩ := H.tk hk
        obtain ⟨Uo, H2, k2⟩ := tkL_ok H1 h2
        exact ⟨U :: Uo, by simpa using H2, U, Uo, rfl, k1, k2⟩
      · cases h
    · cases h
  · cases h
theorem ownsOf_ok {st0 : St} {g : Gh} {F : SH} {a : Act} {w : World} : ∀ {ks : List Vk} {st st1 : St} {os : List (Vk × STs)} {Bs : List Th}, BRel X g F st Bs a w -> ownsOf st0 ks st = some (os, st1) ->
    ∃ Us : List (List Th), BRel X g F st1 (Bs ++ Us.flatten) a w /\ os.map (·.1) = ks /\ Us.length = ks.length /\ ∀ (i : Nat) (q : Vk × STs), os[i]? = some q -> (∃ U, Us[i]? = some U /\ TsR g.E q.2 U) /\ (q.2 = [] \/ ∃ vis al own, q.1 = .op vis al own)
 | [], st, st1, os, Bs, H, h => by cases h; exact ⟨[], by simpa using H, rfl, rfl, fun i q h => by simp at h⟩
 | k :: r, st, st1, os, Bs, H, h => by
  unfold ownsOf at h
  split at h
  · rename_i To st2 h1
    split at h
    · rename_i os' st3 h2
      cases h
      obtain ⟨Uo, H1, k1⟩ := tkL_ok H h1
      obtain ⟨Us, H2, k2, k3, k4⟩ := ownsOf_ok H1 h2
      refine ⟨Uo :: Us, by simpa using H2, by rw [List.map_cons, k2], by rw [List.length_cons, List.length_cons, k3], fun i q hq => ?_⟩
      cases i with
      | zero =>
       have : (k, To) = q := by simpa using hq
       subst this
       refine ⟨⟨Uo, rfl, k1⟩, ?_⟩
       cases k with
       | op vis al own => exact .inr ⟨vis, al, own, rfl⟩
       | fl vis al => left; cases h1; rfl
       | sk => left; cases h1; rfl
      | succ i => exact k4 i q (by simpa using hq)
    · cases h
  · cases h
theorem flat_take_n {Us : List (List Th)} : ∀ k, k <= Us.length -> flat (fun j => (Us[j]?).getD []) k = (Us.take k).flatten
 | 0, _ => rfl
 | k + 1, hk => by
  have hk' : Us[k]? = some (Us[k]'(by omega)) := List.getElem?_eq_getElem (by omega)
  rw [flat, flat_take_n k (by omega), List.take_add_one, hk', List.flatten_append]
  simp
theorem finT_app {c : Cb} : ∀ {cs : List Cb}, finT (cs ++ [c]) = finT cs ++ c.T
 | [] => by simp [finT]
 | d :: cs => by rw [List.cons_append, finT, finT_app, finT, List.append_assoc]
theorem finT_ok {E : Env} {a : Act} {Us : Nat -> List Th} {cs : List Cb} (h : ∀ (j : Nat) (c : Cb), cs[j]? = some c -> CbR E c a (Us j)) : ∀ k, k <= cs.length -> TsR E (finT (cs.take k)) (flat Us k)
 | 0, _ => rfl
 | k + 1, hk => by
  have hc : cs[k]? = some cs[k] := List.getElem?_eq_getElem (by omega)
  rw [List.take_add_one, hc]
  show TsR E (finT (cs.take k ++ [cs[k]])) (flat Us k ++ Us k)
  rw [finT_app]
  exact (finT_ok h k (by omega)).app (h k _ hc).ts
theorem finL_ok {E : Env} {a : Act} {N : Nat} {L L0 : List (Nat × Value)} (hf : Fr N L0 a) (hL : LR E L L0) : ∀ {cs : List Cb}, (∀ c ∈ cs, ∃ U, CbR E c a U) -> ∃ L', Fr N L' a /\ LR E (finL cs ++ L) L'
 | [], _ => ⟨L0, hf, hL⟩
 | c :: cs, h => by
  obtain ⟨L', h1, h2⟩ := finL_ok hf hL (cs := cs) fun k hk => h k (by simp [hk])
  obtain ⟨U, h4⟩ := h c (by simp)
  rw [finL]
  cases hd : c.d with
  | none => exact ⟨L', h1, h2⟩
  | some d =>
   obtain ⟨u, h5, h6⟩ := h4.v d hd
   exact ⟨(d, u) :: L', ⟨h5, h1⟩, u, L', rfl, h6, h2⟩
theorem finA_ok {E : Env} {a : Act} {A : STA} (hA : ∀ p v, asc A p = some v -> AlOk E p v.1 v.2.1 v.2.2) : ∀ {cs : List Cb}, (∀ c ∈ cs, ∃ U, CbR E c a U) -> ∀ p v, asc (finA cs ++ A) p = some v -> AlOk E p v.1 v.2.1 v.2.2
 | [], _, p, v, hp => hA p v hp
 | c :: cs, h, p, v, hp => by
  obtain ⟨U, h4⟩ := h c (by simp)
  rw [finA, List.append_assoc] at hp
  rcases asc_app hp with h5 | ⟨_, h5⟩
  · exact h4.al p v h5
  · exact finA_ok hA (fun k hk => h k (by simp [hk])) p v h5
theorem drw_ok {ρ : Type} {id m : Nat} {vs : List Vk} {hs : Hs} {st : St} {K : St -> Option ρ} {r : ρ} {g : Gh} {F : SH} {a : Act} {w : World} {Q : Exit -> Act -> World -> Prop} (htb : TbOk P tb) (hc : HL P cts) (hmx : P.follows .mixedOrders = true) (hQ : ∀ c a w d v, Q (.panic c) (a.put d v) w -> Q (.panic c) a w)
    (h : exDrw tb X.N cts m vs hs l st K = some r) (H : Rel X g F st a w) (G : GoodK X r K (Q .normal) g F) : (Code.region id l.toArray true).wp P Q a w := by
 unfold exDrw at h
 split at h
 · rename_i os st1 hown
   dsimp only at h
   split at h
   · rename_i hB
     rw [Bool.and_eq_true] at hB
     obtain ⟨hB, hvl⟩ := hB
     have hvl := Nat.eq_of_beq_eq_true hvl
     split at h
     · rename_i hD
       obtain ⟨UsO, HB, o1, o2, o3⟩ := ownsOf_ok H.b hown
       rw [List.nil_append] at HB
       have hol : os.length = l.length := by rw [<- hvl, <- o1, List.length_map]
       let base : St := ⟨st1.n, lessL (dstsK l vs) st1.L, st1.G, st1.T, st1.GT, st1.A⟩
       let Eb : Env := fun h => if h < st1.n then some ((g.E h).getD dum) else none
       have hEb : g.E.le Eb := fun h x e => by
        show (if h < st1.n then _ else _) = _
        rcases Nat.lt_or_ge h st1.n with h1 | h1
        · rw [if_pos h1, e]; rfl
        · rw [(HB.new h h1).1] at e; cases e
       obtain ⟨L', f1, f2⟩ := HB.fr
       obtain ⟨Lb, q1, q2⟩ := lessL_ok (ds := dstsK l vs) f2 f1
       obtain ⟨UsB, s1, s2⟩ := HB.sp
       have B : Bs base Eb Lb UsB := ⟨fun h hh => ⟨_, by show (if h < st1.n then _ else _) = _; rw [if_pos hh]⟩, fun h hh => by
        show (if h < st1.n then _ else _) = _
        rw [if_neg (by show ¬ h < st1.n; have : st1.n <= h := hh; omega)], q1.mono hEb, s2.mono hEb, fun p v hp => (HB.al p v hp).mono hEb⟩
       have hdst : dstsG X.N Lb l vs = true := by
        rw [<- dstsG_keys (L := lessL (dstsK l vs) st1.L) q1.keys]; exact hD
       have hparts := hB
       simp only [regGB, Bool.and_eq_true] at hparts
       obtain ⟨⟨⟨⟨_, hcov⟩, hrall⟩, _⟩, _⟩ := hparts.1
       have hkd : ∀ {i : Nat} {o : Oper}, l[i]? = some o -> ∃ q, os[i]? = some q /\ vs[i]? = some q.1 := fun {i o} hi => by
        have := get_lt hi
        have hq : os[i]? = some (os[i]'(by omega)) := List.getElem?_eq_getElem (by omega)
        generalize (os[i]'(by omega)) = q at hq
        refine ⟨q, hq, ?_⟩
        rw [<- o1, List.getElem?_map, hq]; rfl
       have G0 : GCs P X base Eb F Lb UsB l os [] st1.n := ⟨⟨Nat.le_refl _, fun i c h => by simp at h, fun i j c c' _ h => by simp at h⟩, fun i c h => by simp at h, fun i c o q h => by simp at h, fun i c h => by simp at h⟩
       refine exHd_ok (X := X) htb hc B h (fun k o hk => by rw [Nat.zero_add]; exact hk) (fun k o hk => by rw [Nat.zero_add]; exact hk) rfl G0 fun cs n hs' hlen GC hK => ?_
       have hlen : cs.length = l.length := by rw [hlen]; omega
       have hcg : ∀ {i : Nat} {o : Oper}, l[i]? = some o -> ∃ c, cs[i]? = some c := fun {i o} hi => ⟨cs[i]'(by have := get_lt hi; omega), List.getElem?_eq_getElem _⟩
       refine regG m (flIx 0 vs) (skIx 0 vs) (HInv X base Eb F Lb UsB cs) hmx hB hQ ?_ (fun done i o a w h1 h2 h3 h4 h5 h6 => ?_) (fun done i o a w h1 h2 h3 h4 h5 => ?_) fun done a' w' hall hI => ?_
       · refine ⟨Eb, F, fun j => (UsO[j]?).getD [], Env.le.rfl' _, LeH.refl _, q2, ?_, (fun j c _ h => by cases h), (fun j c hj _ => ?_), (fun h y e => .inl ?_), (fun j c _ h => by cases h)⟩
         · have hz : cs.length = UsO.length := by rw [hlen, <- hvl, o2]
           rw [hz, flat_take_n UsO.length (Nat.le_refl _), List.take_length]
           have hx : Ext w { w with drawn := w.drawn + 1 } := ⟨rfl, rfl, rfl, Nat.le_refl _, fun _ _ => rfl⟩
           exact (s1.ext hx).perm List.perm_append_comm
         · have hjl : j < l.length := by have := get_lt hj; omega
           have hlj : l[j]? = some l[j] := List.getElem?_eq_getElem hjl
           obtain ⟨q, k1, k2⟩ := hkd hlj
           obtain ⟨⟨U, k3, k4⟩, k5⟩ := o3 j q k1
           have hK := GC.st j c _ q hj hlj k1
           show TsR Eb c.ow ((UsO[j]?).getD [])
           rw [k3]
           show TsR Eb c.ow U
           unfold KOk at hK
           split at hK
           · rw [hK.2.2]; exact k4.mono hEb
           · rename_i hq
             rw [hK.2.2.2.2]
             rcases k5 with k5 | ⟨_, _, _, k5⟩
             · rw [k5] at k4; exact k4
             · rw [hq] at k5; cases k5
           · rename_i hq
             rw [hK.2.2.2]
             rcases k5 with k5 | ⟨_, _, _, k5⟩
             · rw [k5] at k4; exact k4
             · rw [hq] at k5; cases k5
         · have e : (if h < st1.n then some ((g.E h).getD dum) else none) = some y := e
           by_cases hh : h < st1.n
           · exact hh
           · rw [if_neg hh] at e; cases e
       · obtain ⟨q, k1, k2⟩ := hkd h3
         obtain ⟨c, hci⟩ := hcg h3
         have hK := GC.st i c o q hci h3 k1
         unfold KOk at hK
         split at hK
         · rename_i hq
           exact hstep B hdst o1.symm hlen hol GC h3 hci k1 (by rw [hq]; simp) hK.1 hK.2.1 h4 h5 h6
         · rename_i vis al hq
           have : i ∈ flIx 0 vs := flIx_iff.2 ⟨i, vis, al, (Nat.zero_add i).symm, by rw [k2, hq]⟩
           rw [List.contains_iff_mem.2 this] at h2; cases h2
         · rename_i hq
           have : i ∈ skIx 0 vs := skIx_iff.2 ⟨i, (Nat.zero_add i).symm, by rw [k2, hq]⟩
           have h7 := List.all_eq_true.1 hrall i this
           rw [Bool.and_eq_true] at h7
           have := Nat.le_of_ble_eq_true h7.1
           omega
       · obtain ⟨q, k1, k2⟩ := hkd h2
         obtain ⟨c, hci⟩ := hcg h2
         obtain ⟨j, vis, al, e1, e2⟩ := flIx_iff.1 (List.contains_iff_mem.1 h1)
         rw [Nat.zero_add] at e1
         subst e1
         rw [k2] at e2
         have hq : q.1 = .fl vis al := Option.some.inj e2
         have hK := GC.st i c o q hci h2 k1
         unfold KOk at hK
         rw [hq] at hK
         exact hfloat B hdst o1.symm hlen hol GC h2 hci k1 (by rw [hq]; simp) hK.1 hK.2.1 hK.2.2.1 hK.2.2.2.1 hK.2.2.2.2 h3 h4 h5
       · obtain ⟨E, F', Us, i1, i2, i3, i4, i5, i6, i7, _⟩ := hI
         have hcb : ∀ (j : Nat) (c : Cb), cs[j]? = some c -> CbR E c a' (Us j) := fun j c hj => by
          cases hd : done j with
          | true => exact (i5 j c hj hd).1
          | false =>
           have hjl : j < l.length := by have := get_lt hj; omega
           have hlj : l[j]? = some l[j] := List.getElem?_eq_getElem hjl
           obtain ⟨q, k1, k2⟩ := hkd hlj
           have hU := i6 j c hj hd
           have hK := GC.st j c _ q hj hlj k1
           have hnot : ¬ (j < m \/ (flIx 0 vs).contains j = true) := fun h => by rw [hall j h] at hd; cases hd
           have hsk : q.1 = .sk := by
            have h7 := List.all_eq_true.1 hcov j (List.mem_range.2 hjl)
            rw [Bool.or_eq_true, Bool.or_eq_true] at h7
            rcases h7 with h7 | h7 | h7
            · exact absurd (.inl (Nat.le_of_ble_eq_true h7)) hnot
            · exact absurd (.inr h7) hnot
            · obtain ⟨k, e1, e2⟩ := skIx_iff.1 (List.contains_iff_mem.1 h7)
              rw [Nat.zero_add] at e1
              subst e1
              rw [k2] at e2
              exact Option.some.inj e2
           unfold KOk at hK
           rw [hsk] at hK
           dsimp only at hK
           refine ⟨(fun d hd => by rw [hK.1] at hd; cases hd), ?_, (fun p v hp => by rw [hK.2.2.1] at hp; cases hp)⟩
           rw [hK.2.2.2] at hU
           rw [hK.2.1]; exact hU
         have hmem : ∀ c ∈ cs, ∃ U, CbR E c a' U := fun c hcm => let ⟨j, hj⟩ := List.getElem?_of_mem hcm; ⟨_, hcb j c hj⟩
         obtain ⟨L1, f3, f4⟩ := finL_ok i3 (B.lr.mono i1) hmem
         have hT := finT_ok hcb cs.length (Nat.le_refl _)
         rw [List.take_length] at hT
         have hnb : st1.n <= n := GC.ord.le
         let L := finL cs
         let T := finT cs
         let g2 : Gh := ⟨E, fun t => if t < st1.n then g.tv t else if n <= t then (L[t - n]?).map (·.2) else none, fun t => if t < st1.n then g.tt t else if n + L.length <= t then (T[t - (n + L.length)]?).map (·.2) else none⟩
         have hg2 : g.le g2 := by
          refine ⟨hEb.tr i1, fun t v e => ?_, fun t v e => ?_⟩
          · show (if t < st1.n then _ else _) = _
            rcases Nat.lt_or_ge t st1.n with h1 | h1
            · rw [if_pos h1]; exact e
            · rw [(HB.new t h1).2.1] at e; cases e
          · show (if t < st1.n then _ else _) = _
            rcases Nat.lt_or_ge t st1.n with h1 | h1
            · rw [if_pos h1]; exact e
            · rw [(HB.new t h1).2.2] at e; cases e
         have H2 : Rel X g2 F' (finS base cs n) a' w' := by
          refine ⟨fun h hh => ?_, ⟨L1, f3, f4⟩, fun d v hv => ?_, ⟨_, i4, hT.app (B.ts.mono i1)⟩, fun d v hv => ?_, finA_ok (fun p v hp => (B.al p v hp).mono i1) hmem⟩
          · have hh : n + L.length + T.length <= h := hh
            refine ⟨?_, ?_, ?_⟩
            · cases e : E h with
              | none => exact e
              | some y =>
               rcases i7 h y e with q | ⟨j, c, q1, _, q3⟩
               · have q : h < st1.n := q; omega
               · have := (GC.ord.lo j c q1).2.2; have := (inR_iff.1 q3).2; omega
            · show (if h < st1.n then _ else _) = _
              rw [if_neg (by omega), if_pos (by omega), List.getElem?_eq_none (by omega)]; rfl
            · show (if h < st1.n then _ else _) = _
              rw [if_neg (by omega), if_pos (by omega), List.getElem?_eq_none (by omega)]; rfl
          · rcases asc_app hv with h1 | ⟨h1, h2⟩
            · obtain ⟨i, q, h3, h4⟩ := tgs_some (n := n) h1
              refine ⟨n + i, asc_app1 h4, ?_⟩
              show (if n + i < st1.n then _ else _) = _
              rw [if_neg (by omega), if_pos (by omega), Nat.add_sub_cancel_left]
              show (L[i]?).map _ = _
              rw [show L[i]? = some (q, v) from h3]; rfl
            · obtain ⟨t, h5, h6⟩ := HB.tg d v (lessL_asc h2)
              exact ⟨t, by show asc (tgs (finL cs) n ++ st1.G) d = some t; rw [asc_app2 (tgs_none h1)]; exact h5, hg2.tv _ _ h6⟩
          · rcases asc_app hv with h1 | ⟨h1, h2⟩
            · obtain ⟨i, q, h3, h4⟩ := tgs_some (n := n + L.length) h1
              refine ⟨n + L.length + i, asc_app1 h4, ?_⟩
              show (if n + L.length + i < st1.n then _ else _) = _
              rw [if_neg (by omega), if_pos (by omega), Nat.add_sub_cancel_left]
              show (T[i]?).map _ = _
              rw [show T[i]? = some (q, v) from h3]; rfl
            · obtain ⟨t, h5, h6⟩ := HB.tt d v h2
              exact ⟨t, by show asc (tgs (finT cs) _ ++ st1.GT) d = some t; rw [asc_app2 (tgs_none h1)]; exact h5, hg2.tt _ _ h6⟩
         exact exOps_ok htb hc hK H2 (G.step hg2 i2)
     · cases h
   · cases h
 · cases h
end
end Dm

namespace Dm
open Go Go.RowKit
inductive Wr where
 | v (d : Nat) (x : Value)
 | w (off : Nat) (x : Value)
def wL (ops : Array Oper) (i : Nat) : Nat -> List Wr -> List (Nat × Value)
 | _, [] => []
 | j, r :: rs => match r with
  | .v d x => (match Region.waitsFor .any ops i j with
   | true => (d, x) :: wL ops i (j + 1) rs
   | false => wL ops i (j + 1) rs)
  | .w _ _ => wL ops i (j + 1) rs
def mkW (x : Value) (d : Nat) : Option Wr := gV x fun y => some (.v d y)
def ldW (st : St) (h h' : Nat) : Option (List Value) := match Nat.beq h' h with
 | true => none
 | false => (match asc st.T h' with
  | some (.box _ cs) => some cs
  | some (.cel cs) => some cs
  | _ => none)
def exW1 (tb : Tb) (ops : Array Oper) (st : St) (h i : Nat) (rs : List Wr) (o : Oper) : Option Wr :=
 let L := wL ops i 0 rs ++ st.L
 match grd ops L o.guard with
 | some true => (match o.op with
  | .load T x => (match o.dst with
   | some d => (match okO x with
    | true => (match evO L x with
     | some (.pointer (some ⟨h', off, none⟩)) => (match ldW st h h' with
      | some cs => (match subV tb T cs off with
       | some v => mkW v d
       | none => none)
      | none => none)
     | _ => none)
    | false => none)
   | none => none)
  | .store T x y => (match o.dst with
   | some _ => none
   | none => (match okOs [x, y] with
    | true => (match evO L x with
     | some (.pointer (some ⟨h', off, none⟩)) => (match Nat.beq h' h with
      | true => (match evO L y with
       | some v => (match cellsV v with
        | some us => (match us with
         | [u] => (match asc tb.info T with
          | some (_, s, _) => (match Nat.beq s 1 with
           | true => some (.w off u)
           | false => none)
          | none => none)
         | _ => none)
        | none => none)
       | none => none)
      | false => none)
     | _ => none)
    | false => none))
  | _ => (match o.dst with
   | some d => (match pureS tb L o.op with
    | some v => mkW v d
    | none => none)
   | none => none))
 | _ => none
def exWs (tb : Tb) (ops : Array Oper) (st : St) (h : Nat) : List Oper -> Nat -> List Wr -> Option (List Wr)
 | [], _, rs => some rs
 | o :: l, i, rs => match exW1 tb ops st h i rs o with
  | some r => exWs tb ops st h l (i + 1) (rs ++ [r])
  | none => none
def offW (off : Nat) : List Wr -> Bool
 | [] => true
 | r :: rs => match r with
  | .v _ _ => offW off rs
  | .w o _ => (match Nat.beq o off with
   | true => false
   | false => offW off rs)
def offsD (n : Nat) : List Wr -> Bool
 | [] => true
 | r :: rs => match r with
  | .v _ _ => offsD n rs
  | .w o _ => (match Nat.blt o n with
   | true => (match offW o rs with
    | true => offsD n rs
    | false => false)
   | false => false)
def cellW : List Wr -> List Value -> List Value
 | [], cs => cs
 | r :: rs, cs => match r with
  | .v _ _ => cellW rs cs
  | .w o x => cellW rs (cs.set o x)
def cellB (bs : Nat -> Bool) : Nat -> List Wr -> List Value -> List Value
 | _, [], cs => cs
 | i, r :: rs, cs => match r with
  | .v _ _ => cellB bs (i + 1) rs cs
  | .w o x => cellB bs (i + 1) rs (match bs i with
   | true => cs.set o x
   | false => cs)
def putW (N : Nat) : List Wr -> St -> Option St
 | [], st => some st
 | r :: rs, st => match r with
  | .v d x => (match st.put N (some d) x with
   | some st1 => putW N rs st1
   | none => none)
  | .w _ _ => putW N rs st
def dstsL : List Oper -> List Nat
 | [] => []
 | o :: l => match o.dst with
  | some d => d :: dstsL l
  | none => dstsL l
def exWr {ρ : Type} (tb : Tb) (N : Nat) (p : Hp) (l : List Oper) (st : St) (K : St -> Option ρ) : Option ρ := match p.find st with
 | some h => (match asc st.T h with
  | some (.box t cs) =>
   let st0 : St := ⟨st.n, lessL (dstsL l) st.L, st.G, st.T, st.GT, st.A⟩
   (match dstsB N st0.L l && backB l.toArray l.length with
   | true => (match exWs tb l.toArray st0 h l 0 [] with
    | some rs => (match offsD cs.length rs with
     | true => (match frcL (cellW rs cs) with
      | some cs' => (match st0.setT h (.box t cs') with
       | some st1 => (match putW N rs st1 with
        | some st2 => K st2
        | none => none)
       | none => none)
      | none => none)
     | false => none)
    | none => none)
   | false => none)
  | _ => none)
 | none => none
theorem offW_get {off : Nat} : ∀ {rs : List Wr} {o : Nat} {x : Value}, offW off rs = true -> Wr.w o x ∈ rs -> o ≠ off
 | [], _, _, _, hm => by simp at hm
 | .v d y :: rs, o, x, h, hm => by
  rw [offW] at h
  rw [List.mem_cons] at hm
  rcases hm with hm | hm
  · cases hm
  · exact offW_get h hm
 | .w o' y :: rs, o, x, h, hm => by
  rw [offW] at h
  rw [List.mem_cons] at hm
  split at h
  · cases h
  · rename_i hb
    rcases hm with hm | hm
    · cases hm
      rintro rfl
      rw [Nat.beq_refl] at hb; cases hb
    · exact offW_get h hm
theorem cellB_len {bs : Nat -> Bool} : ∀ {rs : List Wr} {i : Nat} {cs : List Value}, (cellB bs i rs cs).length = cs.length
 | [], _, _ => rfl
 | .v _ _ :: rs, i, cs => by rw [cellB]; exact cellB_len
 | .w _ _ :: rs, i, cs => by
  rw [cellB, cellB_len]
  split
  · rw [List.length_set]
  · rfl
theorem cellB_congr {bs bs' : Nat -> Bool} : ∀ {rs : List Wr} {i : Nat} {cs : List Value}, (∀ j, i <= j -> bs j = bs' j) -> cellB bs i rs cs = cellB bs' i rs cs
 | [], _, _, _ => rfl
 | .v _ _ :: rs, i, cs, h => by
  rw [cellB, cellB]
  exact cellB_congr fun j hj => h j (by omega)
 | .w _ _ :: rs, i, cs, h => by
  rw [cellB, cellB, h i (Nat.le_refl _)]
  exact cellB_congr fun j hj => h j (by omega)
theorem cellB_set {bs : Nat -> Bool} {off : Nat} {y : Value} : ∀ {rs : List Wr} {i : Nat} {cs : List Value}, offW off rs = true -> (cellB bs i rs cs).set off y = cellB bs i rs (cs.set off y)
 | [], _, _, _ => rfl
 | .v _ _ :: rs, i, cs, h => by
  rw [offW] at h
  rw [cellB, cellB]
  exact cellB_set h
 | .w o x :: rs, i, cs, h => by
  have hne : o ≠ off := offW_get (x := x) h (List.mem_cons_self ..)
  rw [offW] at h
  rw [cellB, cellB]
  split at h
  · cases h
  · rw [cellB_set h]
    cases bs i
    · rfl
    · dsimp only
      rw [List.set_comm _ _ hne]
theorem updW_ne {bs : Nat -> Bool} {i k : Nat} (h : k ≠ i) : upd bs i k = bs k := by
 unfold upd
 split
 · exact absurd (Nat.eq_of_beq_eq_true ‹_›) h
 · rfl
theorem updW_at {bs : Nat -> Bool} {i : Nat} : upd bs i i = true := by
 unfold upd
 rw [Nat.beq_refl]
theorem cellB_upd {bs : Nat -> Bool} {n off : Nat} {y : Value} : ∀ {rs : List Wr} {i k : Nat} {cs : List Value}, offsD n rs = true -> rs[k]? = some (.w off y) -> (cellB bs i rs cs).set off y = cellB (upd bs (i + k)) i rs cs
 | [], _, k, _, _, hk => by simp at hk
 | r :: rs, i, 0, cs, h, hk => by
  have : r = .w off y := by simpa using hk
  subst this
  rw [offsD] at h
  split at h
  · split at h
    · rename_i ho
      rw [cellB, cellB, cellB_set ho]
      simp only [Nat.add_zero]
      rw [updW_at]
      have e : (match bs i with
          | true => cs.set off y
          | false => cs).set off y = cs.set off y := by
       cases bs i
       · rfl
       · exact List.set_set _
      rw [e]
      exact cellB_congr fun j hj => (updW_ne (by omega)).symm
    · cases h
  · cases h
 | .v _ _ :: rs, i, k + 1, cs, h, hk => by
  have hk : rs[k]? = some (.w off y) := by simpa using hk
  rw [offsD] at h
  have e : i + (k + 1) = i + 1 + k := by omega
  rw [cellB, cellB, e]
  exact cellB_upd h hk
 | .w _ _ :: rs, i, k + 1, cs, h, hk => by
  have hk : rs[k]? = some (.w off y) := by simpa using hk
  have hs : offsD n rs = true := by
   rw [offsD] at h
   split at h
   · split at h
     · exact h
     · cases h
   · cases h
  have e : i + (k + 1) = i + 1 + k := by omega
  rw [cellB, cellB, e, updW_ne (show i ≠ i + 1 + k by omega)]
  exact cellB_upd hs hk
theorem cellB_all {bs : Nat -> Bool} : ∀ {rs : List Wr} {i : Nat} {cs : List Value}, (∀ j, i <= j -> j < i + rs.length -> bs j = true) -> cellB bs i rs cs = cellW rs cs
 | [], _, _, _ => rfl
 | .v _ _ :: rs, i, cs, h => by
  rw [cellB, cellW]
  exact cellB_all fun j h1 h2 => h j (by omega) (by rw [List.length_cons]; omega)
 | .w _ _ :: rs, i, cs, h => by
  rw [cellB, cellW, h i (Nat.le_refl _) (by rw [List.length_cons]; omega)]
  exact cellB_all fun j h1 h2 => h j (by omega) (by rw [List.length_cons]; omega)
theorem cellB_none : ∀ {rs : List Wr} {i : Nat} {cs : List Value}, cellB (fun _ => false) i rs cs = cs
 | [], _, _ => rfl
 | .v _ _ :: rs, i, cs => by rw [cellB]; exact cellB_none
 | .w _ _ :: rs, i, cs => by rw [cellB]; exact cellB_none
theorem offsD_get {n : Nat} : ∀ {rs : List Wr} {k off : Nat} {y : Value}, offsD n rs = true -> rs[k]? = some (.w off y) -> off < n
 | [], k, _, _, _, hk => by simp at hk
 | .v _ _ :: rs, k, off, y, h, hk => by
  rw [offsD] at h
  cases k with
  | zero => simp at hk
  | succ k => exact offsD_get h (by simpa using hk)
 | .w _ _ :: rs, k, off, y, h, hk => by
  rw [offsD] at h
  · split at h
    · rename_i hb
      split at h
      · cases k with
        | zero => have := Nat.le_of_ble_eq_true hb; simp at hk; obtain ⟨rfl, _⟩ := hk; omega
        | succ k => exact offsD_get h (by simpa using hk)
      · cases h
    · cases h
theorem exWs_get {tb : Tb} {ops : Array Oper} {st : St} {h : Nat} : ∀ {l : List Oper} {k : Nat} {pre rs : List Wr}, exWs tb ops st h l k pre = some rs -> pre.length = k ->
    rs.length = k + l.length /\ rs.take k = pre /\ ∀ i o, l[i]? = some o -> ∃ r, rs[k + i]? = some r /\ exW1 tb ops st h (k + i) (rs.take (k + i)) o = some r
 | [], k, pre, rs, e, hl => by
  cases e
  exact ⟨by simpa using hl, by rw [<- hl, List.take_length], fun i o hi => by simp at hi⟩
 | o :: l, k, pre, rs, e, hl => by
  rw [exWs] at e
  split at e
  · rename_i r hr
    obtain ⟨h1, h2, h3⟩ := exWs_get e (by rw [List.length_append, hl]; rfl)
    have h4 : rs.take k = pre := by
     have := congrArg (List.take k) h2
     rw [List.take_take, Nat.min_eq_left (Nat.le_succ k), <- hl, List.take_left] at this
     rw [<- hl]; exact this
    have h5 : rs[k]? = some r := by
     have h6 : (rs.take (k + 1))[k]? = rs[k]? := List.getElem?_take_of_lt (Nat.lt_succ_self k)
     rw [<- h6, h2, <- hl]; simp
    refine ⟨by rw [h1, List.length_cons]; omega, h4, fun i o' hi => ?_⟩
    cases i with
    | zero =>
     have : o = o' := by simpa using hi
     subst this
     exact ⟨r, h5, by rw [Nat.add_zero, h4]; exact hr⟩
    | succ i =>
     have := h3 i o' (by simpa using hi)
     rwa [show k + 1 + i = k + (i + 1) by omega] at this
  · cases e
theorem WObs.mk {P : Program} {N : Nat} {L0 : List (Nat × Value)} {ops : Array Oper} {Gs : List FW} {W : (Nat -> Bool) -> World -> Prop} : ∀ {os : List Oper} {r : List FW} {k : Nat}, os.length = r.length -> (∀ i o, os[i]? = some o -> ∃ G, r[i]? = some G /\ WOb P ops N L0 Gs W (k + i) o G) -> WObs P ops N L0 Gs W k os r
 | [], [], _, _, _ => trivial
 | [], _ :: _, _, h, _ => by simp at h
 | _ :: _, [], _, h, _ => by simp at h
 | o :: os, G :: r, k, h, f => by
  refine ⟨?_, WObs.mk (by simpa using h) fun i o' hi => ?_⟩
  · obtain ⟨G', h1, h2⟩ := f 0 o rfl
    have : G = G' := by simpa using h1
    subst this
    exact h2
  · obtain ⟨G', h1, h2⟩ := f (i + 1) o' (by simpa using hi)
    exact ⟨G', by simpa using h1, by rw [show k + 1 + i = k + (i + 1) by omega]; exact h2⟩
theorem dstsB_keys {N : Nat} {L L' : List (Nat × Value)} (h : L'.map (·.1) = L.map (·.1)) : ∀ {os : List Oper}, dstsB N L os = dstsB N L' os
 | [] => by unfold dstsB; rfl
 | o :: os => by
  have key : ∀ (d : Nat) {L L' : List (Nat × Value)}, L'.map (·.1) = L.map (·.1) -> L.all (fun p => !Nat.beq p.1 d) = L'.all (fun p => !Nat.beq p.1 d) := by
   intro d L
   induction L with
   | nil => intro L' h; cases L' with
    | nil => rfl
    | cons q L' => cases h
   | cons p L ih => intro L' h; cases L' with
    | nil => cases h
    | cons q L' =>
     rw [List.map_cons, List.map_cons] at h
     injection h with h1 h2
     rw [List.all_cons, List.all_cons, h1, ih h2]
  rw [dstsB, dstsB, dstsB_keys h]
  cases o.dst with
  | none => rfl
  | some d => dsimp only; rw [key d h]
section
variable {P : Program} {tb : Tb} {X : Cx}
def gOf (E : Env) : Wr -> FW
 | .v _ x => fun u => dV E x = some u
 | .w _ _ => fun _ => True
theorem mkW_eq {x : Value} {d : Nat} {r : Wr} (h : mkW x d = some r) : r = .v d x := by
 unfold mkW at h
 rw [gV_eq] at h
 cases h
 rfl
theorem rplT_self {h : Nat} {T : STh} : ∀ {Ts : STs}, asc Ts h = some T -> rplT h h T Ts = some Ts
 | [], e => by simp [asc] at e
 | p :: Ts, e => by
  rw [asc] at e
  rw [rplT]
  cases hb : Nat.beq p.1 h with
  | true =>
   simp only [hb] at e ⊢
   have := Nat.eq_of_beq_eq_true hb
   cases e
   subst this
   rfl
  | false =>
   simp only [hb] at e ⊢
   rw [rplT_self e]
theorem rplT_rpl {h : Nat} {T T' : STh} : ∀ {Ts Ts' : STs}, rplT h h T Ts = some Ts' -> rplT h h T' Ts = rplT h h T' Ts'
 | [], _, e => by cases e
 | p :: Ts, Ts', e => by
  rw [rplT] at e
  rw [rplT]
  cases hb : Nat.beq p.1 h with
  | true =>
   simp only [hb] at e ⊢
   cases e
   rw [rplT, Nat.beq_refl]
  | false =>
   simp only [hb] at e ⊢
   split at e
   · rename_i r hr
     cases e
     rw [rplT]
     simp only [hb]
     rw [rplT_rpl hr]
   · cases e
theorem rplT_ex {h : Nat} {T T' : STh} : ∀ {Ts : STs}, asc Ts h = some T -> ∃ Ts', rplT h h T' Ts = some Ts'
 | [], e => by simp [asc] at e
 | p :: Ts, e => by
  rw [asc] at e
  rw [rplT]
  cases hb : Nat.beq p.1 h with
  | true => exact ⟨_, rfl⟩
  | false =>
   simp only [hb] at e ⊢
   obtain ⟨r, hr⟩ := rplT_ex (T' := T') e
   rw [hr]
   exact ⟨_, rfl⟩
theorem rplT_ne {h k : Nat} {T : STh} (hk : k ≠ h) : ∀ {Ts Ts' : STs}, rplT h h T Ts = some Ts' -> asc Ts' k = asc Ts k
 | [], _, e => by cases e
 | p :: Ts, Ts', e => by
  rw [rplT] at e
  cases hb : Nat.beq p.1 h with
  | true =>
   simp only [hb] at e
   cases e
   have := Nat.eq_of_beq_eq_true hb
   rw [asc_tl hk, show p = (p.1, p.2) from rfl, asc_tl (by omega)]
  | false =>
   simp only [hb] at e
   split at e
   · rename_i r hr
     cases e
     rw [asc, asc]
     cases Nat.beq p.1 k with
     | true => rfl
     | false => exact rplT_ne hk hr
   · cases e
theorem wL_ok {ops : Array Oper} {i : Nat} {E : Env} {N : Nat} {L L0 : List (Nat × Value)} {a : Act} (hf : Fr N L0 a) (hL : LR E L L0) : ∀ {rs : List Wr} {k : Nat}, (∀ j d x, rs[j]? = some (.v d x) -> Region.waitsFor .any ops i (k + j) = true -> ∃ u, a.tmps.getD d undef = u /\ dV E x = some u) -> ∃ L', Fr N L' a /\ LR E (wL ops i k rs ++ L) L'
 | [], _, _ => ⟨L0, hf, hL⟩
 | r :: rs, k, h => by
  obtain ⟨L', h1, h2⟩ := wL_ok hf hL (rs := rs) (k := k + 1) fun j d x hj hw => h (j + 1) d x (by simpa using hj) (by rw [show k + (j + 1) = k + 1 + j by omega]; exact hw)
  cases r with
  | v d x =>
   rw [wL]
   split
   · rename_i hw
     obtain ⟨u, h3, h4⟩ := h 0 d x rfl hw
     exact ⟨(d, u) :: L', ⟨h3, h1⟩, u, L', rfl, h4, h2⟩
   · exact ⟨L', h1, h2⟩
  | w o x =>
   rw [wL]
   exact ⟨L', h1, h2⟩
theorem Rel.setW {g : Gh} {F F' : SH} {st st' : St} {a : Act} {w w' : World} (H : Rel X g F st a w) {h : Nat} {T : STh} (hS : st.setT h T = some st') {Ts : STs} (hTs : Dm.rplT h h T st.T = some Ts) {Us : List Th} (hs : Sep X.w0 X.F0 X.R w' F' Us) (hR : TsR g.E Ts Us) :
    ∃ g', g.le g' /\ ∀ a', (∃ L', Fr X.N L' a' /\ LR g.E st.L L') -> Rel X g' F' st' a' w' := by
 unfold St.setT at hS
 rw [hTs] at hS
 simp only [sucN_eq, Option.some.injEq] at hS
 subst hS
 have hg := H.le_add none none (some T)
 refine ⟨_, hg, fun a' hfr => ⟨H.new_add _ _ _, ?_, H.tg_mono hg, ⟨_, hs, hR.mono hg.E⟩, fun k U2 hk => ?_, H.al_mono hg⟩⟩
 · obtain ⟨L', h4, h5⟩ := hfr
   exact ⟨L', h4, h5.mono hg.E⟩
 · by_cases hkh : k = h
   · subst hkh
     rw [rplT_at hTs] at hk
     cases hk
     exact ⟨st.n, asc_hd, addN_at⟩
   · rw [rplT_ne hkh hTs] at hk
     obtain ⟨t, h5, h6⟩ := H.tt_mono hg _ _ hk
     exact ⟨t, by rw [asc_tl hkh]; exact h5, h6⟩
theorem putW_ok {F : SH} {a : Act} {w : World} : ∀ {rs : List Wr} {g : Gh} {st st' : St}, Rel X g F st a w -> (∀ d x, Wr.v d x ∈ rs -> ∃ u, a.tmps.getD d undef = u /\ dV g.E x = some u) -> putW X.N rs st = some st' -> ∃ g', g.le g' /\ Rel X g' F st' a w
 | [], g, st, st', H, _, e => by cases e; exact ⟨g, Gh.le.rfl' _, H⟩
 | .v d x :: rs, g, st, st', H, hx, e => by
  rw [putW] at e
  split at e
  · rename_i st1 hS
    obtain ⟨u, h1, h2⟩ := hx d x (by simp)
    obtain ⟨L', f1, f2⟩ := H.fr
    obtain ⟨d', hd, _, g1, hg1, hput⟩ := H.put hS h2 f2
    cases hd
    obtain ⟨g2, hg2, H2⟩ := putW_ok (hput a ⟨h1, Fr.erA d f1⟩) (fun d x hm => let ⟨u, k1, k2⟩ := hx d x (by simp [hm]); ⟨u, k1, dV_mono hg1.E k2⟩) e
    exact ⟨g2, hg1.tr hg2, H2⟩
  · cases e
 | .w _ _ :: rs, g, st, st', H, hx, e => by
  rw [putW] at e
  exact putW_ok H (fun d x hm => hx d x (by simp [hm])) e
def WW (X : Cx) (E : Env) (F : SH) (T : STs) (h t : Nat) (cs : List Value) (rs : List Wr) (bs : Nat -> Bool) (w : World) : Prop :=
 ∃ Ts Us, rplT h h (.box t (cellB bs 0 rs cs)) T = some Ts /\ Sep X.w0 X.F0 X.R w F Us /\ TsR E Ts Us
theorem wdst {l : List Oper} {st0 : St} {h : Nat} {rs : List Wr} (hlen : rs.length = l.length) (hrs : ∀ i o, l[i]? = some o -> ∃ r, rs[i]? = some r /\ exW1 tb l.toArray st0 h i (rs.take i) o = some r) {j d : Nat} {x : Value} (hj : rs[j]? = some (.v d x)) : dstAt l.toArray j = some d := by
 have hjl : j < l.length := by rw [<- hlen]; exact (List.getElem?_eq_some_iff.1 hj).1
 have hlj : l[j]? = some l[j] := List.getElem?_eq_getElem hjl
 obtain ⟨r2, e1, e2⟩ := hrs j _ hlj
 rw [hj] at e1
 cases e1
 unfold dstAt
 rw [show l.toArray[j]? = some l[j] by simp]
 dsimp only
 unfold exW1 at e2
 dsimp only at e2
 split at e2
 · split at e2
   · split at e2
     · split at e2
       · split at e2
         · split at e2
           · split at e2
             · have := mkW_eq e2; cases this; assumption
             · cases e2
           · cases e2
         · cases e2
       · cases e2
     · cases e2
   · split at e2
     · cases e2
     · split at e2
       · split at e2
         · split at e2
           · split at e2
             · split at e2
               · split at e2
                 · split at e2
                   · split at e2
                     · cases e2
                     · cases e2
                   · cases e2
                 · cases e2
               · cases e2
             · cases e2
           · cases e2
         · cases e2
       · cases e2
   · split at e2
     · split at e2
       · have := mkW_eq e2; cases this; assumption
       · cases e2
     · cases e2
 · cases e2
theorem wob {l : List Oper} (htb : TbOk P tb) {st0 : St} {E : Env} {F : SH} {Lb : List (Nat × Value)} {h t i : Nat} {cs : List Value} {rs : List Wr} {o : Oper} {r : Wr} (hLb : LR E st0.L Lb) (hT : asc st0.T h = some (.box t cs)) (hd : dstsB X.N Lb l = true) (hoff : offsD cs.length rs = true) (hlen : rs.length = l.length)
    (hrs : ∀ i o, l[i]? = some o -> ∃ r, rs[i]? = some r /\ exW1 tb l.toArray st0 h i (rs.take i) o = some r) (ho : l[i]? = some o) (hr : rs[i]? = some r) :
    WOb P l.toArray X.N Lb (rs.map (gOf E)) (WW X E F st0.T h t cs rs) i o (gOf E r) := by
 rintro bs a w ⟨Ts, Us, hTs, hs, hR⟩ hf hdone
 obtain ⟨r', hr', he⟩ := hrs i o ho
 have : r' = r := by rw [hr] at hr'; exact (Option.some.inj hr').symm
 subst this
 have hdst : ∀ {j d x}, rs[j]? = some (.v d x) -> dstAt l.toArray j = some d := fun hj => wdst hlen hrs hj
 obtain ⟨L1, f1, f2⟩ := wL_ok (ops := l.toArray) (i := i) (k := 0) hf hLb (rs := rs.take i) fun j d x hj hw => by
  rw [Nat.zero_add] at hw
  have hj' : rs[j]? = some (.v d x) := by
   rw [List.getElem?_take] at hj
   split at hj
   · exact hj
   · cases hj
  have := hdone j d hw (hdst hj')
  unfold gW at this
  rw [List.getD_eq_getElem?_getD, List.getElem?_map, hj'] at this
  exact ⟨_, rfl, this⟩
 have hWd : ∀ {w'}, WW X E F st0.T h t cs rs bs w' -> (∀ d x, r' = .v d x -> WW X E F st0.T h t cs rs (upd bs i) w') := by
  rintro w' ⟨Ts', Us', q1, q2, q3⟩ d x rfl
  refine ⟨Ts', Us', ?_, q2, q3⟩
  rw [<- q1]
  congr 2
  have key : ∀ {rs : List Wr} {k m : Nat} {cs : List Value}, rs[m]? = some (.v d x) -> cellB (upd bs (k + m)) k rs cs = cellB bs k rs cs := by
   intro rs
   induction rs with
   | nil => intro k m cs hm; simp at hm
   | cons r rs ih =>
    intro k m cs hm
    cases m with
    | zero =>
     have : r = .v d x := by simpa using hm
     subst this
     rw [cellB, cellB]
     exact cellB_congr fun j hj => updW_ne (by omega)
    | succ m =>
     have e := fun cs => @ih (k + 1) m cs (by simpa using hm)
     rw [show k + 1 + m = k + (m + 1) by omega] at e
     cases r with
     | v d' x' => rw [cellB, cellB]; exact e _
     | w o' x' =>
      rw [cellB, cellB, updW_ne (show k ≠ k + (m + 1) by omega)]
      exact e _
  have := @key rs 0 i cs hr
  rw [Nat.zero_add] at this
  exact this
 unfold exW1 at he
 dsimp only at he
 split at he
 · rename_i hg
   split at he
   · rename_i T x hop
     split at he
     · rename_i d hdo
       split at he
       · rename_i hok
         split at he
         · rename_i h' off hx
           split at he
           · rename_i cs1 hld
             split at he
             · rename_i v hv
               have := mkW_eq he
               subst this
               obtain ⟨u, h1, h2⟩ := evO_rel f2 hok hx
               obtain ⟨q, n, m, hE, rfl⟩ := dV_ptr h2
               unfold ldW at hld
               split at hld
               · cases hld
               · rename_i hbe
                 have hne : h' ≠ h := by rintro rfl; rw [Nat.beq_refl] at hbe; cases hbe
                 have hasc : asc Ts h' = asc st0.T h' := rplT_ne hne hTs
                 have hcel : ∃ ds, CellsAt (hp w) ⟨q.block, q.off, none⟩ ds /\ mapO (dF E) cs1 = some ds := by
                  split at hld
                  · rename_i t' cs2 hT2
                    cases hld
                    obtain ⟨j, U, e1, b, n', c', ds, e2, e3, rfl⟩ := hR.get (hasc.trans hT2)
                    rw [hE] at e2
                    cases e2
                    exact ⟨ds, hs.cbx j e1, e3⟩
                  · rename_i cs2 hT2
                    cases hld
                    obtain ⟨j, U, e1, b, oo, n', c', ds, e2, e3, rfl⟩ := hR.get (hasc.trans hT2)
                    rw [hE] at e2
                    cases e2
                    exact ⟨ds, hs.ccel j e1, e3⟩
                  · cases hld
                 obtain ⟨ds, h3, h4⟩ := hcel
                 obtain ⟨u, h5, h6⟩ := subV_rel h4 hv
                 have hdN : Nat.blt d X.N = true := Nat.ble_eq_true_of_le (dstsB_get hd i o d ho hdo).1
                 obtain ⟨dst, op, type, pos, after, guard⟩ := o
                 dsimp only at hop hdo hg
                 subst hop hdo
                 refine stp f1 (v := u) (w' := w) (grd_rel f2 hg) ?_ ?_
                 · unfold execOp
                   simp only [evO_ok f1 h1, Sem.run_bind, run_ldC htb h3 (LeH.refl _) h5, Result.andThen, Sem.run_pure]
                 · have hf' := f1.put (d := d) hdN u
                   exact fw_ok rfl hf' (hWd ⟨Ts, Us, hTs, hs, hR⟩ d v rfl) (by
                    have hz := hf'.1
                    show dV E v = some _
                    rw [hz]; exact dV_ofA h6)
             · cases he
           · cases he
         · cases he
       · cases he
     · cases he
   · rename_i T x y hop
     split at he
     · cases he
     · rename_i hdo
       split at he
       · rename_i hok
         split at he
         · rename_i h' off hx
           split at he
           · rename_i hbe
             have := Nat.eq_of_beq_eq_true hbe
             subst this
             split at he
             · rename_i v hv
               split at he
               · rename_i us hus
                 split at he
                 · rename_i u0
                   split at he
                   · rename_i zv s b0 hti
                     split at he
                     · rename_i hs1
                       have := Nat.eq_of_beq_eq_true hs1
                       subst this
                       cases he
                       obtain ⟨u1, h1, h2⟩ := evO_rel f2 (okOs_cons hok).1 hx
                       obtain ⟨q, qn, qm, hE, rfl⟩ := dV_ptr h2
                       obtain ⟨u, h3, h4⟩ := evO_rel f2 (okOs_cons (okOs_cons hok).2).1 hv
                       have h5 := cellsV_ok hus h4
                       have h6 : u.cells = u.cells.toList.toArray := by simp
                       have h7 : u.cells.toList.length = 1 := by rw [mapO_len h5]; rfl
                       have hTs' : asc Ts h' = some (.box t (cellB bs 0 rs cs)) := rplT_at hTs
                       obtain ⟨Ts2, hTs2⟩ := rplT_ex (T' := .box t (cellB (upd bs i) 0 rs cs)) hTs'
                       obtain ⟨j, U0, k1, k2, k3⟩ := hR.rpl hTs' hTs2
                       obtain ⟨b, n', c', ds, k4, k5, rfl⟩ := k2
                       rw [hE] at k4
                       cases k4
                       have hup := @cellB_upd bs cs.length off u0 rs 0 i cs hoff hr
                       rw [Nat.zero_add] at hup
                       have hsp := mapO_spl [u0] u.cells.toList _ _ off h5 k5
                       have hsp2 : mapO (dF E) (cellB (upd bs i) 0 rs cs) = some (spl ds off u.cells.toList) := by rw [<- hup]; exact hsp
                       have hoffn := offsD_get hoff hr
                       obtain ⟨dst, op, type, pos, after, guard⟩ := o
                       dsimp only at hop hdo hg
                       subst hop hdo
                       refine stB htb hti (hs.bx j k1) off u.cells.toList _ h6 h7 (allOne_d h5) (by rw [mapO_len k5, cellB_len]; exact Nat.ble_eq_true_of_le hoffn) rfl (allOne_d hsp) f1 (grd_rel f2 hg) (by simpa using h1) h3 fun w' a' hb hg' _ hf' => ?_
                       refine fw_no rfl hf' ⟨Ts2, _, ?_, hs.updBox j k1 hb hg', k3 _ (Env.le.rfl' _) ⟨_, _, _, _, hE, hsp2, rfl⟩⟩
                       rw [<- hTs2]
                       exact rplT_rpl hTs
                     · cases he
                   · cases he
                 · cases he
               · cases he
             · cases he
           · cases he
         · cases he
       · cases he
   · split at he
     · rename_i d hdo
       split at he
       · rename_i v hv
         have := mkW_eq he
         subst this
         obtain ⟨u, h1, h2⟩ := pureS_rel f2 hv
         have hdN : Nat.blt d X.N = true := Nat.ble_eq_true_of_le (dstsB_get hd i o d ho hdo).1
         have hrun := pureOp_ok htb f1 o h1 w
         obtain ⟨dst, op, type, pos, after, guard⟩ := o
         dsimp only at hdo hg
         subst hdo
         refine stp f1 (v := u) (w' := w) (grd_rel f2 hg) hrun ?_
         have hf' := f1.put (d := d) hdN u
         exact fw_ok rfl hf' (hWd ⟨Ts, Us, hTs, hs, hR⟩ d v rfl) (by
          have hz := hf'.1
          show dV E v = some _
          rw [hz]; exact h2)
       · cases he
     · cases he
 · cases he
theorem wr_ok {ρ : Type} {id : Nat} {p : Hp} {l : List Oper} {st : St} {K : St -> Option ρ} {r : ρ} {g : Gh} {F : SH} {a : Act} {w : World} {Q : Exit -> Act -> World -> Prop} (htb : TbOk P tb) (hmx : P.follows .mixedOrders = true)
    (h : exWr tb X.N p l st K = some r) (H : Rel X g F st a w) (G : GoodK X r K (Q .normal) g F) : (Code.region id l.toArray true).wp P Q a w := by
 unfold exWr at h
 split at h
 · rename_i hh _
   split at h
   · rename_i t cs hT
     dsimp only at h
     split at h
     · rename_i hB
       rw [Bool.and_eq_true] at hB
       obtain ⟨hD, hback⟩ := hB
       split at h
       · rename_i rs hrs
         split at h
         · rename_i hoff
           split at h
           · rename_i cs' hcs
             split at h
             · rename_i st1 hst1
               split at h
               · rename_i st2 hst2
                 have hcs := frcL_ok hcs
                 subst hcs
                 obtain ⟨L', f1, f2⟩ := H.fr
                 obtain ⟨Lb, q1, q2⟩ := lessL_ok (ds := dstsL l) f2 f1
                 obtain ⟨Us, s1, s2⟩ := H.sp
                 let st0 : St := ⟨st.n, lessL (dstsL l) st.L, st.G, st.T, st.GT, st.A⟩
                 have H0 : Rel X g F st0 a w := ⟨H.new, ⟨Lb, q2, q1⟩, fun d v hv => H.tg d v (lessL_asc hv), H.sp, H.tt, H.al⟩
                 have hDb : dstsB X.N Lb l = true := by rw [<- dstsB_keys (L := lessL (dstsL l) st.L) q1.keys]; exact hD
                 obtain ⟨e1, _, e3⟩ := exWs_get hrs rfl
                 rw [Nat.zero_add] at e1
                 have e3 : ∀ i o, l[i]? = some o -> ∃ r, rs[i]? = some r /\ exW1 tb l.toArray st0 hh i (rs.take i) o = some r := fun i o hi => by
                  have := e3 i o hi
                  rw [Nat.zero_add] at this
                  exact this
                 have hx : Ext w { w with drawn := w.drawn + 1 } := ⟨rfl, rfl, rfl, Nat.le_refl _, fun _ _ => rfl⟩
                 refine regW (rs.map (gOf g.E)) (WW X g.E F st.T hh t cs rs) hmx q2 hDb hback ⟨st.T, Us, by rw [cellB_none]; exact rplT_self hT, s1.ext hx, s2⟩ (WObs.mk (by rw [List.length_map, e1]) fun i o hi => ?_) fun bs a' w' hbs hW hf hd => ?_
                 · obtain ⟨r1, k1, k2⟩ := e3 i o hi
                   refine ⟨gOf g.E r1, by rw [List.getElem?_map, k1]; rfl, ?_⟩
                   rw [Nat.zero_add]
                   exact wob (st0 := st0) htb q1 hT hDb hoff e1 e3 hi k1
                 · obtain ⟨Ts, Us2, z1, z2, z3⟩ := hW
                   rw [cellB_all (fun j _ hj => hbs j (Nat.ble_eq_true_of_le (by rw [<- e1]; omega)))] at z1
                   obtain ⟨g1, hg1, hR1⟩ := H0.setW hst1 z1 z2 z3
                   have H1 := hR1 a' ⟨Lb, hf, q1⟩
                   obtain ⟨g2, hg2, H2⟩ := putW_ok H1 (fun d x hm => by
                    obtain ⟨j, hj⟩ := List.getElem?_of_mem hm
                    have hjl : j < l.length := by rw [<- e1]; exact (List.getElem?_eq_some_iff.1 hj).1
                    have hlj : l[j]? = some l[j] := List.getElem?_eq_getElem hjl
                    have hdj : dstAt l.toArray j = some d := wdst e1 e3 hj
                    have := hd j d hdj
                    unfold gW at this
                    rw [List.getD_eq_getElem?_getD, List.getElem?_map, hj] at this
                    exact ⟨_, rfl, dV_mono hg1.E this⟩) hst2
                   exact G _ _ _ _ _ (hg1.tr hg2) (LeH.refl _) H2 h
               · cases h
             · cases h
           · cases h
         · cases h
       · cases h
     · cases h
   · cases h
 · cases h
end
end Dm

namespace Dm
open Go Go.RowKit
inductive Itp where
 | sl (d : Nat) (ag : Bool) (c : TC)
 | bx (h : Hp) (t : Nat) (c : TC)
 | rw (h : Hp) (e : Nat) (c : TC)
 | ar (h : Hp) (t : Nat) (k : IntKind) (m : Nat)
 | nb (d t : Nat) (c : TC)
 | mp (h : Hp) (k : KC) (v : VC)
structure Shp where
 ks : List Nat
 pins : List Nat
 it : List Itp
def Itp.find (st : St) : Itp -> Option It
 | .sl d ag c => some (.sl d ag c)
 | .bx h t c => (match h.find st with
  | some k => some (.bx k t c)
  | none => none)
 | .rw h e c => (match h.find st with
  | some k => some (.rw k e c)
  | none => none)
 | .ar h t k m => (match h.find st with
  | some x => some (.ar x t k m)
  | none => none)
 | .nb d t c => some (.nb d t c)
 | .mp h k v => (match h.find st with
  | some x => some (.mp x k v)
  | none => none)
def itsF (st : St) : List Itp -> Option (List It)
 | [] => some []
 | i :: l => match i.find st with
  | some j => (match itsF st l with
   | some r => some (j :: r)
   | none => none)
  | none => none
def h0 (v : Value) (l : List Nat) : List Nat := match hdlV v with
 | some h => h :: l
 | none => l
def hFs : List Value -> List Nat -> List Nat
 | [], l => l
 | v :: vs, l => hFs vs (match v with
  | .func _ fst cap => cap.toList.foldr h0 (fst.toList.foldr h0 l)
  | v => h0 v l)
def hAs : List Value -> List Nat -> List Nat
 | [], l => l
 | v :: vs, l => hAs vs (match v with
  | .agg cs => hFs cs.toList l
  | v => hFs [v] l)
def hVs : List Value -> List Nat -> List Nat
 | [], l => l
 | v :: vs, l => hVs vs (match v with
  | .tuple cs => hAs cs.toList l
  | v => hAs [v] l)
def close (st : St) : Nat -> List Nat -> List Nat -> List Nat
 | 0, _, dn => dn
 | _ + 1, [], dn => dn
 | f + 1, h :: r, dn => match memH h dn with
  | true => close st f r dn
  | false => (match asc st.A h with
   | some (hh, _, _) => close st f (hh :: r) dn
   | none => (match asc st.T h with
    | some (.box _ cs) => close st f (hFs cs r) (h :: dn)
    | some (.cel cs) => close st f (hFs cs r) (h :: dn)
    | some (.fs _ vs) => close st f (hFs vs r) (h :: dn)
    | some (.mp _ (.p hb) _) => close st f (hb :: r) (h :: dn)
    | some _ => close st f r (h :: dn)
    | none => close st f r dn))
def olds : List It -> List Nat
 | [] => []
 | i :: l => match i.old with
  | some h => h :: olds l
  | none => olds l
def lessN (os : List Nat) : List Nat -> List Nat
 | [] => []
 | h :: l => match memH h os with
  | true => lessN os l
  | false => h :: lessN os l
def valsAt (L : List (Nat × Value)) : List Nat -> List Value
 | [] => []
 | d :: l => match asc L d with
  | some v => v :: valsAt L l
  | none => valsAt L l
def mkSh (p : Shp) (st : St) : Option Sh := match itsF st p.it with
 | some it => some ⟨p.ks, lessN (olds it) (close st 999 (hVs (valsAt st.L p.ks) p.pins) (olds it)), it⟩
 | none => none
def frzAll : List Hp -> St -> Option St
 | [], st => some st
 | p :: ps, st => match p.find st with
  | some h => (match st.frz h with
   | some st1 => frzAll ps st1
   | none => frzAll ps st)
  | none => none
inductive Sc where
 | skip
 | reg (hs : Hs)
 | drw (m : Nat) (vs : List Vk) (hs : Hs)
 | wr (p : Hp)
 | seq (a b : Sc)
 | jn (s : Shp) (a : Sc)
 | fz (ps : List Hp) (a : Sc)
 | cond (a b : Sc)
 | ct (a : Sc)
 | cf (b : Sc)
 | no
 | blk (a : Sc)
 | lp (s : Shp) (a : Sc)
 | lpu (a b : Sc)
 | nil (d : Nat) (a b : Sc)
 | exit
 | ret
abbrev Kt (ρ : Type) := St -> Option ρ
def isU : Sc -> Bool
 | .lpu _ _ => true
 | _ => false
def ex {ρ : Type} (tb : Tb) (N : Nat) (cts : List Ct) (R : Kt ρ) : Sc -> Code -> St -> Kt ρ -> List (Nat × Kt ρ) -> Option ρ
 | .skip, c, st, K, _ => (match c with
  | .skip => K st
  | _ => none)
 | .reg hs, c, st, K, _ => (match c with
  | .region _ ops draw => (match draw with
   | false => exOps tb N cts ops ops.toList 0 hs st K
   | true => none)
  | _ => none)
 | .drw m vs hs, c, st, K, _ => (match c with
  | .region _ ops draw => (match draw with
   | true => exDrw tb N cts m vs hs ops.toList st K
   | false => none)
  | _ => none)
 | .wr p, c, st, K, _ => (match c with
  | .region _ ops draw => (match draw with
   | true => exWr tb N p ops.toList st K
   | false => none)
  | _ => none)
 | .no, _, _, _, _ => none
 | .seq a b, c, st, K, B => (match c with
  | .seq x y => ex tb N cts R a x st (fun st' => ex tb N cts R b y st' K B) B
  | _ => none)
 | .jn p a, c, st, K, B => (match mkSh p st with
  | some sh => Dm.jn (fun (s : denL sh.it) => match inj sh st s with
      | some st2 => K st2
      | none => none) (fun k => ex tb N cts R a c st (fun st' => match prj sh st st' with
      | some s => k s
      | none => none) B)
  | none => none)
 | .fz ps a, c, st, K, B => (match frzAll ps st with
  | some st1 => ex tb N cts R a c st1 K B
  | none => none)
 | .cond a b, c, st, K, B => (match c with
  | .cond q x y => (match okO q with
   | true => (match evO st.L q with
    | some (.bool e) => if e = true then ex tb N cts R a x st K B else ex tb N cts R b y st K B
    | _ => none)
   | false => none)
  | _ => none)
 | .ct a, c, st, K, B => (match c with
  | .cond q x _ => (match okO q with
   | true => (match evO st.L q with
    | some (.bool e) => (match e with
     | true => ex tb N cts R a x st K B
     | false => none)
    | _ => none)
   | false => none)
  | _ => none)
 | .cf b, c, st, K, B => (match c with
  | .cond q _ y => (match okO q with
   | true => (match evO st.L q with
    | some (.bool e) => (match e with
     | true => none
     | false => ex tb N cts R b y st K B)
    | _ => none)
   | false => none)
  | _ => none)
 | .blk a, c, st, K, B => (match c with
  | .block id x => ex tb N cts R a x st K ((id, K) :: B)
  | _ => none)
 | .lp p a, c, st, _, B => (match c with
  | .loop x => (match mkSh p st with
   | some sh => (match prj sh st st with
    | some s0 => loopK (fun (s : denL sh.it) rec => match inj sh st s with
     | some st2 => ex tb N cts R a x st2 (fun st' => match prj sh st st' with
      | some s' => rec s'
      | none => none) B
     | none => none) bigF s0
    | none => none)
   | none => none)
  | _ => none)
 | .lpu a b, c, st, K, B => (match c with
  | .loop x => ex tb N cts R a x st (fun st' => match isU b with
   | true => ex tb N cts R b (.loop x) st' K B
   | false => none) B
  | _ => none)
 | .nil d a b, c, st, K, B => (match asc st.L d with
  | some (.slice none _ _) => ex tb N cts R a c st K B
  | _ => ex tb N cts R b c st K B)
 | .exit, c, st, _, B => (match c with
  | .exit id => (match asc B id with
   | some K' => K' st
   | none => none)
  | _ => none)
 | .ret, c, st, _, _ => (match c with
  | .ret => R st
  | _ => none)
section
variable {ρ : Type} {P : Program} {tb : Tb} {X : Cx} {cts : List Ct} {r : ρ} {R : Kt ρ}
structure Good (X : Cx) (r : ρ) (R K : Kt ρ) (B : List (Nat × Kt ρ)) (Q : Exit -> Act -> World -> Prop) (g : Gh) (F : SH) : Prop where
 k : GoodK X r K (Q .normal) g F
 b : ∀ id K', asc B id = some K' -> GoodK X r K' (Q (.exit id)) g F
 r : GoodK X r R (Q .ret) g F
 p : ∀ c a w d v, Q (.panic c) (a.put d v) w -> Q (.panic c) a w
theorem Good.step {K : Kt ρ} {B : List (Nat × Kt ρ)} {Q : Exit -> Act -> World -> Prop} {g g' : Gh} {F F' : SH} (G : Good X r R K B Q g F) (hg : g.le g') (hF : LeH F F') : Good X r R K B Q g' F' :=
 ⟨G.k.step hg hF, fun id K' h => (G.b id K' h).step hg hF, G.r.step hg hF, G.p⟩
theorem region_arr {id : Nat} {ops : Array Oper} {Q : Exit -> Act -> World -> Prop} {a : Act} {w : World} (h : wpList P ops Q ops.toList a w) : (Code.region id ops false).wp P Q a w := by
 have e : ops = ops.toList.toArray := by simp
 rw [e]
 exact reg (by rw [<- e]; exact h)
theorem ex_ok (htb : TbOk P tb) (hmx : P.follows .mixedOrders = true) (hc : HL P cts) : ∀ (sc : Sc) {c : Code} {st : St} {K : Kt ρ} {B : List (Nat × Kt ρ)} {Q : Exit -> Act -> World -> Prop} {g : Gh} {F : SH} {a : Act} {w : World}, ex tb X.N cts R sc c st K B = some r -> Rel X g F st a w -> Good X r R K B Q g F ->
    c.wp P Q a w /\ (isU sc = true -> ∀ x, c = .loop x -> LW x P Q a w)
 | .skip, c, st, K, B, Q, g, F, a, w, h, H, G => by
  unfold ex at h
  split at h
  · exact ⟨wp_skip (G.k _ _ _ _ _ (Gh.le.rfl' _) (LeH.refl _) H h), fun h => by cases h⟩
  · cases h
 | .reg hs, c, st, K, B, Q, g, F, a, w, h, H, G => by
  unfold ex at h
  split at h
  · split at h
    · exact ⟨region_arr (exOps_ok htb hc h H G.k), fun h => by cases h⟩
    · cases h
  · cases h
 | .drw m vs hs, c, st, K, B, Q, g, F, a, w, h, H, G => by
  unfold ex at h
  split at h
  · rename_i id ops draw
    split at h
    · refine ⟨?_, fun h => by cases h⟩
      have e : ops = ops.toList.toArray := by simp
      rw [e]
      exact drw_ok htb hc hmx G.p h H G.k
    · cases h
  · cases h
 | .wr p, c, st, K, B, Q, g, F, a, w, h, H, G => by
  unfold ex at h
  split at h
  · rename_i id ops draw
    split at h
    · refine ⟨?_, fun h => by cases h⟩
      have e : ops = ops.toList.toArray := by simp
      rw [e]
      exact wr_ok htb hmx h H G.k
    · cases h
  · cases h
 | .no, c, st, K, B, Q, g, F, a, w, h, H, G => by
  unfold ex at h
  cases h
 | .seq x y, c, st, K, B, Q, g, F, a, w, h, H, G => by
  unfold ex at h
  split at h
  · rename_i cx cy
    exact ⟨wp_seq (ex_ok htb hmx hc x (Q := Exit.then (cy.wp P Q) Q) h H ⟨fun st' g' F' a' w' hg hF H' h' => (ex_ok htb hmx hc y h' H' (G.step hg hF)).1, fun id K' h => G.b id K' h, G.r, G.p⟩).1, fun h => by cases h⟩
  · cases h
 | .jn p x, c, st, K, B, Q, g, F, a, w, h, H, G => by
  unfold ex at h
  split at h
  · rename_i sh _
    refine ⟨(ex_ok htb hmx hc x (show ex tb X.N cts R x c st _ B = some r from h) H ⟨fun st' g' F' a' w' hg hF H' h' => ?_, G.b, G.r, G.p⟩).1, fun hu => ?_⟩
    · dsimp only at h'
      split at h'
      · rename_i s hs
        split at h'
        · rename_i st2 h2
          obtain ⟨g2, F2, hg2, hF2, H2⟩ := rejoin H H' hg hs h2
          exact G.k _ _ _ _ _ hg2 (hF.trans hF2) H2 h'
        · cases h'
      · cases h'
    · cases hu
  · cases h
 | .fz ps x, c, st, K, B, Q, g, F, a, w, h, H, G => by
  unfold ex at h
  split at h
  · rename_i st1 h1
    have key : ∀ {ps : List Hp} {st st1 : St} {g : Gh} {F : SH}, frzAll ps st = some st1 -> Rel X g F st a w -> ∃ g' F', g.le g' /\ LeH F F' /\ Rel X g' F' st1 a w := by
     intro ps
     induction ps with
     | nil => intro st st1 g F h H; cases h; exact ⟨g, F, Gh.le.rfl' _, LeH.refl _, H⟩
     | cons p ps ih =>
      intro st st1 g F h H
      rw [frzAll] at h
      split at h
      · split at h
        · rename_i h2
          obtain ⟨g1, F1, a1, a2, H1⟩ := H.frz h2
          obtain ⟨g2, F2, b1, b2, H2⟩ := ih h H1
          exact ⟨g2, F2, a1.tr b1, a2.trans b2, H2⟩
        · exact ih h H
      · cases h
    obtain ⟨g1, F1, a1, a2, H1⟩ := key h1 H
    exact ⟨(ex_ok htb hmx hc x h H1 (G.step a1 a2)).1, fun hu => by cases hu⟩
  · cases h
 | .cond x y, c, st, K, B, Q, g, F, a, w, h, H, G => by
  unfold ex at h
  split at h
  · split at h
    · rename_i ho
      split at h
      · rename_i e hq
        obtain ⟨L', hf, hL⟩ := H.fr
        obtain ⟨u, h1, h2⟩ := evO_rel hL ho hq
        rw [dV_bool h2] at h1
        refine ⟨cnd hf h1 (fun hb => ?_) (fun hb => ?_), fun h => by cases h⟩
        · rw [if_pos hb] at h
          exact (ex_ok htb hmx hc x h H G).1
        · rw [if_neg (by rw [hb]; simp)] at h
          exact (ex_ok htb hmx hc y h H G).1
      · cases h
    · cases h
  · cases h
 | .ct x, c, st, K, B, Q, g, F, a, w, h, H, G => by
  unfold ex at h
  split at h
  · split at h
    · rename_i ho
      split at h
      · rename_i e hq
        obtain ⟨L', hf, hL⟩ := H.fr
        obtain ⟨u, h1, h2⟩ := evO_rel hL ho hq
        rw [dV_bool h2] at h1
        split at h
        · exact ⟨cnd hf h1 (fun _ => (ex_ok htb hmx hc x h H G).1) (fun h => by cases h), fun h => by cases h⟩
        · cases h
      · cases h
    · cases h
  · cases h
 | .cf y, c, st, K, B, Q, g, F, a, w, h, H, G => by
  unfold ex at h
  split at h
  · split at h
    · rename_i ho
      split at h
      · rename_i e hq
        obtain ⟨L', hf, hL⟩ := H.fr
        obtain ⟨u, h1, h2⟩ := evO_rel hL ho hq
        rw [dV_bool h2] at h1
        split at h
        · cases h
        · exact ⟨cnd hf h1 (fun h => by cases h) (fun _ => (ex_ok htb hmx hc y h H G).1), fun h => by cases h⟩
      · cases h
    · cases h
  · cases h
 | .blk x, c, st, K, B, Q, g, F, a, w, h, H, G => by
  unfold ex at h
  split at h
  · rename_i id cx
    refine ⟨wp_block (ex_ok htb hmx hc x (Q := Exit.inBlock id Q) h H ⟨G.k, fun id' K' hb => ?_, G.r, G.p⟩).1, fun h => by cases h⟩
    show GoodK X r K' (fun a w => if id' = id then Q .normal a w else Q (.exit id') a w) g F
    rw [asc] at hb
    split at hb
    · rename_i hbb
      have := Nat.eq_of_beq_eq_true hbb
      dsimp only at this
      subst this
      cases hb
      simpa using G.k
    · rename_i hbb
      have : id' ≠ id := by
       rintro rfl
       dsimp only at hbb
       rw [Nat.beq_refl] at hbb; cases hbb
      simpa [this] using G.b id' K' hb
  · cases h
 | .lp p x, c, st, K, B, Q, g, F, a, w, h, H, G => by
  unfold ex at h
  split at h
  · rename_i cx
    split at h
    · rename_i sh _
      split at h
      · rename_i s0 hs0
        refine ⟨lp (fun s a w => ∃ g2 F2, g.le g2 /\ LeH F F2 /\ ∀ st2, inj sh st s = some st2 -> Rel X g2 F2 st2 a w) (fun rec K' hK s a w hM hb => ?_) ?_ h, fun h => by cases h⟩
        · obtain ⟨g2, F2, hg2, hF2, hR2⟩ := hM
          split at hb
          · rename_i st2 h2
            refine (ex_ok htb hmx hc x (Q := Exit.then K' Q) hb (hR2 st2 h2) ⟨fun st' g' F' a' w' hg hF H' h' => ?_, fun id K'' h => (G.b id K'' h).step hg2 hF2, G.r.step hg2 hF2, G.p⟩).1
            split at h'
            · rename_i s' hs'
              refine hK s' a' w' ?_ h'
              cases hi : inj sh st s' with
              | none => exact ⟨g', F', hg2.tr hg, hF2.trans hF, fun st2 h => by cases h⟩
              | some st3 =>
               obtain ⟨g3, F3, hg3, hF3, H3⟩ := rejoin H H' (hg2.tr hg) hs' hi
               exact ⟨g3, F3, hg3, (hF2.trans hF).trans hF3, fun st2 h => by cases h; exact H3⟩
            · cases h'
          · cases hb
        · cases hi : inj sh st s0 with
          | none => exact ⟨g, F, Gh.le.rfl' _, LeH.refl _, fun st2 h => by cases h⟩
          | some st3 =>
           obtain ⟨g3, F3, hg3, hF3, H3⟩ := rejoin H H (Gh.le.rfl' _) hs0 hi
           exact ⟨g3, F3, hg3, hF3, fun st2 h => by cases h; exact H3⟩
      · cases h
    · cases h
  · cases h
 | .lpu x y, c, st, K, B, Q, g, F, a, w, h, H, G => by
  unfold ex at h
  split at h
  · rename_i cx
    have key : LW cx P Q a w := lpU (ex_ok htb hmx hc x (Q := Exit.then (LW cx P Q) Q) h H ⟨(fun st' g' F' a' w' hg hF H' h' => by
     split at h'
     · rename_i hu
       exact (ex_ok htb hmx hc y h' H' (G.step hg hF)).2 hu cx rfl
     · cases h'), (fun id K' h => G.b id K' h), G.r, G.p⟩).1
    exact ⟨lpS key, fun _ z hz => by cases hz; exact key⟩
  · cases h
 | .nil d x y, c, st, K, B, Q, g, F, a, w, h, H, G => by
  unfold ex at h
  split at h
  · exact ⟨(ex_ok htb hmx hc x h H G).1, fun h => by cases h⟩
  · exact ⟨(ex_ok htb hmx hc y h H G).1, fun h => by cases h⟩
 | .exit, c, st, K, B, Q, g, F, a, w, h, H, G => by
  unfold ex at h
  split at h
  · split at h
    · rename_i K' hK
      exact ⟨wp_exit (G.b _ K' hK _ _ _ _ _ (Gh.le.rfl' _) (LeH.refl _) H h), fun h => by cases h⟩
    · cases h
  · cases h
 | .ret, c, st, K, B, Q, g, F, a, w, h, H, G => by
  unfold ex at h
  split at h
  · exact ⟨wp_ret (G.r _ _ _ _ _ (Gh.le.rfl' _) (LeH.refl _) H h), fun h => by cases h⟩
  · cases h
end
end Dm

namespace Dm
open Go Go.RowKit
def enumV : List Value -> Nat -> List (Nat × Value)
 | [], _ => []
 | v :: l, i => (i, v) :: enumV l (i + 1)
def entS (ps : List PK) (s : denP ps) : St :=
 let L0 := enumV (psV ps s 0) 0
 let T0 := psT ps s 0
 ⟨psN ps + L0.length + T0.length, L0, tgs L0 (psN ps), T0, tgs T0 (psN ps + L0.length), []⟩
def resV (tb : Tb) (st : St) (r : ResultVar) : Option (Value × St) := match r with
 | .tmp t => (match asc st.L t with
  | some v => some (v, st)
  | none => none)
 | .cell x T => (match asc st.L x with
  | some (.pointer (some ⟨h, off, none⟩)) => (match cellsP st h with
   | some (vs, st1) => (match subV tb T vs off with
    | some v => some (v, st1)
    | none => none)
   | none => none)
  | _ => none)
def resVs (tb : Tb) : List ResultVar -> St -> Option (List Value × St)
 | [], st => some ([], st)
 | r :: rs, st => match resV tb st r with
  | some (v, st1) => (match resVs tb rs st1 with
   | some (vs, st2) => some (v :: vs, st2)
   | none => none)
  | none => none
def rt1 : (i : RK) -> List Value -> St -> Option (i.den × List Nat × List Value × St)
 | .val ag c, vs, st => (match vs with
  | v :: r => (match unV ag v with
   | some us => (match pkJ c us st with
    | some (x, ms, [], st1) => some (x, ms, r, st1)
    | _ => none)
   | none => none)
  | _ => none)
 | .ob k t c, vs, st => (match st.tk k with
  | some (.box t' cs, st1) => (match Nat.beq t' t with
   | true => (match pkJ c cs st1 with
    | some (x, ms, [], st2) => some (x, ms, vs, st2)
    | _ => none)
   | false => none)
  | _ => none)
def rts : (l : List RK) -> List Value -> St -> Option (denR l × List Nat × St)
 | [], vs, st => (match vs with
  | [] => some ((), [], st)
  | _ => none)
 | [i], vs, st => (match rt1 i vs st with
  | some (x, ms, [], st1) => some (x, ms, st1)
  | _ => none)
 | i :: j :: l, vs, st => (match rt1 i vs st with
  | some (x, ms, r, st1) => (match rts (j :: l) r st1 with
   | some (y, ms', st2) => some ((x, y), ms ++ ms', st2)
   | none => none)
  | none => none)
def obIn (T : STs) : List RK -> Bool
 | [] => true
 | i :: l => (match i with
  | .val _ _ => obIn T l
  | .ob k _ _ => (match asc T k with
   | some _ => obIn T l
   | none => false))
def retK (tb : Tb) (rv : List ResultVar) (rs : List RK) (st : St) : Option (denR rs) := match resVs tb rv st with
 | some (vs, st1) => (match rts rs vs st1 with
  | some (r, _, _) => some r
  | none => none)
 | none => none
def exF (tb : Tb) (N : Nat) (cts : List Ct) (rv : List ResultVar) (c : Code) (sc : Sc) (ps : List PK) (rs : List RK) (s : denP ps) : Option (denR rs) := match obIn (psT ps s 0) rs with
 | true => ex tb N cts (retK tb rv rs) sc c (entS ps s) (retK tb rv rs) []
 | false => none
section
variable {P : Program} {tb : Tb} {X : Cx} {a : Act} {w : World}
theorem psV_len : ∀ {l : List PK} {x : denP l} {n : Nat}, (psV l x n).length = l.length
 | [], _, _ => rfl
 | p :: l, x, n => by rw [psV, List.length_cons, List.length_cons, psV_len]
theorem enumV_zip : ∀ (l : List Value) (i : Nat), (List.range' i l.length).zip l = enumV l i
 | [], i => rfl
 | v :: l, i => by rw [List.length_cons, List.range'_succ, List.zip_cons_cons, enumV, enumV_zip l (i + 1)]
theorem enumV_LR {E : Env} : ∀ {vs us : List Value} {i : Nat}, mapO (dV E) vs = some us -> LR E (enumV vs i) (enumV us i)
 | [], us, i, h => by cases h; rfl
 | v :: vs, us, i, h => by
  obtain ⟨y, ys, h1, h2, rfl⟩ := mapO_cons h
  exact ⟨y, _, rfl, h1, enumV_LR h2⟩
theorem ent_ok {ps : List PK} {s : denP ps} {E : Env} {N : Nat} {F : SH} {Us : List Th} {us : List Value} (hdom : ∀ h, psN ps <= h -> E h = none) (hV : mapO (dV E) (psV ps s 0) = some us) (hT : TsR E (psT ps s 0) Us) (hs : Sep w F (blks Us) w F Us) (hf : Fr N (enumV us 0) a) :
    ∃ g : Gh, g.E = E /\ Rel ⟨w, F, blks Us, N⟩ g F (entS ps s) a w := by
 let L0 := enumV (psV ps s 0) 0
 let T0 := psT ps s 0
 let n1 := psN ps
 let n2 := n1 + L0.length
 refine ⟨⟨E, fun t => if n1 <= t then (L0[t - n1]?).map (·.2) else none, fun t => if n2 <= t then (T0[t - n2]?).map (·.2) else none⟩, rfl, ?_, ?_, ?_, ?_, ?_, ?_⟩
 · intro h hh
   have hh : n2 + T0.length <= h := hh
   have h1 : n1 <= n2 := Nat.le_add_right _ _
   refine ⟨hdom h (by show n1 <= h; omega), ?_, ?_⟩
   · show (if n1 <= h then _ else _) = _
     rw [if_pos (by omega), List.getElem?_eq_none (by show L0.length <= h - n1; omega)]; rfl
   · show (if n2 <= h then _ else _) = _
     rw [if_pos (by omega), List.getElem?_eq_none (by omega)]; rfl
 · exact ⟨_, hf, enumV_LR hV⟩
 · intro d v hv
   obtain ⟨i, q, h3, h4⟩ := tgs_some (n := n1) hv
   refine ⟨n1 + i, h4, ?_⟩
   show (if n1 <= n1 + i then _ else _) = _
   rw [if_pos (by omega), Nat.add_sub_cancel_left]
   show (L0[i]?).map _ = _
   rw [show L0[i]? = some (q, v) from h3]; rfl
 · exact ⟨Us, hs, hT⟩
 · intro d v hv
   obtain ⟨i, q, h3, h4⟩ := tgs_some (n := n2) hv
   refine ⟨n2 + i, h4, ?_⟩
   show (if n2 <= n2 + i then _ else _) = _
   rw [if_pos (by omega), Nat.add_sub_cancel_left]
   show (T0[i]?).map _ = _
   rw [show T0[i]? = some (q, v) from h3]; rfl
 · intro p v h; cases h
def resSem (a : Act) (r : ResultVar) : Sem Value := match r with
 | .tmp t => pure (a.tmps.getD t undef)
 | .cell x t => do loadVar t (<- asAddr (a.tmps.getD x undef))
theorem resV_ok {g : Gh} {F : SH} {st st1 : St} {r : ResultVar} {v : Value} (htb : TbOk P tb) (H : Rel X g F st a w) (h : resV tb st r = some (v, st1)) : ∃ g' u, g.le g' /\ Rel X g' F st1 a w /\ dV g'.E v = some u /\ (resSem a r).run P w = .ok u w := by
 obtain ⟨L', hf, hL⟩ := H.fr
 unfold resV at h
 split at h
 · split at h
   · rename_i hv
     cases h
     obtain ⟨u, h1, h2⟩ := hL.look hv
     refine ⟨g, u, Gh.le.rfl' _, H, h2, ?_⟩
     unfold resSem
     simp only [Sem.run_pure, hf.look h1]
   · cases h
 · split at h
   · rename_i hh off hx
     split at h
     · rename_i vs st2 hc
       split at h
       · rename_i hv
         cases h
         obtain ⟨u, h1, h2⟩ := hL.look hx
         obtain ⟨q, n, m, hE, rfl⟩ := dV_ptr h2
         obtain ⟨g1, ds, hg1, H1, h3, h4⟩ := cellsP_ok H hc hE
         obtain ⟨u, h5, h6⟩ := subV_rel h4 hv
         refine ⟨g1, u, hg1, H1, dV_ofA h6, ?_⟩
         have k1 := run_ldC htb h3 (LeH.refl _) h5
         unfold Instr.loadAt Instr.sureAddr at k1
         simp only [Sem.run_bind, Sem.run_pure, Result.andThen] at k1
         have ha : ∀ p, asAddr (.pointer (some p)) = pure p := fun _ => rfl
         unfold resSem
         simp only [Sem.run_bind, Sem.run_pure, Result.andThen, hf.look h1, ha, k1]
       · cases h
     · cases h
   · cases h
theorem resVs_ok (htb : TbOk P tb) : ∀ {rs : List ResultVar} {g : Gh} {F : SH} {st st1 : St} {vs : List Value}, Rel X g F st a w -> resVs tb rs st = some (vs, st1) -> ∃ g' us, g.le g' /\ Rel X g' F st1 a w /\ mapO (dV g'.E) vs = some us /\ (rs.mapM (resSem a)).run P w = .ok us w
 | [], g, F, st, st1, vs, H, h => by
  cases h
  exact ⟨g, [], Gh.le.rfl' _, H, rfl, rfl⟩
 | r :: rs, g, F, st, st1, vs, H, h => by
  rw [resVs] at h
  split at h
  · rename_i v s1 h1
    split at h
    · rename_i vs' s2 h2
      cases h
      obtain ⟨g1, u, hg1, H1, e1, e2⟩ := resV_ok htb H h1
      obtain ⟨g2, us, hg2, H2, e3, e4⟩ := resVs_ok htb H1 h2
      refine ⟨g2, u :: us, hg1.tr hg2, H2, mapO_mk (dV_mono hg2.E e1) e3, ?_⟩
      rw [List.mapM_cons]
      simp only [Sem.run_bind, Sem.run_pure, Result.andThen, e2, e4]
    · cases h
  · cases h
theorem ret_run {fn : Func} {T : Value -> World -> Prop} {us : List Value} (hd : a.defers = []) (h : (fn.results.toList.mapM (resSem a)).run P w = .ok us w) (hT : T (packRes us) w) :
    bodyPost P fn (Gives T) .ret a w := by
 refine ⟨hd, packRes us, ?_, _, rfl, hT⟩
 unfold results
 rw [Array.mapM_eq_mapM_toList]
 simp only [Sem.run_bind, map_eq_pure_bind, bind_assoc, pure_bind]
 refine Eq.trans (congrArg (fun r => Result.andThen r _) h) ?_
 simp only [Result.andThen, Sem.run_pure]
 clear h hT
 match us with
 | [] => rfl
 | [v] => rfl
 | u :: v :: r => simp [packRes]
theorem rt1_ok {i : RK} {vs us r : List Value} {ms : List Nat} {st st' : St} {x : i.den} {g : Gh} {F : SH} {Bs : List Th} (H : BRel X g F st Bs a w) (h : rt1 i vs st = some (x, ms, r, st')) (hv : mapO (dV g.E) vs = some us) :
    ∃ g' F' u1 u2 Bn, g.le g' /\ LeH F F' /\ BRel X g' F' st' (Bs ++ Bn) a w /\ us = u1 ++ u2 /\ mapO (dV g'.E) r = some u2 /\ ms.length = i.cnt /\
     ∀ (E2 : Env) (n : Nat), Names E2 g'.E n ms -> (∀ k t c y, i = .ob k t c -> g'.E k = some y -> E2 k = some y) -> mapO (dV E2) (rV1 i x n) = some u1 /\ TsR E2 (rT1 id i x n) Bn := by
 cases i with
 | val ag c =>
  unfold rt1 at h
  dsimp only at h
  split at h
  · rename_i v vs'
    obtain ⟨u, us', h1, h2, rfl⟩ := mapO_cons hv
    split at h
    · rename_i ws hws
      split at h
      · rename_i y m st1 hp
        cases h
        obtain ⟨ds, h3, h4⟩ := unV_ok hws h1
        obtain ⟨g', F', d1, d2, Bn, hg, hF, H', rfl, h5, h6, _, h7⟩ := pkJ_ok H hp h3
        cases h5
        rw [List.append_nil] at h4
        refine ⟨g', F', [u], us', Bn, hg, hF, H', rfl, mapO_mono (fun _ _ => dV_mono hg.E) h2, h6, fun E2 n hN _ => ?_⟩
        obtain ⟨k1, k2⟩ := h7 E2 n hN
        exact ⟨mapO_mk (h4 k1) rfl, k2⟩
      · cases h
    · cases h
  · cases h
 | ob k t c =>
  unfold rt1 at h
  dsimp only at h
  split at h
  · rename_i t' cs st1 hk
    split at h
    · rename_i ht
      have ht := Nat.eq_of_beq_eq_true ht
      subst ht
      split at h
      · rename_i y m st2 hp
        cases h
        obtain ⟨U, ⟨b, n1, c1, ds, e1, e2, rfl⟩, H1⟩ := H.tk hk
        obtain ⟨g', F', d1, d2, Bn, hg, hF, H', rfl, h5, h6, _, h7⟩ := pkJ_ok H1 hp e2
        cases h5
        rw [List.append_nil] at H'
        refine ⟨g', F', [], us, .box b t' d1 :: Bn, hg, hF, by simpa using H', rfl, mapO_mono (fun _ _ => dV_mono hg.E) hv, h6, fun E2 n hN hob => ?_⟩
        obtain ⟨k1, k2⟩ := h7 E2 n hN
        exact ⟨rfl, _, Bn, rfl, ⟨b, n1, c1, d1, hob k t' c _ rfl (hg.E _ _ e1), k1, rfl⟩, k2⟩
      · cases h
    · cases h
  · cases h
theorem rts_ok : ∀ {l : List RK} {vs us : List Value} {ms : List Nat} {st st' : St} {x : denR l} {g : Gh} {F : SH} {Bs : List Th}, BRel X g F st Bs a w -> rts l vs st = some (x, ms, st') -> mapO (dV g.E) vs = some us ->
    ∃ g' F' Bn, g.le g' /\ LeH F F' /\ BRel X g' F' st' (Bs ++ Bn) a w /\ ms.length = rN l /\
     ∀ (E2 : Env) (n : Nat), Names E2 g'.E n ms -> (∀ i ∈ l, ∀ k t c y, i = .ob k t c -> g'.E k = some y -> E2 k = some y) -> mapO (dV E2) (rVs l x n) = some us /\ TsR E2 (rTs id l x n) Bn
 | [], vs, us, ms, st, st', x, g, F, Bs, H, h, hv => by
  unfold rts at h
  split at h
  · cases h; cases hv
    exact ⟨g, F, [], Gh.le.rfl' _, LeH.refl _, by simpa using H, rfl, fun E2 n _ _ => ⟨rfl, rfl⟩⟩
  · cases h
 | [i], vs, us, ms, st, st', x, g, F, Bs, H, h, hv => by
  unfold rts at h
  split at h
  · rename_i h1
    cases h
    obtain ⟨g', F', u1, u2, Bn, hg, hF, H', rfl, h2, h3, h4⟩ := rt1_ok H h1 hv
    cases h2
    refine ⟨g', F', Bn, hg, hF, H', by rw [h3]; rfl, fun E2 n hN hob => ?_⟩
    obtain ⟨k1, k2⟩ := h4 E2 n hN (hob i (by simp))
    rw [List.append_nil]
    exact ⟨k1, k2⟩
  · cases h
 | i :: j :: l, vs, us, ms, st, st', x, g, F, Bs, H, h, hv => by
  unfold rts at h
  split at h
  · rename_i y m r st1 h1
    split at h
    · rename_i z m' st2 h2
      cases h
      obtain ⟨g1, F1, u1, u2, B1, hg1, hF1, H1, rfl, e1, e2, e3⟩ := rt1_ok H h1 hv
      obtain ⟨g2, F2, B2, hg2, hF2, H2, e4, e5⟩ := rts_ok (l := j :: l) H1 h2 e1
      refine ⟨g2, F2, B1 ++ B2, hg1.tr hg2, hF1.trans hF2, by rw [<- List.append_assoc]; exact H2, by rw [List.length_append, e2, e4]; rfl, fun E2 n hN hob => ?_⟩
      obtain ⟨k1, k2⟩ := e3 E2 n (hN.left.mono hg2.E) fun k t c y he hy => hob i (by simp) k t c y he (hg2.E _ _ hy)
      obtain ⟨k3, k4⟩ := e5 E2 (n + i.cnt) (by rw [<- e2]; exact hN.right) fun q hq => hob q (by simp only [List.mem_cons] at hq ⊢; exact .inr hq)
      exact ⟨mapO_app k1 k3, k2.app k4⟩
    · cases h
  · cases h
theorem obIn_get {T : STs} : ∀ {l : List RK}, obIn T l = true -> ∀ i ∈ l, ∀ k t c, i = .ob k t c -> ∃ U, asc T k = some U
 | [], _, i, hi, _, _, _, _ => by simp at hi
 | q :: l, h, i, hi, k, t, c, e => by
  unfold obIn at h
  rw [List.mem_cons] at hi
  split at h
  · rcases hi with rfl | hi
    · cases e
    · exact obIn_get h i hi k t c e
  · split at h
    · rename_i U hU
      rcases hi with rfl | hi
      · cases e; exact ⟨U, hU⟩
      · exact obIn_get h i hi k t c e
    · cases h
theorem Holds.mk' {C : Ct} {fn : Func} {c : Code} {N : Nat} {sc : Sc} {cts : List Ct} (htb : TbOk P tb) (hmx : P.follows .mixedOrders = true) (hc : HL P cts) (hf : P.funcs[C.f]? = some fn) (hb : fn.body = some c) (hN : fn.ntmps = N) (hnm : (fn.name == "runtime.NumGoroutine") = false) (hl : Nat.ble C.ps.length N = true)
    (hS : C.S = exF tb N cts fn.results.toList c sc C.ps C.rs) : Holds P C := ⟨⟨fn, hf, hnm, by rw [hb]; rfl⟩, fun s r hr E w F Us vs hdom hV hT hs => by
 rw [hS] at hr
 unfold exF at hr
 split at hr
 · rename_i hob
   have hlen : vs.length = C.ps.length := by rw [mapO_len hV, psV_len]
   refine fn_ok hf hb N hN (by rw [hlen]; exact Nat.le_of_ble_eq_true hl) fun a hfr => ?_
   rw [List.range_eq_range', enumV_zip] at hfr
   obtain ⟨g0, rfl, H0⟩ := ent_ok hdom hV hT hs hfr
   have fin : GoodK ⟨w, F, blks Us, N⟩ r (retK tb fn.results.toList C.rs) (bodyPost P fn (Gives fun u w' => ∃ E' F' Vs us, g0.E.le E' /\ LeH F F' /\ mapO (dV E') (rVs C.rs r (psN C.ps)) = some us /\ u = packRes us /\ Sep w F (blks Us) w' F' Vs /\ TsR E' (rTs id C.rs r (psN C.ps)) Vs) .ret) g0 F := by
    intro st' g' F' a' w' hg hF H' hK
    unfold retK at hK
    split at hK
    · rename_i ws st1 h1
      split at hK
      · rename_i rr ms st2 h2
        cases hK
        obtain ⟨g1, us, hg1, H1, e1, e2⟩ := resVs_ok htb H' h1
        obtain ⟨g2, F2, Bn, hg2, hF2, H2, e3, e4⟩ := rts_ok H1.b h2 e1
        obtain ⟨L', hf', _⟩ := H'.fr
        refine ret_run hf'.base.2 e2 ?_
        let E2 : Env := fun k => if k < psN C.ps then g0.E k else match ms[k - psN C.ps]? with
         | some m => g2.E m
         | none => none
        have hle : g0.E.le E2 := fun k y e => by
         show (if k < psN C.ps then _ else _) = _
         rw [if_pos]
         · exact e
         · rcases Nat.lt_or_ge k (psN C.ps) with h | h
           · exact h
           · rw [hdom k h] at e; cases e
        have hNm : Names E2 g2.E (psN C.ps) ms := fun j m y hj hy => by
         show (if psN C.ps + j < psN C.ps then _ else _) = _
         rw [if_neg (by omega), Nat.add_sub_cancel_left, hj]; exact hy
        obtain ⟨k1, k2⟩ := e4 E2 _ hNm fun i hi k t c y he hy => by
         obtain ⟨U, hU⟩ := obIn_get hob i hi k t c he
         obtain ⟨j, V, _, hV⟩ := hT.get hU
         obtain ⟨z, hz⟩ := hV.some
         have := ((hg.tr hg1).tr hg2).E _ _ hz
         rw [hy] at this
         cases this
         exact hle _ _ hz
        obtain ⟨Vs, hs2, _⟩ := H2.sp
        rw [List.nil_append] at hs2
        exact ⟨E2, F2, Bn, us, hle, hF.trans hF2, k1, rfl, hs2.dropL, k2⟩
      · cases hK
    · cases hK
   exact (ex_ok htb hmx hc sc (Q := bodyPost P fn _) hr H0 ⟨fin, (fun id K' h => by cases h), fin, fun c a w d v h => by cases d <;> exact h⟩).1
 · cases hr⟩
end
end Dm

namespace Dm
open Go Go.RowKit
section
variable {P : Program}
theorem Holds.slSl {f e : Nat} {c : TC} {S : List c.den -> Option (List c.den)} (hent : Ent P f)
    (h : ∀ {w : World} {F : SH} {xs : List c.den} {ao : Option Addr} {cp : Nat}, Sep w F (blks [.ro c.ty (.slice ao xs.length cp) xs]) w F [.ro c.ty (.slice ao xs.length cp) xs] -> ∀ {r : List c.den}, S xs = some r ->
     Calls P f [.slice ao xs.length cp].toArray w (Gives (fun u w' => ∃ (ao1 : Option Addr) (cp1 : Nat) (F' : SH), u = .slice ao1 r.length cp1 /\ Sep w F (blks [.ro c.ty (.slice ao xs.length cp) xs]) w' F' [.row e c.ty (.slice ao1 r.length cp1) r]))) :
    Holds P ⟨f, [.v false (.sl none c)], [.val false (.sl (some e) c)], fun s => S s.1⟩ := ⟨hent, fun s r hr E w F Us vs hd hV hT hs => by
 obtain ⟨xs, u0⟩ := s
 obtain ⟨v, vs', h1, h2, rfl⟩ := mapO_cons hV
 cases h2
 obtain ⟨U, Us', rfl, ⟨x, e1, rfl⟩, h3⟩ := hT
 cases h3
 have hro := hs.ok 0 _ rfl
 obtain ⟨ao, cap, hsh⟩ := (show RO F c.ty (slV x) xs from hro).shape
 have hv : v = slV x := by
  have h1 : dV E (.slice (some ⟨0, 0, none⟩) 0 0) = some v := h1
  simp only [dV, dA, dF, d0, e1] at h1
  exact (Option.some.inj h1).symm
 subst hv
 rw [hsh] at hs ⊢
 refine Calls_mono' (h hs hr) ?_
 rintro u w' ⟨ao1, cp1, F', rfl, hs'⟩
 refine ⟨E.add 1 ⟨ao1, r.length, cp1⟩, F', _, [.slice ao1 r.length cp1], Env.le_add (hd 1 (Nat.le_refl _)), hs'.leF, ?_, rfl, hs', ⟨_, [], rfl, ⟨_, Env.at_add, rfl⟩, rfl⟩⟩
 refine mapO_mk (y := Value.slice ao1 r.length cp1) (ys := ([] : List Value)) ?_ rfl
 show dV _ (.slice (some ⟨1, 0, none⟩) 0 0) = _
 simp only [dV, dA, dF, d0, Env.at_add]⟩
theorem Holds.ssB {f : Nat} {S : List UInt8 -> List UInt8 -> Option Bool} (hent : Ent P f)
    (h : ∀ {w : World} {F : SH} {s t : List UInt8}, Sep w F (blks []) w F [] -> ∀ {r : Bool}, S s t = some r -> Calls P f [strV s, strV t].toArray w (Gives (fun u w' => ∃ (F' : SH), u = .bool r /\ Sep w F (blks []) w' F' []))) :
    Holds P ⟨f, [.v false .s, .v false .s], [.val false .b], fun s => S s.1 s.2.1⟩ := ⟨hent, fun s r hr E w F Us vs hd hV hT hs => by
 obtain ⟨x, y, u0⟩ := s
 cases hV
 cases hT
 refine Calls_mono' (h hs hr) ?_
 rintro u w' ⟨F', rfl, hs'⟩
 exact ⟨E, F', [], [.bool r], Env.le.rfl' _, hs'.leF, rfl, rfl, hs', rfl⟩⟩
end
end Dm
