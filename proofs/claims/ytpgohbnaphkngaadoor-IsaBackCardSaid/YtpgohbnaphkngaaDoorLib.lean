/-
  The library of this part's walks: frames told by their live slots, an evaluator of pure operations that the kernel runs, heaps that only grow, slices that are read and rows that are owned, rules for regions, tests, joins, loops and calls. No condition; nothing of a program is named here.
-/
import Derived.Test.YtpgohbnaphkngaaDoorPre
import Derived.WalkKit
import Derived.Deep.Quiet
import Derived.Laws.AppendOwnNone
import Derived.KernelRfl
import Derived.Laws.StructEq
import Derived.Laws.Tables
namespace Dm
open Go Go.RowKit

/-! ### association lists, frames -/
def asc {β : Type} : List (Nat × β) → Nat → Option β
  | [], _ => none
  | p :: L, t => match Nat.beq p.1 t with
    | true => some p.2
    | false => asc L t

def er (d : Nat) : List (Nat × Value) → List (Nat × Value)
  | [] => []
  | p :: L => match Nat.beq p.1 d with
    | true => er d L
    | false => p :: er d L

/-- what a frame holds in its live slots -/
def Fr (N : Nat) : List (Nat × Value) → Act → Prop
  | [], a => a.tmps.size = N ∧ a.defers = []
  | p :: L, a => a.tmps.getD p.1 undef = p.2 ∧ Fr N L a

theorem Fr.base {N : Nat} : ∀ {L : List (Nat × Value)} {a : Act}, Fr N L a → a.tmps.size = N ∧ a.defers = []
  | [], _, h => h
  | _ :: _, _, h => Fr.base h.2

theorem Fr.look {N : Nat} : ∀ {L : List (Nat × Value)} {a : Act} {t : Nat} {v : Value}, Fr N L a → asc L t = some v → a.tmps.getD t undef = v
  | [], _, _, _, _, h => by simp [asc] at h
  | p :: L, a, t, v, hf, h => by
    simp only [asc] at h
    split at h
    · rename_i hb
      have e : p.1 = t := Nat.eq_of_beq_eq_true hb
      have e2 : p.2 = v := by simpa using h
      rw [← e, ← e2]; exact hf.1
    · exact Fr.look hf.2 h

def keepL (L : List (Nat × Value)) : List Nat → Option (List (Nat × Value))
  | [] => some []
  | t :: ts => match asc L t with
    | none => none
    | some v => match keepL L ts with
      | none => none
      | some r => some ((t, v) :: r)

theorem Fr.keep {N : Nat} {L : List (Nat × Value)} {a : Act} (hf : Fr N L a) : ∀ {ks : List Nat} {L' : List (Nat × Value)}, keepL L ks = some L' → Fr N L' a
  | [], L', h => by simp only [keepL, Option.some.injEq] at h; rw [← h]; exact hf.base
  | t :: ts, L', h => by
    simp only [keepL] at h
    split at h
    · simp at h
    · rename_i v hv
      split at h
      · simp at h
      · rename_i r hr
        simp only [Option.some.injEq] at h
        rw [← h]
        exact ⟨hf.look hv, Fr.keep hf hr⟩

theorem getD_put_same (xs : Array Value) (d : Nat) (v u : Value) (h : d < xs.size) : (xs.setIfInBounds d v).getD d u = v := by
  simp [Array.getD_eq_getD_getElem?, h]
theorem getD_put_ne (xs : Array Value) (d i : Nat) (v u : Value) (h : i ≠ d) : (xs.setIfInBounds d v).getD i u = xs.getD i u := by
  simp [Array.getD_eq_getD_getElem?, Ne.symm h]

theorem Fr.er_put {N : Nat} {d : Nat} {v : Value} : ∀ {L : List (Nat × Value)} {a : Act}, Fr N L a → Fr N (er d L) (a.put (some d) v)
  | [], a, h => ⟨by simp only [Act.put, Array.size_setIfInBounds]; exact h.1, h.2⟩
  | p :: L, a, h => by
    simp only [er]
    split
    · exact Fr.er_put h.2
    · rename_i hb
      refine ⟨?_, Fr.er_put h.2⟩
      have hne : p.1 ≠ d := fun e => by rw [e] at hb; simp at hb
      simp only [Act.put]
      rw [getD_put_ne _ _ _ _ _ hne]; exact h.1
theorem Fr.put {N d : Nat} {L : List (Nat × Value)} {a : Act} (h : Fr N L a) (hd : Nat.blt d N = true) (v : Value) : Fr N ((d, v) :: er d L) (a.put (some d) v) := by
  have hd' : d < N := Nat.le_of_ble_eq_true hd
  exact ⟨by simp only [Act.put]; exact getD_put_same _ _ _ _ (by rw [h.base.1]; exact hd'), h.er_put⟩

/-! ### the tables of a program, as lists -/
structure Tb where
  und : List (Nat × TypeDesc)
  info : List (Nat × (Value × Nat × Nat))
  ag : List Nat := []
structure TbOk (P : Program) (tb : Tb) : Prop where
  und : ∀ p ∈ tb.und, P.underlying p.1 = some p.2
  info : ∀ p ∈ tb.info, (P.info? p.1).map (fun i => (i.zero, i.size, i.bytes)) = some (some p.2.1, p.2.2.1, p.2.2.2)
  ag : ∀ t ∈ tb.ag, P.stoodInHeld t = false ∧ P.eqGuardType P.depth t = false

theorem asc_mem {β : Type} : ∀ {L : List (Nat × β)} {t : Nat} {v : β}, asc L t = some v → (t, v) ∈ L
  | [], _, _, h => by simp [asc] at h
  | p :: L, t, v, h => by
    simp only [asc] at h
    split at h
    · rename_i hb
      have e : p.1 = t := Nat.eq_of_beq_eq_true hb
      have e2 : p.2 = v := by simpa using h
      rw [← e, ← e2]; simp
    · exact List.mem_cons_of_mem _ (asc_mem h)
theorem TbOk.u {P : Program} {tb : Tb} (h : TbOk P tb) {t : Nat} {d : TypeDesc} (e : asc tb.und t = some d) : P.underlying t = some d := h.und _ (asc_mem e)
theorem TbOk.i {P : Program} {tb : Tb} (h : TbOk P tb) {t : Nat} {z : Value} {s b : Nat} (e : asc tb.info t = some (z, s, b)) :
    ∃ i, P.info? t = some i ∧ i.zero = some z ∧ i.size = s ∧ i.bytes = b := info_parts (h.info _ (asc_mem e))

/-! ### operands, pure operations -/
def evO (L : List (Nat × Value)) : Operand → Option Value
  | .tmp t => asc L t
  | .const v => some v
  | .global g => some (.pointer (some ⟨g, 0, none⟩))
  | .func f => some (.func (.func f) #[] #[])
theorem evO_ok {N : Nat} {L : List (Nat × Value)} {a : Act} (hf : Fr N L a) {o : Operand} {v : Value} (h : evO L o = some v) : a.eval o = v := by
  cases o <;> simp only [evO, Option.some.injEq] at h <;> simp only [Act.eval]
  · exact hf.look h
  · exact h
  · exact h
  · exact h
def evL (L : List (Nat × Value)) : List Operand → Option (List Value)
  | [] => some []
  | o :: os => match evO L o with
    | none => none
    | some v => match evL L os with
      | none => none
      | some r => some (v :: r)
theorem evL_ok {N : Nat} {L : List (Nat × Value)} {a : Act} (hf : Fr N L a) : ∀ {os : List Operand} {vs : List Value}, evL L os = some vs → os.map a.eval = vs
  | [], vs, h => by simp only [evL, Option.some.injEq] at h; simp [← h]
  | o :: os, vs, h => by
    simp only [evL] at h
    split at h
    · simp at h
    · rename_i v hv
      split at h
      · simp at h
      · rename_i r hr
        simp only [Option.some.injEq] at h
        rw [List.map_cons, evO_ok hf hv, evL_ok hf hr, h]

/-- division and shifts are pure where the right side is a numeral that does not fail -/
def intBin (op : BinOp) (k : IntKind) (a : Int) (k' : IntKind) (b : Int) : Option Value :=
  match op with
  | .shl => if b < 0 then none else some (.int k (shl k a b))
  | .shr => if b < 0 then none else some (.int k (shr k a b))
  | op => if k ≠ k' then none else match op with
    | .add => some (.int k (k.wrap (a + b)))
    | .sub => some (.int k (k.wrap (a - b)))
    | .mul => some (.int k (k.wrap (a * b)))
    | .quo => if b = 0 then none else some (.int k (k.wrap (a.tdiv b)))
    | .rem => if b = 0 then none else some (.int k (a.tmod b))
    | .and => some (.int k (band k a b))
    | .or => some (.int k (bor k a b))
    | .xor => some (.int k (bxor k a b))
    | .andNot => some (.int k (bandn k a b))
    | .eql => some (.bool (a == b))
    | .neq => some (.bool (a != b))
    | .lss => some (.bool (decide (a < b)))
    | .leq => some (.bool (decide (a ≤ b)))
    | .gtr => some (.bool (decide (a > b)))
    | .geq => some (.bool (decide (a ≥ b)))
    | _ => none
def strV (l : List UInt8) : Value := .string ⟨l.toArray⟩
def bstr (b : ByteArray) : List UInt8 := b.data.toList
def strBin (op : BinOp) (s t : ByteArray) : Option Value :=
  match op with
  | .eql => some (.bool (bstr s == bstr t))
  | .neq => some (.bool (!(bstr s == bstr t)))
  | .lss => some (.bool (Op.bytesLess (bstr s) (bstr t)))
  | _ => none
def pk (b : Bool) (x y : Option Value) : Option Value :=
  match x with
  | some (.bool p) => (match y with
    | some (.bool q) => some (.bool (cond b p q))
    | _ => match b with
      | true => x
      | false => y)
  | _ => match b with
    | true => x
    | false => y
def isIntT (tb : Tb) (t : Nat) : Option IntKind :=
  match asc tb.und t with
  | some (.int k) => some k
  | _ => none
def lenOf (tb : Tb) (t : Nat) (v : Value) : Option Value :=
  match asc tb.und t with
  | some .string => (match v with
    | .string s => some (.int .i64 ((bstr s).length : Int))
    | _ => none)
  | some (.slice _) => (match v with
    | .slice _ n _ => some (.int .i64 (n : Int))
    | _ => none)
  | _ => none
/-! structs and arrays: cells in a row -/
def plc (tb : Tb) : List Field → Option (List (Nat × Nat))
  | [] => some []
  | f :: fs => match asc tb.info f.type with
    | some i => (match plc tb fs with
      | some r => some ((f.offset, i.2.1) :: r)
      | none => none)
    | none => none
def builtT (tb : Tb) (t : Nat) (parts : List (Nat × Value)) : Option (Array Value) :=
  match asc tb.info t with
  | some i => (match asc tb.und t with
    | some (.array _ e) => (match asc tb.info e with
      | some j => Instr.fill (fun i => some (i * j.2.1, j.2.1)) i.1.cells parts
      | none => none)
    | some (.struct fields) => (match plc tb fields.toList with
      | some pl => Instr.fill (pl.toArray[·]?) i.1.cells parts
      | none => none)
    | _ => none)
  | none => none
def evP (L : List (Nat × Value)) : List (Nat × Operand) → Option (List (Nat × Value))
  | [] => some []
  | p :: ps => match evO L p.2 with
    | some v => (match evP L ps with
      | some r => some ((p.1, v) :: r)
      | none => none)
    | none => none
def isAg : TypeDesc → Bool
  | .struct _ => true
  | .array _ _ => true
  | _ => false
def partT (tb : Tb) (t : Nat) (cs : Array Value) (off : Nat) : Option Value :=
  match asc tb.und t with
  | some d => (match isAg d with
    | true => (match asc tb.info t with
      | some i => some (.agg (cs.extract off (off + i.2.1)))
      | none => none)
    | false => cs.toList[off]?)
  | none => none
def memN (t : Nat) : List Nat → Bool
  | [] => false
  | x :: xs => match Nat.beq x t with
    | true => true
    | false => memN t xs
def eqFs (tb : Tb) (eqv : Nat → Value → Value → Option Bool) (xs ys : Array Value) : List Field → Option Bool
  | [] => some true
  | f :: fs => match f.name == "_" with
    | true => none
    | false => (match partT tb f.type xs f.offset with
      | some a => (match partT tb f.type ys f.offset with
        | some b => (match eqv f.type a b with
          | some r => (match fs with
            | [] => some r
            | _ => (match eqFs tb eqv xs ys fs with
              | some q => some (r && q)
              | none => none))
          | none => none)
        | none => none)
      | none => none)
def eqVs (tb : Tb) : Nat → Nat → Value → Value → Option Bool
  | 0, _, _, _ => none
  | d + 1, t, x, y => match asc tb.und t with
    | some (.int _) => (match x with
      | .int k a => (match y with
        | .int k' b => if k = k' then some (a == b) else none
        | _ => none)
      | _ => none)
    | some .bool => (match x with
      | .bool a => (match y with
        | .bool b => some (a == b)
        | _ => none)
      | _ => none)
    | some .string => (match x with
      | .string a => (match y with
        | .string b => some (bstr a == bstr b)
        | _ => none)
      | _ => none)
    | some (.struct fields) => (match x with
      | .agg xs => (match y with
        | .agg ys => (match memN t tb.ag with
          | true => eqFs tb (eqVs tb d) xs ys fields.toList
          | false => none)
        | _ => none)
      | _ => none)
    | _ => none
def int2 (x y : Option Value) (f : Int → Int → Int) : Option Value :=
  match x with
  | some (.int k a) => (match y with
    | some (.int _ b) => some (.int k (f a b))
    | _ => none)
  | _ => none
theorem int2_ok {x y : Option Value} {f : Int → Int → Int} {v : Value} (h : int2 x y f = some v) : ∃ k k' a b, x = some (.int k a) ∧ y = some (.int k' b) ∧ v = .int k (f a b) := by
  unfold int2 at h
  split at h
  · split at h
    · simp only [Option.some.injEq] at h; exact ⟨_, _, _, _, rfl, rfl, h.symm⟩
    · simp at h
  · simp at h
def pureOp (tb : Tb) (L : List (Nat × Value)) : Op → Option Value
  | .build t parts => (match evP L parts.toList with
    | some ps => (match builtT tb t ps with
      | some cs => some (.agg cs)
      | none => none)
    | none => none)
  | .field t x f => (match evO L x with
    | some (.agg cs) => (match asc tb.und t with
      | some (.struct fields) => (match fields.toList[f]? with
        | some fl => partT tb fl.type cs fl.offset
        | none => none)
      | _ => none)
    | _ => none)
  | .fieldAddr t x f => (match evO L x with
    | some (.pointer (some ⟨b, o, none⟩)) => (match asc tb.und t with
      | some (.struct fields) => (match fields.toList[f]? with
        | some fl => (match asc tb.info fl.type with
          | some i => (match Nat.beq i.2.1 0 with
            | true => none
            | false => some (.pointer (some ⟨b, o + fl.offset, none⟩)))
          | none => none)
        | none => none)
      | _ => none)
    | _ => none)
  | .move x => evO L x
  | .assign x => evO L x
  | .pick c x y => (match evO L c with
    | some (.bool b) => pk b (evO L x) (evO L y)
    | _ => none)
  | .unOp op _ x => (match evO L x with
    | some (.bool b) => (match op with
      | .not => some (.bool (!b))
      | _ => none)
    | some (.int k n) => (match op with
      | .neg => some (.int k (k.wrap (0 - n)))
      | .xor => some (.int k (bnot k n))
      | _ => none)
    | _ => none)
  | .binOp op t x y _ => (match evO L x with
    | some (.int k a) => (match evO L y with
      | some (.int k' b) => intBin op k a k' b
      | _ => none)
    | some (.string s) => (match evO L y with
      | some (.string s') => strBin op s s'
      | _ => none)
    | some (.agg xs) => (match evO L y with
      | some (.agg ys) => (match memN t tb.ag with
        | true => (match eqVs tb 10 t (.agg xs) (.agg ys) with
          | some r => (match op with
            | .eql => some (.bool r)
            | .neq => some (.bool (!r))
            | _ => none)
          | none => none)
        | false => none)
      | _ => none)
    | some (.bool p) => (match evO L y with
      | some (.bool q) => (match asc tb.und t with
        | some .bool => (match op with
          | .eql => some (.bool (p == q))
          | .neq => some (.bool (!(p == q)))
          | _ => none)
        | _ => none)
      | _ => none)
    | _ => none)
  | .convert src dst x => (match evO L x with
    | some (.int _ n) => (match asc tb.und src with
      | some _ => (match asc tb.und dst with
        | some (.int k) => some (.int k (k.wrap n))
        | _ => none)
      | none => none)
    | some (.string s) => (match asc tb.und src with
      | some .string => (match asc tb.und dst with
        | some .string => some (.string s)
        | _ => none)
      | _ => none)
    | _ => none)
  | .extract x i => (match evO L x with
    | some (.tuple vs) => vs.toList[i]?
    | _ => none)
  | .makeFunc fn fst cap => (match evL L fst.toList with
    | some fs => (match evL L cap.toList with
      | some cs => some (.func fn fs.toArray cs.toArray)
      | none => none)
    | none => none)
  | .call c => (match c.callee with
    | .builtin .len => (match c.args.toList with
      | [x] => (match c.argTypes.toList with
        | [t] => (match evO L x with
          | some v => lenOf tb t v
          | none => none)
        | _ => none)
      | _ => none)
    | .builtin .max => (match c.args.toList with
      | [x, y] => int2 (evO L x) (evO L y) imax
      | _ => none)
    | .builtin .min => (match c.args.toList with
      | [x, y] => int2 (evO L x) (evO L y) imin
      | _ => none)
    | _ => none)
  | _ => none

section pure
variable {P : Program} {tb : Tb}
theorem run_intBin {op : BinOp} {k k' : IntKind} {a b : Int} {v : Value} (h : intBin op k a k' b = some v) (t : TypeId) (w : World) :
    (binOp op t (.int k a) (.int k' b)).run P w = .ok v w := by
  by_cases hk : k = k'
  · subst hk
    cases op <;> simp only [intBin, ne_eq, not_true_eq_false, if_false, Option.some.injEq] at h <;>
      simp only [binOp, Op.shift, Op.intArith, Op.intDiv, Op.intBits, Op.intCmp, ne_eq, not_true_eq_false, if_false]
    all_goals first
      | (subst h; rfl)
      | (split at h
         · simp at h
         · rename_i hb
           simp only [Option.some.injEq] at h; subst h; simp only [hb, if_false]; rfl)
  · cases op <;> simp only [intBin, ne_eq, hk, not_false_eq_true, if_true, reduceCtorEq] at h
    all_goals
      split at h
      · simp at h
      · rename_i hb
        simp only [Option.some.injEq] at h; subst h; simp only [binOp, Op.shift, hb, if_false]; rfl
theorem bstr_toList (b : ByteArray) : b.toList = bstr b := by
  exact Go.ByteArray.toList_eq b
theorem run_strBin {op : BinOp} {s s' : ByteArray} {v : Value} (h : strBin op s s' = some v) (t : TypeId) (w : World) :
    (binOp op t (.string s) (.string s')).run P w = .ok v w := by
  unfold strBin at h
  cases op <;> simp only [reduceCtorEq, Option.some.injEq] at h <;> subst h <;> simp only [binOp, Op.stringOp, bstr_toList] <;> rfl
theorem eqGuard_int (op : BinOp) (t : TypeId) (x y : Operand) (k k' : IntKind) (a b : Int) (w : World) : (eqGuard op t x y (.int k a) (.int k' b)).run P w = .ok () w := by
  unfold eqGuard; cases op <;> rfl
theorem eqGuard_str (op : BinOp) (t : TypeId) (x y : Operand) (a b : ByteArray) (w : World) : (eqGuard op t x y (.string a) (.string b)).run P w = .ok () w := by
  unfold eqGuard; cases op <;> rfl
theorem eqGuard_bool (op : BinOp) (t : TypeId) (x y : Operand) (a b : Bool) (w : World) : (eqGuard op t x y (.bool a) (.bool b)).run P w = .ok () w := by
  unfold eqGuard; cases op <;> rfl
theorem pk_ok {b : Bool} {x y : Option Value} {v : Value} (h : pk b x y = some v) : (if b then x else y) = some v := by
  unfold pk at h
  cases b <;> (repeat' split at h) <;> simp_all
theorem asc_und {t : Nat} {d : TypeDesc} (htb : TbOk P tb) (h : asc tb.und t = some d) (w : World) : (underlying t).run P w = .ok d w := run_underlying (htb.u h) w
theorem run_conv_int (htb : TbOk P tb) {s d : Nat} {sd : TypeDesc} {k k' : IntKind} {n : Int} (hs : asc tb.und s = some sd) (hd : asc tb.und d = some (.int k)) (w : World) :
    (convert s d (.int k' n)).run P w = .ok (.int k (k.wrap n)) w := by
  unfold convert
  simp only [Sem.run_bind, asc_und htb hs, asc_und htb hd, Result.andThen]
  rfl
theorem run_conv_str (htb : TbOk P tb) {s d : Nat} {b : ByteArray} (hs : asc tb.und s = some .string) (hd : asc tb.und d = some .string) (w : World) :
    (convert s d (.string b)).run P w = .ok (.string b) w := by
  unfold convert
  simp only [Sem.run_bind, asc_und htb hs, asc_und htb hd, Result.andThen]
  rfl
theorem run_len (htb : TbOk P tb) {t ty : Nat} {x v : Value} (h : lenOf tb t x = some v) (w : World) : (Builtin.len_ #[t] ty #[x]).run P w = .ok v w := by
  unfold lenOf at h
  unfold Builtin.len_
  split at h
  · rename_i hu
    split at h
    · simp only [Option.some.injEq] at h; subst h
      simp only [List.getElem?_toArray, List.getElem?_cons_zero, Sem.run_bind, asc_und htb hu, Result.andThen]
      rfl
    · simp at h
  · rename_i hu
    split at h
    · simp only [Option.some.injEq] at h; subst h
      simp only [List.getElem?_toArray, List.getElem?_cons_zero, Sem.run_bind, asc_und htb hu, Result.andThen]
      rfl
    · simp at h
  · simp at h
theorem run_bool_eq (htb : TbOk P tb) {t : Nat} (hu : asc tb.und t = some .bool) (p q : Bool) (w : World) : (Op.equal t (.bool p) (.bool q)).run P w = .ok (p == q) w := by
  unfold Op.equal Op.maxDepth Op.equalIn
  simp only [Sem.run_bind, asc_und htb hu, Result.andThen]
  rfl
theorem cellsOf_of' {e s : Nat} {inf : TypeInfo} (hinf : P.info? e = some inf) (hs : inf.size = s) : P.cellsOf e = s := by
  unfold Program.cellsOf; rw [hinf]; exact hs
theorem plc_ok (htb : TbOk P tb) : ∀ {fs : List Field} {r : List (Nat × Nat)}, plc tb fs = some r → fs.mapM (fun f => (P.info? f.type).map fun i => (f.offset, i.size)) = some r
  | [], r, h => by simp only [plc, Option.some.injEq] at h; subst h; rfl
  | f :: fs, r, h => by
    simp only [plc] at h
    split at h
    · rename_i i hi
      split at h
      · rename_i q hq
        simp only [Option.some.injEq] at h; subst h
        obtain ⟨z, s, b⟩ := i
        obtain ⟨i, h1, _, h3, _⟩ := htb.i hi
        simp only [List.mapM_cons, h1, Option.map_some, h3, plc_ok htb hq]; rfl
      · simp at h
    · simp at h
theorem builtT_ok (htb : TbOk P tb) {t : Nat} {parts : List (Nat × Value)} {cs : Array Value} (h : builtT tb t parts = some cs) : P.built t parts = some cs := by
  unfold builtT at h
  split at h
  · rename_i i hi
    obtain ⟨z, s, b⟩ := i
    obtain ⟨i, h1, h2, h3, _⟩ := htb.i hi
    split at h
    · rename_i n e hu
      split at h
      · rename_i j hj
        obtain ⟨z', s', b'⟩ := j
        obtain ⟨j, g1, _, g3, _⟩ := htb.i hj
        unfold Program.built
        simp only [h1, htb.u hu, h2, g1, g3]; exact h
      · simp at h
    · rename_i fields hu
      split at h
      · rename_i pl hpl
        unfold Program.built
        simp only [h1, htb.u hu, h2, plc_ok htb hpl]; exact h
      · simp at h
    · simp at h
  · simp at h
theorem evP_ok {N : Nat} {L : List (Nat × Value)} {a : Act} (hf : Fr N L a) : ∀ {ps : List (Nat × Operand)} {vs : List (Nat × Value)}, evP L ps = some vs → ps.map (fun p => (p.1, a.eval p.2)) = vs
  | [], vs, h => by simp only [evP, Option.some.injEq] at h; subst h; rfl
  | p :: ps, vs, h => by
    simp only [evP] at h
    split at h
    · rename_i v hv
      split at h
      · rename_i r hr
        simp only [Option.some.injEq] at h; subst h
        rw [List.map_cons, evO_ok hf hv, evP_ok hf hr]
      · simp at h
    · simp at h
theorem run_isAgT (htb : TbOk P tb) {t : Nat} {d : TypeDesc} (h : asc tb.und t = some d) (w : World) : (isAgg t).run P w = .ok (isAg d) w := by
  unfold isAgg
  simp only [Sem.run_bind, asc_und htb h, Result.andThen]
  cases d <;> rfl
theorem partT_ok (htb : TbOk P tb) {t : Nat} {cs : Array Value} {off : Nat} {v : Value} (h : partT tb t cs off = some v) (w : World) : (part t cs off).run P w = .ok v w := by
  unfold partT at h
  unfold part
  split at h
  · rename_i d hd
    split at h
    · rename_i ha
      split at h
      · rename_i i hi
        simp only [Option.some.injEq] at h; subst h
        obtain ⟨z, s, b⟩ := i
        obtain ⟨i, h1, _, h3, _⟩ := htb.i hi
        simp only [Sem.run_bind, run_isAgT htb hd, ha, Result.andThen, if_true, run_sizeOf w h1, cellsOf_of' h1 h3]; rfl
      · simp at h
    · rename_i ha
      have h2 : cs[off]? = some v := by simpa using h
      simp only [Sem.run_bind, run_isAgT htb hd, ha, Result.andThen, Bool.false_eq_true, if_false, h2]; rfl
  · simp at h
theorem memN_ok : ∀ {l : List Nat} {t : Nat}, memN t l = true → t ∈ l
  | [], _, h => by simp [memN] at h
  | x :: xs, t, h => by
    simp only [memN] at h
    split at h
    · rename_i hb; rw [Nat.eq_of_beq_eq_true hb]; simp
    · exact List.mem_cons_of_mem _ (memN_ok h)
theorem eqFs_ok (htb : TbOk P tb) {eqv : Nat → Value → Value → Option Bool} {d : Nat} (hv : ∀ {t x y r} (_ : eqv t x y = some r) (w : World), (Op.equalIn d t x y).run P w = .ok r w) {xs ys : Array Value} :
    ∀ {fs : List Field} {r : Bool}, eqFs tb eqv xs ys fs = some r → ∀ w, (Op.eqFields d xs ys fs).run P w = .ok r w
  | [], r, h, w => by simp only [eqFs, Option.some.injEq] at h; subst h; rfl
  | f :: fs, r, h, w => by
    simp only [eqFs] at h
    split at h
    · simp at h
    · rename_i hn
      have hn' : f.name ≠ "_" := by simpa using hn
      split at h
      · rename_i va ha
        split at h
        · rename_i vb hb
          split at h
          · rename_i q hq
            simp only [Op.eqFields, if_pos hn', Sem.run_bind, partT_ok htb ha, partT_ok htb hb, hv hq, Result.andThen]
            split at h
            · simp only [Option.some.injEq] at h; subst h
              cases q <;> rfl
            · split at h
              · rename_i q2 hq2
                simp only [Option.some.injEq] at h; subst h
                cases q
                · rfl
                · simp only [Bool.not_true, Bool.false_eq_true, if_false, Bool.true_and]
                  exact eqFs_ok htb hv hq2 w
              · simp at h
          · simp at h
        · simp at h
      · simp at h
theorem eqVs_ok (htb : TbOk P tb) : ∀ (d m : Nat) {t : Nat} {x y : Value} {r : Bool}, eqVs tb d t x y = some r → ∀ w, (Op.equalIn (d + m) t x y).run P w = .ok r w
  | 0, _, _, _, _, _, h, _ => by simp [eqVs] at h
  | d + 1, m, t, x, y, r, h, w => by
    have ed : d + 1 + m = (d + m) + 1 := by omega
    rw [ed]
    simp only [eqVs] at h
    split at h
    · rename_i k0 hu
      split at h
      · split at h
        · split at h
          · rename_i hk
            subst hk
            simp only [Option.some.injEq] at h; subst h
            exact run_equalIn_int w _ _ _ _ _ _ (htb.u hu)
          · simp at h
        · simp at h
      · simp at h
    · rename_i hu
      split at h
      · split at h
        · simp only [Option.some.injEq] at h; subst h
          exact run_equalIn_bool' w _ _ _ _ (htb.u hu)
        · simp at h
      · simp at h
    · rename_i hu
      split at h
      · split at h
        · simp only [Option.some.injEq] at h; subst h
          rw [run_equalIn_string w _ _ _ _ (htb.u hu), bstr_toList, bstr_toList]
        · simp at h
      · simp at h
    · rename_i fields hu
      split at h
      · split at h
        · split at h
          · rename_i hm
            have e : P.fieldsOf t = fields := by unfold Program.fieldsOf; rw [htb.u hu]
            rw [run_equalIn_struct w _ _ _ _ (by rw [e]; exact htb.u hu) (htb.ag t (memN_ok hm)).1, e]
            exact eqFs_ok htb (fun hq w => eqVs_ok htb d m hq w) h w
          · simp at h
        · simp at h
      · simp at h
    · simp at h
theorem pureOp_ok (htb : TbOk P tb) {N : Nat} {L : List (Nat × Value)} {a : Act} (hf : Fr N L a) (o : Oper) {v : Value} (h : pureOp tb L o.op = some v) (w : World) :
    (execOp a.eval o).run P w = .ok (.value v) w := by
  cases o with
  | mk dst op type pos after guard =>
  cases op <;> simp only [pureOp, reduceCtorEq] at h
  case move x => simp only [execOp, evO_ok hf h]; rfl
  case assign x => simp only [execOp, evO_ok hf h]; rfl
  case pick c x y =>
    split at h
    · rename_i b hc
      have h2 := pk_ok h
      simp only [execOp, evO_ok hf hc]
      cases b
      · simp only [Bool.false_eq_true, if_false] at h2; rw [evO_ok hf h2]; rfl
      · simp only [if_true] at h2; rw [evO_ok hf h2]; rfl
    · simp at h
  case unOp op ty x =>
    split at h
    · rename_i b hx
      split at h
      · simp only [Option.some.injEq] at h; subst h; simp only [execOp, evO_ok hf hx]; rfl
      · simp at h
    · rename_i k n hx
      split at h
      · simp only [Option.some.injEq] at h; subst h; simp only [execOp, evO_ok hf hx]; rfl
      · simp only [Option.some.injEq] at h; subst h; simp only [execOp, evO_ok hf hx]; rfl
      · simp at h
    · simp at h
  case binOp op t x y t' =>
    split at h
    · rename_i k n hx
      split at h
      · rename_i k' m hy
        simp only [execOp, evO_ok hf hx, evO_ok hf hy, Sem.run_bind, eqGuard_int, Result.andThen, run_intBin h]; rfl
      · simp at h
    · rename_i s hx
      split at h
      · rename_i s' hy
        simp only [execOp, evO_ok hf hx, evO_ok hf hy, Sem.run_bind, eqGuard_str, Result.andThen, run_strBin h]; rfl
      · simp at h
    · rename_i xs hx
      split at h
      · rename_i ys hy
        split at h
        · rename_i hm
          split at h
          · rename_i q hq
            have hg := (htb.ag t (memN_ok hm)).2
            have he : (Op.equal t (.agg xs) (.agg ys)).run P w = .ok q w := eqVs_ok htb 10 9990 hq w
            split at h
            · simp only [Option.some.injEq] at h; subst h
              simp only [execOp, evO_ok hf hx, evO_ok hf hy, Sem.run_bind, run_eqGuard_agg w _ _ _ _ _ _ hg, Result.andThen, binOp, he]; rfl
            · simp only [Option.some.injEq] at h; subst h
              simp only [execOp, evO_ok hf hx, evO_ok hf hy, Sem.run_bind, run_eqGuard_agg w _ _ _ _ _ _ hg, Result.andThen, binOp, he]; rfl
            · simp at h
          · simp at h
        · simp at h
      · simp at h
    · rename_i p hx
      split at h
      · rename_i q hy
        split at h
        · rename_i hu
          split at h
          · simp only [Option.some.injEq] at h; subst h
            simp only [execOp, evO_ok hf hx, evO_ok hf hy, Sem.run_bind, eqGuard_bool, Result.andThen, binOp, run_bool_eq htb hu]; rfl
          · simp only [Option.some.injEq] at h; subst h
            simp only [execOp, evO_ok hf hx, evO_ok hf hy, Sem.run_bind, eqGuard_bool, Result.andThen, binOp, run_bool_eq htb hu]; rfl
          · simp at h
        · simp at h
      · simp at h
    · simp at h
  case build t parts =>
    split at h
    · rename_i ps hps
      split at h
      · rename_i cs hcs
        simp only [Option.some.injEq] at h; subst h
        have e : (parts.map fun x => (x.1, a.eval x.2)).toList = ps := by rw [Array.toList_map]; exact evP_ok hf hps
        have e2 := run_build (P := P) w t (parts.map fun x => (x.1, a.eval x.2)) cs (by rw [e]; exact builtT_ok htb hcs)
        simp only [execOp, Sem.run_bind, e2, Result.andThen]; rfl
      · simp at h
    · simp at h
  case field t x f =>
    split at h
    · rename_i cs hx
      split at h
      · rename_i fields hu
        split at h
        · rename_i fl hfl
          have hfl' : fields[f]? = some fl := by simpa using hfl
          simp only [execOp, evO_ok hf hx, Instr.field, Sem.run_bind, asc_und htb hu, Result.andThen, hfl', asAgg, Sem.run_pure, partT_ok htb h]
        · simp at h
      · simp at h
    · simp at h
  case fieldAddr t x f =>
    split at h
    · rename_i b o hx
      split at h
      · rename_i fields hu
        split at h
        · rename_i fl hfl
          split at h
          · rename_i i hi
            split at h
            · simp at h
            · rename_i hz
              simp only [Option.some.injEq] at h; subst h
              have hfl' : fields[f]? = some fl := by simpa using hfl
              obtain ⟨z, s, b⟩ := i
              obtain ⟨i, h1, _, h3, _⟩ := htb.i hi
              have hz2 : ¬ s = 0 := fun e => by subst e; simp at hz
              simp only [execOp, evO_ok hf hx, Instr.fieldAt, Sem.run_bind, asc_und htb hu, Result.andThen, hfl', Instr.sureAddr, Sem.run_pure, fieldPlace, run_sizeOf w h1, cellsOf_of' h1 h3, hz2, if_false, Addr.add_lit]
          · simp at h
        · simp at h
      · simp at h
    · simp at h
  case convert s d x =>
    split at h
    · rename_i k n hx
      split at h
      · rename_i sd hs
        split at h
        · rename_i k' hd
          simp only [Option.some.injEq] at h; subst h
          simp only [execOp, evO_ok hf hx, Sem.run_bind, run_conv_int htb hs hd, Result.andThen]; rfl
        · simp at h
      · simp at h
    · rename_i b hx
      split at h
      · rename_i hs
        split at h
        · rename_i hd
          simp only [Option.some.injEq] at h; subst h
          simp only [execOp, evO_ok hf hx, Sem.run_bind, run_conv_str htb hs hd, Result.andThen]; rfl
        · simp at h
      · simp at h
    · simp at h
  case extract x i =>
    split at h
    · rename_i vs hx
      simp only [execOp, evO_ok hf hx]
      have hv : vs[i]? = some v := by simpa using h
      simp only [Instr.extract, hv]; rfl
    · simp at h
  case makeFunc fn fst cap =>
    split at h
    · rename_i fs hfs
      split at h
      · rename_i cs hcs
        simp only [Option.some.injEq] at h; subst h
        have e1 : fst.map a.eval = fs.toArray := by rw [← evL_ok hf hfs, ← List.map_toArray]
        have e2 : cap.map a.eval = cs.toArray := by rw [← evL_ok hf hcs, ← List.map_toArray]
        simp only [execOp, Instr.makeFunc, e1, e2]; rfl
      · simp at h
    · simp at h
  case call c =>
    split at h
    · rename_i hc
      split at h
      · rename_i x hx
        split at h
        · rename_i t ht
          split at h
          · rename_i u hu
            have e1 : c.args = #[x] := by rw [← hx]
            have e2 : c.argTypes = #[t] := by rw [← ht]
            simp only [execOp, resolve, hc, e1, e2, List.map_toArray, List.map_cons, List.map_nil, evO_ok hf hu]
            simp only [Sem.run_bind, invoke, builtin, Sem.run_pure, Result.andThen, run_len htb h]
          · simp at h
        · simp at h
      · simp at h
    · rename_i hc
      split at h
      · rename_i x y hx
        obtain ⟨k, k', m, n, h1, h2, rfl⟩ := int2_ok h
        have e1 : c.args = #[x, y] := by rw [← hx]
        simp only [execOp, resolve, hc, e1, List.map_toArray, List.map_cons, List.map_nil, evO_ok hf h1, evO_ok hf h2]
        simp only [Sem.run_bind, invoke, builtin, Sem.run_pure, Result.andThen]
        rfl
      · simp at h
    · rename_i hc
      split at h
      · rename_i x y hx
        obtain ⟨k, k', m, n, h1, h2, rfl⟩ := int2_ok h
        have e1 : c.args = #[x, y] := by rw [← hx]
        simp only [execOp, resolve, hc, e1, List.map_toArray, List.map_cons, List.map_nil, evO_ok hf h1, evO_ok hf h2]
        simp only [Sem.run_bind, invoke, builtin, Sem.run_pure, Result.andThen]
        rfl
      · simp at h
    · simp at h

/-! ### a stretch of pure operations, run by the kernel -/
def grd (ops : Array Oper) (L : List (Nat × Value)) : Option (Nat × Bool) → Option Bool
  | none => some true
  | some (j, want) => (match ops.toList[j]? with
    | some o => (match o.dst with
      | some d => (match asc L d with
        | some (.bool b) => some (b == want)
        | some (.tuple _) => some false
        | _ => none)
      | none => none)
    | none => none)
def runP (tb : Tb) (N : Nat) (ops : Array Oper) : Nat → List Oper → List (Nat × Value) → Option (List (Nat × Value))
  | 0, _, L => some L
  | _ + 1, [], _ => none
  | n + 1, o :: l, L => (match grd ops L o.guard with
    | some false => (match o.dst with
      | some d => (match Nat.blt d N with
        | true => runP tb N ops n l ((d, undef) :: er d L)
        | false => none)
      | none => runP tb N ops n l L)
    | some true => (match o.dst with
      | some d => (match Nat.blt d N with
        | true => (match pureOp tb L o.op with
          | some v => runP tb N ops n l ((d, v) :: er d L)
          | none => none)
        | false => none)
      | none => none)
    | none => none)
def runK (tb : Tb) (N : Nat) (ops : Array Oper) (n : Nat) (l : List Oper) (L : List (Nat × Value)) (ks : List Nat) : Option (List (Nat × Value)) :=
  match runP tb N ops n l L with
  | some L' => keepL L' ks
  | none => none

theorem getD_some {xs : Array Value} {t : Nat} {v : Value} (h : xs.getD t undef = v) (hv : v ≠ undef) : xs[t]? = some v := by
  rw [Array.getD_eq_getD_getElem?] at h
  cases e : xs[t]? with
  | none => rw [e] at h; exact absurd h.symm hv
  | some u => rw [e] at h; simp at h; rw [h]
theorem grd_ok {N : Nat} {ops : Array Oper} {L : List (Nat × Value)} {a : Act} (hf : Fr N L a) {o : Oper} {b : Bool} (h : grd ops L o.guard = some b) :
    Region.wanted o (yielded ops a.tmps) = b := by
  unfold grd at h
  unfold Region.wanted
  split at h
  · rename_i hg; simp only [hg]; simpa using h
  · rename_i j want hg
    simp only [hg]
    split at h
    · rename_i o' ho
      split at h
      · rename_i d hd
        have ho' : ops[j]? = some o' := by simpa using ho
        unfold yielded
        simp only [ho', Option.bind_some, hd]
        split at h
        · rename_i c hc
          have e := getD_some (hf.look hc) (by simp [undef])
          simp only [e]
          simp only [Option.some.injEq] at h; rw [← h]; cases c <;> cases want <;> rfl
        · rename_i vs hc
          have e := hf.look hc
          rw [Array.getD_eq_getD_getElem?] at e
          simp only [Option.some.injEq] at h; subst h
          cases e2 : a.tmps[d]? with
          | none => rfl
          | some u => rw [e2] at e; simp at e; subst e; rfl
        · simp at h
      · simp at h
    · simp at h

variable {ops : Array Oper} {Q : Exit → Act → World → Prop} {N : Nat}
theorem Fr.put_none {L : List (Nat × Value)} {a : Act} (h : Fr N L a) (v : Value) : Fr N L (a.put none v) := h
theorem runP_ok (htb : TbOk P tb) {w : World} : ∀ (n : Nat) {l : List Oper} {L L' : List (Nat × Value)} {a : Act}, Fr N L a → runP tb N ops n l L = some L' →
    (∀ a', Fr N L' a' → wpList P ops Q (l.drop n) a' w) → wpList P ops Q l a w
  | 0, l, L, L', a, hf, h, k => by
    simp only [runP, Option.some.injEq] at h; subst h; exact k a hf
  | n + 1, [], L, L', a, hf, h, k => by simp [runP] at h
  | n + 1, o :: l, L, L', a, hf, h, k => by
    simp only [runP] at h
    split at h
    · rename_i hg
      have hw := grd_ok hf hg
      have hstep : ∀ {L2 : List (Nat × Value)}, Fr N L2 (a.put o.dst undef) → runP tb N ops n l L2 = some L' → wpList P ops Q (o :: l) a w := by
        intro L2 hf2 h2
        unfold wpList
        rw [if_neg (by rw [hw]; simp)]
        exact runP_ok htb n hf2 h2 k
      split at h
      · rename_i d hd
        split at h
        · rename_i hb; exact hstep (by rw [hd]; exact hf.put hb _) h
        · simp at h
      · rename_i hd; exact hstep (by rw [hd]; exact hf.put_none _) h
    · rename_i hg
      have hw := grd_ok hf hg
      split at h
      · rename_i d hd
        split at h
        · rename_i hb
          split at h
          · rename_i v hv
            unfold wpList
            rw [if_pos hw]
            refine Or.inl ?_
            unfold Oper.wp
            rw [pureOp_ok htb hf o hv w]
            simp only [Oper.upon]
            rw [hd]
            exact runP_ok htb n (hf.put hb _) h k
          · simp at h
        · simp at h
      · simp at h
    · simp at h
theorem runQ_ok (htb : TbOk P tb) {C : World → Prop} {R : Act → Prop} : ∀ (n : Nat) {l : List Oper} {L L' : List (Nat × Value)} {a : Act}, Fr N L a → runP tb N ops n l L = some L' →
    (∀ a', Fr N L' a' → wpQuiet P ops C R (l.drop n) a') → wpQuiet P ops C R l a
  | 0, l, L, L', a, hf, h, k => by
    simp only [runP, Option.some.injEq] at h; subst h; exact k a hf
  | n + 1, [], L, L', a, hf, h, k => by simp [runP] at h
  | n + 1, o :: l, L, L', a, hf, h, k => by
    simp only [runP] at h
    split at h
    · rename_i hg
      have hw := grd_ok hf hg
      have hstep : ∀ {L2 : List (Nat × Value)}, Fr N L2 (a.put o.dst undef) → runP tb N ops n l L2 = some L' → wpQuiet P ops C R (o :: l) a := by
        intro L2 hf2 h2
        unfold wpQuiet
        rw [if_neg (by rw [hw]; simp)]
        exact runQ_ok htb n hf2 h2 k
      split at h
      · rename_i d hd
        split at h
        · rename_i hb; exact hstep (by rw [hd]; exact hf.put hb _) h
        · simp at h
      · rename_i hd; exact hstep (by rw [hd]; exact hf.put_none _) h
    · rename_i hg
      have hw := grd_ok hf hg
      split at h
      · rename_i d hd
        split at h
        · rename_i hb
          split at h
          · rename_i v hv
            unfold wpQuiet
            rw [if_pos hw]
            refine ⟨v, fun w _ => ?_, ?_⟩
            · unfold Oper.quietAt
              rw [pureOp_ok htb hf o hv w]
              exact ⟨rfl, rfl⟩
            · rw [hd]
              exact runQ_ok htb n (hf.put hb _) h k
          · simp at h
        · simp at h
      · simp at h
    · simp at h
/-- PURE OPERATIONS, n of them: the live slots behind them are L' -/
theorem st (htb : TbOk P tb) (n : Nat) (ks : List Nat) {L' : List (Nat × Value)} {w : World} {l : List Oper} {L : List (Nat × Value)} {a : Act} (hf : Fr N L a)
    (h : runK tb N ops n l L ks = some L') (k : ∀ a', Fr N L' a' → wpList P ops Q (l.drop n) a' w) : wpList P ops Q l a w := by
  unfold runK at h
  split at h
  · rename_i L2 h2; exact runP_ok htb n hf h2 fun a' hf' => k a' (hf'.keep h)
  · simp at h
theorem stQ (htb : TbOk P tb) {C : World → Prop} {R : Act → Prop} (n : Nat) (ks : List Nat) {L' : List (Nat × Value)} {l : List Oper} {L : List (Nat × Value)} {a : Act} (hf : Fr N L a)
    (h : runK tb N ops n l L ks = some L') (k : ∀ a', Fr N L' a' → wpQuiet P ops C R (l.drop n) a') : wpQuiet P ops C R l a := by
  unfold runK at h
  split at h
  · rename_i L2 h2; exact runQ_ok htb n hf h2 fun a' hf' => k a' (hf'.keep h)
  · simp at h

/-! ### rules for code -/
section code
variable {id : Nat} {L : List (Nat × Value)} {a : Act} {w : World}
theorem reg {l : List Oper} (h : wpList P l.toArray Q l a w) : (Code.region id l.toArray false).wp P Q a w := wp_region_lit h
theorem cnd {c : Operand} {x y : Code} {b : Bool} (hf : Fr N L a) (hc : evO L c = some (.bool b)) (ht : b = true → x.wp P Q a w) (he : b = false → y.wp P Q a w) : (Code.cond c x y).wp P Q a w :=
  wp_cond_split (evO_ok hf hc) ht he
theorem of_gd {ρ : Type} {c : Prop} [Decidable c] {k : Option ρ} {r : ρ} (h : gd c k = some r) : c ∧ k = some r := by
  unfold gd at h; split at h
  · exact ⟨‹_›, h⟩
  · simp at h
theorem of_bd {α ρ : Type} {m : Option α} {f : α → Option ρ} {r : ρ} (h : m.bind f = some r) : ∃ z, m = some z ∧ f z = some r := by
  cases m with
  | none => simp at h
  | some z => exact ⟨z, rfl, h⟩
theorem of_let {α ρ : Type} {e : α} {f : α → Option ρ} {r : ρ} (h : let1 e f = some r) : ∃ z, z = e ∧ f z = some r := ⟨e, rfl, h⟩
theorem of_t {ρ : Type} {b : Bool} {x y : Option ρ} {r : ρ} (hb : b = true) (h : (if b = true then x else y) = some r) : x = some r := by rw [if_pos hb] at h; exact h
theorem of_f {ρ : Type} {b : Bool} {x y : Option ρ} {r : ρ} (hb : b = false) (h : (if b = true then x else y) = some r) : y = some r := by
  rw [if_neg (by rw [hb]; simp)] at h; exact h

theorem lp {σ ρ : Type} {body : σ → (σ → Option ρ) → Option ρ} {c : Code} {r : ρ} (M : σ → Act → World → Prop)
    (h : ∀ (rec : σ → Option ρ) (K : Act → World → Prop), (∀ st a w, M st a w → rec st = some r → K a w) → ∀ st a w, M st a w → body st rec = some r → c.wp P (Exit.then K Q) a w)
    {n : Nat} {st : σ} (hM : M st a w) (hS : loopK body n st = some r) : (Code.loop c).wp P Q a w := by
  have key : ∀ n st a w, M st a w → loopK body n st = some r → ∀ (b : Frame) (k : List Item) (cs : List Frame), ∃ e a' w', Q e a' w' ∧ Arrives P (lone (b.at a (.code c :: .inLoop c :: k)) cs w) b k cs e a' w' := by
    intro n
    induction n with
    | zero => intro st a w _ hS; simp [loopK] at hS
    | succ n ih =>
      intro st a w hM hS b k cs
      obtain ⟨e, a₁, w₁, hq, harr⟩ := h (loopK body n) _ (fun st a w hM hS => ih st a w hM hS) st a w hM hS b (.inLoop c :: k) cs
      cases e with
      | normal =>
        obtain ⟨e₂, a₂, w₂, hq₂, harr₂⟩ := hq b k cs
        exact ⟨e₂, a₂, w₂, hq₂, .of_steps (Steps.trans harr (.one step_inLoop)) harr₂⟩
      | exit id => exact ⟨_, a₁, w₁, hq, .pass (x := .inLoop c) rfl (fun _ _ => .inl (by simp)) harr⟩
      | goto l => exact ⟨_, a₁, w₁, hq, .pass (x := .inLoop c) rfl (fun _ _ => .inl (by simp)) harr⟩
      | ret => exact ⟨_, a₁, w₁, hq, .pass (x := .inLoop c) rfl (fun _ _ => .inl (by simp)) harr⟩
      | panic ch => exact ⟨_, a₁, w₁, hq, .pass (x := .inLoop c) rfl (fun _ _ => .inl (by simp)) harr⟩
      | outgrown => exact ⟨_, a₁, w₁, hq, .pass (x := .inLoop c) rfl (fun _ _ => .inl (by simp)) harr⟩
  intro b k cs
  obtain ⟨e, a', w', hq, harr⟩ := key n st a w hM hS b k cs
  exact ⟨e, a', w', hq, .of_steps (.one step_loop) harr⟩

/-- where ways meet again: the rest K, told once -/
theorem sq {x y : Code} (h : x.wp P (Exit.then (y.wp P Q) Q) a w) : (Code.seq x y).wp P Q a w := wp_seq h
theorem sqj {σ ρ : Type} {K : σ → Option ρ} {B : (σ → Option ρ) → Option ρ} {r : ρ} {x y : Code} (M : σ → Act → World → Prop) (hS : jn K B = some r)
    (h1 : ∀ st a w, M st a w → K st = some r → y.wp P Q a w)
    (h2 : ∀ (K' : Act → World → Prop) (rec : σ → Option ρ), (∀ st a w, M st a w → rec st = some r → K' a w) → B rec = some r → x.wp P (Exit.then K' Q) a w) : (Code.seq x y).wp P Q a w :=
  wp_seq (h2 _ K h1 hS)
/-- the same inside a list of operations: at the end of a region -/
theorem rgj {σ ρ : Type} {K : σ → Option ρ} {B : (σ → Option ρ) → Option ρ} {r : ρ} {l : List Oper} (M : σ → Act → World → Prop) (hS : jn K B = some r)
    (h1 : ∀ st a w, M st a w → K st = some r → Q .normal a w)
    (h2 : ∀ (K' : Act → World → Prop) (rec : σ → Option ρ), (∀ st a w, M st a w → rec st = some r → K' a w) → B rec = some r → wpList P ops (Exit.then K' Q) l a w) : wpList P ops Q l a w := by
  have := h2 (fun a w => Q .normal a w) K h1 hS
  have e : (Exit.then (fun a w => Q .normal a w) Q) = Q := by funext e a w; cases e <;> rfl
  rwa [e] at this
theorem blk {c : Code} (h : c.wp P (Exit.inBlock id Q) a w) : (Code.block id c).wp P Q a w := wp_block h
end code

/-! ### calls -/
def Ent (P : Program) (f : Nat) : Prop := ∃ fn, P.funcs[f]? = some fn ∧ (fn.name == "runtime.NumGoroutine") = false ∧ fn.body.isNone = false
theorem run_enter {f : Nat} (h : Ent P f) (args : Array Value) (w : World) : (callFunc f args).run P w = .ok (.enter f args) w := by
  obtain ⟨fn, h1, h2, h3⟩ := h
  unfold callFunc
  simp only [Sem.run_bind, run_program, Result.andThen, h1, h2, h3, Bool.false_eq_true, if_false, Sem.run_pure]
/-- what a call hands back -/
def Gives (T : Value → World → Prop) (e : Ending) (w' : World) : Prop := ∃ v, e = .returned v ∧ T v w'
section calls
variable {L : List (Nat × Value)} {a : Act} {w : World} {rest : List Oper} {d f : Nat} {A : List Operand} {vs : List Value} {T : Value → World → Prop}
theorem exec_call (hent : Ent P f) (hf : Fr N L a) (hA : evL L A = some vs) {dst : Option Tmp} {ty : TypeId} {at_ : Array TypeId} {pos : String} {after : Array Edge} {g : Option (Nat × Bool)} :
    (execOp a.eval { dst := dst, op := .call { callee := .value (.func f), args := A.toArray, argTypes := at_ }, type := ty, pos := pos, after := after, guard := g }).run P w = .ok (.enter f vs.toArray) w := by
  simp only [execOp, resolve, List.map_toArray, evL_ok hf hA, Act.eval, Deferred.ofValue]
  simp only [Sem.run_bind, Sem.run_pure, Result.andThen, invoke]
  simp only [Array.append_empty, List.append_toArray, List.nil_append]
  exact run_enter hent _ _
theorem cl (hent : Ent P f) {g : Option (Nat × Bool)} {at_ : Array TypeId} {pos : String} {after : Array Edge} {ty : TypeId} (hf : Fr N L a) (hd : Nat.blt d N = true) (hg : grd ops L g = some true) (hA : evL L A = some vs)
    (hc : Calls P f vs.toArray w (Gives T)) (k : ∀ v w' a', T v w' → Fr N ((d, v) :: er d L) a' → wpList P ops Q rest a' w') :
    wpList P ops Q ({ dst := some d, op := .call { callee := .value (.func f), args := A.toArray, argTypes := at_ }, type := ty, pos := pos, after := after, guard := g } :: rest) a w := by
  unfold wpList
  rw [if_pos (grd_ok hf hg)]
  refine Or.inl ?_
  unfold Oper.wp
  rw [exec_call hent hf hA]
  simp only [Oper.upon]
  refine hc.mono fun e w' ⟨v, he, ht⟩ => ?_
  subst he
  exact k v w' _ ht (hf.put hd v)
end calls
theorem fr_enter {n : Nat} (vs : List Value) (h : vs.length ≤ n) : Fr n ((List.range vs.length).zip vs) { tmps := vs.toArray ++ Array.replicate (n - vs.toArray.size) undef, defers := [] } := by
  have key : ∀ (l : List (Nat × Value)), (∀ p ∈ l, vs[p.1]? = some p.2) → Fr n l { tmps := vs.toArray ++ Array.replicate (n - vs.toArray.size) undef, defers := [] } := by
    intro l
    induction l with
    | nil => intro _; exact ⟨by simp; omega, rfl⟩
    | cons p l ih =>
      intro hp
      refine ⟨?_, ih fun q hq => hp q (List.mem_cons_of_mem _ hq)⟩
      have h1 := hp p (by simp)
      have h2 : p.1 < vs.length := by
        rcases Nat.lt_or_ge p.1 vs.length with h' | h'
        · exact h'
        · rw [List.getElem?_eq_none h'] at h1; cases h1
      rw [Array.getD_eq_getD_getElem?, Array.getElem?_append_left (by simpa using h2)]
      simp [h1]
  refine key _ fun p hp => ?_
  obtain ⟨i, hi, e⟩ := List.getElem_of_mem hp
  rw [← e]
  simp only [List.getElem_zip, List.getElem_range]
  simp at hi
  simp [hi]
/-- a function's contract out of its body's walk -/
theorem fn_ok {f : Nat} {fn : Func} {c : Code} {vs : List Value} {w : World} {T : Value → World → Prop} (hf : P.funcs[f]? = some fn) (hb : fn.body = some c) (N : Nat) (hN : fn.ntmps = N) (hl : vs.length ≤ N)
    (k : ∀ a, Fr N ((List.range vs.length).zip vs) a → c.wp P (bodyPost P fn (Gives T)) a w) : Calls P f vs.toArray w (Gives T) := by
  refine calls_of_wp hf hb (k _ ?_)
  rw [hN]
  exact fr_enter vs hl
def resVal (L : List (Nat × Value)) : List ResultVar → Option (List Value)
  | [] => some []
  | .tmp t :: rs => (match asc L t with
    | some v => (match resVal L rs with
      | some r => some (v :: r)
      | none => none)
    | none => none)
  | _ => none
def packRes : List Value → Value
  | [v] => v
  | vs => .tuple vs.toArray
theorem mapM_res {L : List (Nat × Value)} {a : Act} {w : World} (hf : Fr N L a) : ∀ {rs : List ResultVar} {vs : List Value}, resVal L rs = some vs →
    (rs.mapM (fun (r : ResultVar) => (match r with
      | .tmp t => pure (a.tmps.getD t undef)
      | .cell x t => do loadVar t (← asAddr (a.tmps.getD x undef)) : Sem Value))).run P w = .ok vs w
  | [], vs, h => by simp only [resVal, Option.some.injEq] at h; subst h; rfl
  | r :: rs, vs, h => by
    cases r with
    | cell x t => simp [resVal] at h
    | tmp t =>
      simp only [resVal] at h
      split at h
      · rename_i v hv
        split at h
        · rename_i u hu
          simp only [Option.some.injEq] at h; subst h
          rw [List.mapM_cons]
          simp only [Sem.run_bind, Sem.run_pure, Result.andThen, mapM_res hf hu, hf.look hv]
        · simp at h
      · simp at h
theorem ret_ok {fn : Func} {L : List (Nat × Value)} {a : Act} {w : World} {T : Value → World → Prop} {vs : List Value} (hf : Fr N L a) (hr : resVal L fn.results.toList = some vs) (hT : T (packRes vs) w) :
    bodyPost P fn (Gives T) .ret a w := by
  refine ⟨hf.base.2, packRes vs, ?_, _, rfl, hT⟩
  unfold results
  have h := mapM_res (P := P) (w := w) hf hr
  rw [Array.mapM_eq_mapM_toList]
  simp only [Sem.run_bind, map_eq_pure_bind, bind_assoc, pure_bind]
  refine Eq.trans (congrArg (fun r => Result.andThen r _) h) ?_
  simp only [Result.andThen, Sem.run_pure]
  clear h hr hT
  match vs with
  | [] => rfl
  | [v] => rfl
  | u :: v :: r => simp [packRes]
end pure

/-! ### heaps that grow -/
abbrev SH := Nat → Option Obj
def hp (w : World) : SH := fun k => w.heap[k]?
def LeH (h h' : SH) : Prop := ∀ k o, h k = some o → h' k = some o
theorem LeH.refl (h : SH) : LeH h h := fun _ _ e => e
theorem LeH.trans {a b c : SH} (h : LeH a b) (k : LeH b c) : LeH a c := fun i o e => k i o (h i o e)
abbrev Ext (w w' : World) : Prop := Below w.heap.size w w'
theorem hp_lt {w : World} {k : Nat} {o : Obj} (h : hp w k = some o) : k < w.heap.size := by
  rcases Nat.lt_or_ge k w.heap.size with h' | h'
  · exact h'
  · unfold hp at h; rw [Array.getElem?_eq_none h'] at h; cases h
theorem Ext.le {w w' : World} (h : Ext w w') : LeH (hp w) (hp w') := fun k _ e => (h.block k (hp_lt e)).trans e
theorem Ext.rfl' (w : World) : Ext w w := Below.refl _ _
theorem Ext.tr {a b c : World} (h : Ext a b) (k : Ext b c) : Ext a c := h.trans (k.mono h.size)
theorem Ext.grown {w w' : World} (h : Ext w w') : w.grownBy w' none := ⟨h.os, h.tape, h.output, h.size, fun k hk _ => h.block k hk⟩
theorem ext_of_grown {w w' : World} (h : w.grownBy w' none) : Ext w w' := ⟨h.os, h.tape, h.output, h.size, fun k hk => h.block k hk (by simp)⟩
theorem Ext.grow {w0 w w' : World} {row : Option Nat} (h : Ext w0 w) (hg : w.grownBy w' row) (hr : ∀ k, row = some k → w0.heap.size ≤ k) : Ext w0 w' := Below.grown h hg h.size hr
def cellH (h : SH) (b o : Nat) : Option Value := match h b with
  | some (.cells c _ _) => c[o]?
  | _ => none
theorem cellH_mono {h h' : SH} (hl : LeH h h') {b o : Nat} {v : Value} (e : cellH h b o = some v) : cellH h' b o = some v := by
  unfold cellH at *
  split at e
  · rename_i c t f hb; rw [hl _ _ hb]; exact e
  · cases e
theorem cellH_cell {h : SH} {w : World} (hl : LeH h (hp w)) {b o : Nat} {v : Value} (e : cellH h b o = some v) : w.cell? ⟨b, o, none⟩ = some v := by
  have := cellH_mono hl e
  unfold cellH hp at this
  unfold World.cell?
  simp only [Option.isSome_none, Bool.false_eq_true, if_false]
  exact this
theorem cell_cellH {w : World} {p : Addr} {v : Value} (hs : p.spot = none) (e : w.cell? p = some v) : cellH (hp w) p.block p.off = some v := by
  unfold World.cell? at e
  unfold cellH hp
  simp only [hs, Option.isSome_none, Bool.false_eq_true, if_false] at e
  exact e

/-! ### what a value stands for -/
structure Ty (α : Type) where
  size : Nat
  rep : SH → α → List Value → Prop
  mono : ∀ {h h' : SH} {x : α} {c : List Value}, LeH h h' → rep h x c → rep h' x c
  len : ∀ {h : SH} {x : α} {c : List Value}, rep h x c → c.length = size
  one : ∀ {h : SH} {x : α} {c : List Value}, rep h x c → ∀ u ∈ c, u.oneCell' = true
def Flat {α : Type} (t : Ty α) : Prop := ∀ (h h' : SH) (x : α) (c : List Value), t.rep h x c → t.rep h' x c
/-- a type without addresses: its cells are a function of what it stands for -/
def tF {α : Type} (n : Nat) (enc : α → List Value) (hl : ∀ x, (enc x).length = n) (ho : ∀ x, ∀ u ∈ enc x, u.oneCell' = true) : Ty α where
  size := n
  rep := fun _ x c => c = enc x
  mono := fun _ e => e
  len := fun e => by rw [e]; exact hl _
  one := fun {_ x c} e => by rw [e]; exact ho x
theorem flat_tF {α : Type} {n : Nat} {enc : α → List Value} {hl : ∀ x, (enc x).length = n} {ho : ∀ x, ∀ u ∈ enc x, u.oneCell' = true} : Flat (tF n enc hl ho) := fun _ _ _ _ e => e
def tI (k : IntKind) : Ty Int := tF 1 (fun n => [.int k n]) (fun _ => rfl) (fun _ u hu => by simp at hu; subst hu; rfl)
def tB : Ty Bool := tF 1 (fun b => [.bool b]) (fun _ => rfl) (fun _ u hu => by simp at hu; subst hu; rfl)
def tS : Ty (List UInt8) := tF 1 (fun l => [strV l]) (fun _ => rfl) (fun _ u hu => by simp at hu; subst hu; rfl)
theorem flat_I (k : IntKind) : Flat (tI k) := flat_tF
theorem flat_B : Flat tB := flat_tF
theorem flat_S : Flat tS := flat_tF

section reps
variable {α : Type} {t : Ty α} {h h' : SH}
def Reps (t : Ty α) (h : SH) : List α → List Value → Prop
  | [], cs => cs = []
  | x :: xs, cs => ∃ c r, cs = c ++ r ∧ t.rep h x c ∧ Reps t h xs r
theorem Reps.mono (hl : LeH h h') : ∀ {xs : List α} {cs : List Value}, Reps t h xs cs → Reps t h' xs cs
  | [], _, e => e
  | _ :: _, _, ⟨c, r, e, hc, hr⟩ => ⟨c, r, e, t.mono hl hc, Reps.mono hl hr⟩
theorem Reps.flat (hF : Flat t) : ∀ {xs : List α} {cs : List Value}, Reps t h xs cs → Reps t h' xs cs
  | [], _, e => e
  | _ :: _, _, ⟨c, r, e, hc, hr⟩ => ⟨c, r, e, hF _ _ _ _ hc, Reps.flat hF hr⟩
theorem Reps.length : ∀ {xs : List α} {cs : List Value}, Reps t h xs cs → cs.length = xs.length * t.size
  | [], _, e => by rw [show _ = [] from e]; simp
  | x :: xs, _, ⟨c, r, e, hc, hr⟩ => by
    rw [e, List.length_append, t.len hc, Reps.length hr, List.length_cons, Nat.add_mul, Nat.one_mul, Nat.add_comm]
theorem Reps.one : ∀ {xs : List α} {cs : List Value}, Reps t h xs cs → ∀ u ∈ cs, u.oneCell' = true
  | [], _, e, u, hu => by rw [show _ = [] from e] at hu; simp at hu
  | x :: xs, _, ⟨c, r, e, hc, hr⟩, u, hu => by
    rw [e, List.mem_append] at hu
    rcases hu with hu | hu
    · exact t.one hc u hu
    · exact Reps.one hr u hu
theorem Reps.append : ∀ {xs ys : List α} {cs ds : List Value}, Reps t h xs cs → Reps t h ys ds → Reps t h (xs ++ ys) (cs ++ ds)
  | [], _, _, _, e, hy => by rw [show _ = [] from e]; simpa using hy
  | _ :: _, _, _, _, ⟨c, r, e, hc, hr⟩, hy => ⟨c, _, by rw [e, List.append_assoc], hc, Reps.append hr hy⟩
theorem Reps.split : ∀ {xs : List α} {cs : List Value} (i : Nat), Reps t h xs cs → i ≤ xs.length → Reps t h (xs.take i) (cs.take (i * t.size)) ∧ Reps t h (xs.drop i) (cs.drop (i * t.size))
  | xs, cs, 0, e, _ => by simp only [Nat.zero_mul, List.take_zero, List.drop_zero]; exact ⟨rfl, e⟩
  | [], _, i + 1, _, hi => by simp at hi
  | x :: xs, _, i + 1, ⟨c, r, e, hc, hr⟩, hi => by
    obtain ⟨h1, h2⟩ := Reps.split i hr (by simpa using hi)
    have hl := t.len hc
    have e1 : (i + 1) * t.size = c.length + i * t.size := by rw [hl, Nat.add_mul, Nat.one_mul, Nat.add_comm]
    rw [e, e1]
    refine ⟨⟨c, r.take (i * t.size), ?_, hc, ?_⟩, ?_⟩
    · rw [List.take_length_add_append]
    · simpa using h1
    · rw [List.drop_length_add_append]; simpa using h2
theorem Reps.at : ∀ {xs : List α} {cs : List Value} (i : Nat) {x : α}, Reps t h xs cs → xs[i]? = some x → t.rep h x ((cs.drop (i * t.size)).take t.size)
  | [], _, i, x, _, hx => by simp at hx
  | y :: xs, _, 0, x, ⟨c, r, e, hc, hr⟩, hx => by
    have : y = x := by simpa using hx
    rw [e, Nat.zero_mul, List.drop_zero, ← this, List.take_append_of_le_length (by rw [t.len hc]; exact Nat.le_refl _), List.take_of_length_le (by rw [t.len hc]; exact Nat.le_refl _)]
    exact hc
  | y :: xs, _, i + 1, x, ⟨c, r, e, hc, hr⟩, hx => by
    have hl := t.len hc
    have e1 : (i + 1) * t.size = c.length + i * t.size := by rw [hl, Nat.add_mul, Nat.one_mul, Nat.add_comm]
    rw [e, e1, List.drop_length_add_append]
    exact Reps.at i hr (by simpa using hx)
end reps

/-- a slice that is read: of so many elements, of which the heap h knows each cell -/
def RO {α : Type} (h : SH) (t : Ty α) (v : Value) (xs : List α) : Prop :=
  ∃ (ao : Option Addr) (cap : Nat) (cs : List Value), v = .slice ao xs.length cap ∧ xs.length ≤ cap ∧ Reps t h xs cs ∧
    ∀ j u, cs[j]? = some u → ∃ b o, ao = some ⟨b, o, none⟩ ∧ cellH h b (o + j) = some u
/-- a slice whose row is the call's own -/
def Own {α : Type} (w : World) (B : Nat) (h : SH) (e : TypeId) (t : Ty α) (v : Value) (xs : List α) : Prop :=
  ∃ cs, w.ownsRow B e t.size v xs.length cs ∧ Reps t h xs cs ∧ ∀ k, v.ownBlock = some k → h k = none
section ro
variable {α : Type} {t : Ty α} {h h' : SH} {v : Value} {xs ys : List α} {w w' : World} {B : Nat} {e : TypeId}
theorem RO.mono (hl : LeH h h') (H : RO h t v xs) : RO h' t v xs := by
  obtain ⟨ao, cap, cs, h1, h2, h3, h4⟩ := H
  exact ⟨ao, cap, cs, h1, h2, h3.mono hl, fun j u hj => let ⟨b, o, e1, e2⟩ := h4 j u hj; ⟨b, o, e1, cellH_mono hl e2⟩⟩
theorem RO.shape (H : RO h t v xs) : ∃ ao cap, v = .slice ao xs.length cap := let ⟨ao, cap, _, h1, _⟩ := H; ⟨ao, cap, h1⟩
theorem Own.shape (H : Own w B h e t v xs) : ∃ ao cap, v = .slice ao xs.length cap := by
  obtain ⟨cs, ⟨_, ho⟩, _, _⟩ := H
  rcases ho with ⟨rfl, h0⟩ | ⟨g, cap, cur, rfl, _⟩
  · exact ⟨none, 0, by rw [h0]⟩
  · exact ⟨_, cap, rfl⟩
theorem RO.nil (h : SH) (t : Ty α) : RO h t (.slice none 0 0) [] := ⟨none, 0, [], rfl, Nat.le_refl _, rfl, fun j u hj => by simp at hj⟩
theorem Own.nil (w : World) (B : Nat) (h : SH) (e : TypeId) (t : Ty α) : Own w B h e t (.slice none 0 0) [] :=
  ⟨[], World.ownsRow_nil _ _ _ _, rfl, fun k hk => by simp [Value.ownBlock] at hk⟩
theorem Own.lt (H : Own w B h e t v xs) : ∀ k, v.ownBlock = some k → B ≤ k ∧ k < w.heap.size := let ⟨_, ho, _, _⟩ := H; ho.lt
theorem Own.keep {row : Option Nat} (H : Own w B h e t v xs) (hg : w.grownBy w' row) (hne : v.ownBlock = none ∨ v.ownBlock ≠ row) : Own w' B h e t v xs :=
  let ⟨cs, ho, hr, hn⟩ := H; ⟨cs, ho.kept hg hne, hr, hn⟩
theorem Own.ext (H : Own w B h e t v xs) (hx : Ext w w') : Own w' B h e t v xs := H.keep hx.grown (by cases v.ownBlock <;> simp)
theorem ownsRow_base {B' : Nat} {s n : Nat} {cs : List Value} (hB : B' ≤ B) (ho : w.ownsRow B e s v n cs) : w.ownsRow B' e s v n cs := by
  obtain ⟨h1, h2⟩ := ho
  refine ⟨h1, ?_⟩
  rcases h2 with h2 | ⟨g, cap, cur, a1, a2, a3⟩
  · exact .inl h2
  · exact .inr ⟨g, cap, cur, a1, Nat.le_trans hB a2, a3⟩
theorem Own.base {B' : Nat} (hB : B' ≤ B) (H : Own w B h e t v xs) : Own w B' h e t v xs :=
  let ⟨cs, ho, hr, hn⟩ := H; ⟨cs, ownsRow_base hB ho, hr, hn⟩
theorem Own.flat (hF : Flat t) (hn' : ∀ k, v.ownBlock = some k → h' k = none) (H : Own w B h e t v xs) : Own w B h' e t v xs :=
  let ⟨cs, ho, hr, _⟩ := H; ⟨cs, ho, hr.flat hF, hn'⟩
theorem Own.ro (hl : LeH h (hp w)) (H : Own w B h e t v xs) : RO (hp w) t v xs := by
  obtain ⟨cs, ho, hr, hn⟩ := H
  have ho2 := ho
  obtain ⟨h1, h2⟩ := ho2
  rcases h2 with ⟨rfl, h0⟩ | ⟨g, cap, cur, rfl, hg, hh, hc, hm, hs, ht⟩
  · have : xs = [] := List.eq_nil_of_length_eq_zero h0
    subst this
    exact RO.nil _ _
  · refine ⟨_, cap, cs, rfl, hc, hr.mono hl, fun j u hj => ⟨g, 0, rfl, ?_⟩⟩
    unfold cellH hp
    rw [hh]
    simp only [Nat.zero_add]
    have hj2 : j < xs.length * t.size := by
      rw [← h1]
      rcases Nat.lt_or_ge j cs.length with h' | h'
      · exact h'
      · rw [List.getElem?_eq_none h'] at hj; cases hj
    rw [← ht, List.getElem?_take_of_lt hj2] at hj
    simpa using hj
theorem LeH_none (hl : LeH h (hp w)) {k : Nat} (hk : w.heap.size ≤ k) : h k = none := by
  cases e : h k with
  | none => rfl
  | some o => have := hp_lt (hl _ _ e); omega
/-- cells that stand at an address -/
def CellsAt (h : SH) (p : Addr) (c : List Value) : Prop := p.spot = none ∧ ∀ j u, c[j]? = some u → cellH h p.block (p.off + j) = some u
theorem RO.at (hs : 0 < t.size) (H : RO h t v xs) {i : Nat} {x : α} (hx : xs[i]? = some x) :
    ∃ b o cap, v = .slice (some ⟨b, o, none⟩) xs.length cap ∧ ∃ c, CellsAt h ⟨b, o + i * t.size, none⟩ c ∧ t.rep h x c := by
  obtain ⟨ao, cap, cs, h1, h2, h3, h4⟩ := H
  have hr := Reps.at i h3 hx
  have hlen := h3.length
  have hi : i < xs.length := by
    rcases Nat.lt_or_ge i xs.length with h' | h'
    · exact h'
    · rw [List.getElem?_eq_none h'] at hx; cases hx
  have hpos : i * t.size < cs.length := by rw [hlen]; exact Nat.mul_lt_mul_of_pos_right hi hs
  obtain ⟨b, o, e1, _⟩ := h4 (i * t.size) _ (List.getElem?_eq_getElem hpos)
  subst e1
  refine ⟨b, o, cap, h1, _, ⟨rfl, fun j u hj => ?_⟩, hr⟩
  have hj2 : j < t.size := by
    rcases Nat.lt_or_ge j t.size with h' | h'
    · exact h'
    · rw [List.getElem?_take_eq_none h'] at hj; cases hj
  rw [List.getElem?_take_of_lt hj2, List.getElem?_drop] at hj
  obtain ⟨b', o', e1, e2⟩ := h4 _ _ hj
  simp only [Option.some.injEq, Addr.mk.injEq] at e1
  obtain ⟨rfl, rfl, _⟩ := e1
  simpa [Nat.add_assoc] using e2
end ro

/-! ### operations on memory -/
section mem
variable {P : Program} {tb : Tb} {ops : Array Oper} {Q : Exit → Act → World → Prop} {N : Nat} {L : List (Nat × Value)} {a : Act} {w : World} {rest : List Oper} {o : Oper} {d : Nat}
theorem stp (hf : Fr N L a) {v : Value} {w' : World} (hg : grd ops L o.guard = some true) (hrun : (execOp a.eval o).run P w = .ok (.value v) w') (k : wpList P ops Q rest (a.put o.dst v) w') : wpList P ops Q (o :: rest) a w := by
  unfold wpList
  rw [if_pos (grd_ok hf hg)]
  refine Or.inl ?_
  unfold Oper.wp
  rw [hrun]
  exact k
theorem stpS (hf : Fr N L a) {w' : World} (hg : grd ops L o.guard = some true) (hrun : (execOp a.eval o).run P w = .ok .skip w') (k : wpList P ops Q rest (a.put o.dst undef) w') : wpList P ops Q (o :: rest) a w := by
  unfold wpList
  rw [if_pos (grd_ok hf hg)]
  refine Or.inl ?_
  unfold Oper.wp
  rw [hrun]
  exact k
theorem stpQ (hf : Fr N L a) {C : World → Prop} {R : Act → Prop} {v : Value} (hg : grd ops L o.guard = some true) (hrun : ∀ w, C w → (execOp a.eval o).run P w = .ok (.value v) w) (k : wpQuiet P ops C R rest (a.put o.dst v)) : wpQuiet P ops C R (o :: rest) a := by
  unfold wpQuiet
  rw [if_pos (grd_ok hf hg)]
  refine ⟨v, fun w hw => ?_, k⟩
  unfold Oper.quietAt
  rw [hrun w hw]
  exact ⟨rfl, rfl⟩
theorem elem_slice {T e : Nat} (hu : P.underlying T = some (.slice e)) : P.underlying T = some (.slice (P.elem T)) ∧ P.elem T = e := by
  have : P.elem T = e := by unfold Program.elem; rw [hu]
  rw [this]; exact ⟨hu, rfl⟩
theorem cellsOf_of {P : Program} {e s : Nat} {inf : TypeInfo} (hinf : P.info? e = some inf) (hs : inf.size = s) : P.cellsOf e = s := by
  unfold Program.cellsOf; rw [hinf]; exact hs
theorem run_ix (htb : TbOk P tb) {T e s b : Nat} {zv : Value} (hu : asc tb.und T = some (.slice e)) (hi : asc tb.info e = some (zv, s, b)) {bl o cap n : Nat} {k : IntKind} {i : Int} (h0 : 0 ≤ i) (h1 : i < n) (w : World) :
    (Instr.indexAt T (.slice (some ⟨bl, o, none⟩) n cap) (.int k i)).run P w = .ok (.pointer (some ⟨bl, o + i.toNat * s, none⟩)) w := by
  obtain ⟨inf, hinf, _, hs, _⟩ := htb.i hi
  obtain ⟨h2, h3⟩ := elem_slice (htb.u hu)
  rw [run_indexAt_slice w T _ n cap k i h2, if_pos ⟨h0, h1⟩, h3, run_sizeOf w hinf]
  simp only [Result.andThen, cellsOf_of hinf hs, Addr.add_lit]
theorem gt_at {α : Type} [Inhabited α] {xs : List α} {n : Int} (h0 : 0 ≤ n) (h1 : n < xs.length) : xs[n.toNat]? = some (gt xs n) := by
  have : n.toNat < xs.length := by omega
  unfold gt
  rw [List.getD_eq_getElem?_getD, List.getElem?_eq_getElem this]; rfl
theorem exec_ix (htb : TbOk P tb) {T e s b : Nat} {zv : Value} (hu : asc tb.und T = some (.slice e)) (hi : asc tb.info e = some (zv, s, b)) (hs : 0 < s) {α : Type} [Inhabited α] {t : Ty α} (ht : t.size = s) {h : SH} {v : Value} {xs : List α}
    (hro : RO h t v xs) {k : IntKind} {n : Int} (h0 : 0 ≤ n) (h1 : n < xs.length) :
    ∃ p c, CellsAt h p c ∧ t.rep h (gt xs n) c ∧ ∀ w, (Instr.indexAt T v (.int k n)).run P w = .ok (.pointer (some p)) w := by
  obtain ⟨bl, o, cap, e1, c, hc, hr⟩ := hro.at (by rw [ht]; exact hs) (gt_at h0 h1)
  refine ⟨_, c, hc, hr, fun w => ?_⟩
  rw [e1, ht]
  exact run_ix htb hu hi h0 h1 w
/-- xs[n], the address: out of a slice that is read -/
theorem ix (htb : TbOk P tb) {T e s b : Nat} {zv : Value} (hu : asc tb.und T = some (.slice e)) (hi : asc tb.info e = some (zv, s, b)) (hs : Nat.blt 0 s = true) {α : Type} [Inhabited α] {t : Ty α} (ht : t.size = s) {h : SH} {v : Value} {xs : List α}
    (hro : RO h t v xs) {x i : Operand} {k : IntKind} {n : Int} (hn : 0 ≤ n ∧ n < xs.length) {g : Option (Nat × Bool)} {pos : String} {after : Array Edge} {ty : TypeId} (hf : Fr N L a) (hd : Nat.blt d N = true) (hg : grd ops L g = some true)
    (hx : evO L x = some v) (hi2 : evO L i = some (.int k n)) (K : ∀ p c a', CellsAt h p c → t.rep h (gt xs n) c → Fr N ((d, .pointer (some p)) :: er d L) a' → wpList P ops Q rest a' w) :
    wpList P ops Q ({ dst := some d, op := .indexAddr T x i, type := ty, pos := pos, after := after, guard := g } :: rest) a w := by
  obtain ⟨p, c, hc, hr, hrun⟩ := exec_ix htb hu hi (Nat.le_of_ble_eq_true hs) ht hro (k := k) hn.1 hn.2
  refine stp hf (v := .pointer (some p)) hg ?_ (K p c _ hc hr (hf.put hd _))
  simp only [execOp, evO_ok hf hx, evO_ok hf hi2, Sem.run_bind, hrun, Result.andThen, Sem.run_pure]
theorem ixQ (htb : TbOk P tb) {C : World → Prop} {R : Act → Prop} {T e s b : Nat} {zv : Value} (hu : asc tb.und T = some (.slice e)) (hi : asc tb.info e = some (zv, s, b)) (hs : Nat.blt 0 s = true) {α : Type} [Inhabited α] {t : Ty α} (ht : t.size = s) {h : SH} {v : Value} {xs : List α}
    (hro : RO h t v xs) {x i : Operand} {k : IntKind} {n : Int} (hn : 0 ≤ n ∧ n < xs.length) {g : Option (Nat × Bool)} {pos : String} {after : Array Edge} {ty : TypeId} (hf : Fr N L a) (hd : Nat.blt d N = true) (hg : grd ops L g = some true)
    (hx : evO L x = some v) (hi2 : evO L i = some (.int k n)) (K : ∀ p c a', CellsAt h p c → t.rep h (gt xs n) c → Fr N ((d, .pointer (some p)) :: er d L) a' → wpQuiet P ops C R rest a') :
    wpQuiet P ops C R ({ dst := some d, op := .indexAddr T x i, type := ty, pos := pos, after := after, guard := g } :: rest) a := by
  obtain ⟨p, c, hc, hr, hrun⟩ := exec_ix htb hu hi (Nat.le_of_ble_eq_true hs) ht hro (k := k) hn.1 hn.2
  refine stpQ hf (v := .pointer (some p)) hg (fun w _ => ?_) (K p c _ hc hr (hf.put hd _))
  simp only [execOp, evO_ok hf hx, evO_ok hf hi2, Sem.run_bind, hrun, Result.andThen, Sem.run_pure]

/-- a load of one cell -/
def plainT (d : TypeDesc) : Bool := match d with
  | .struct _ => false
  | .array _ _ => false
  | _ => true
theorem run_load1 (htb : TbOk P tb) {T : Nat} {D : TypeDesc} (hu : asc tb.und T = some D) (hD : plainT D = true) {h : SH} {p : Addr} {u : Value} (hc : CellsAt h p [u]) {w : World} (hl : LeH h (hp w)) :
    (Instr.loadAt T (.pointer (some p))).run P w = .ok u w := by
  obtain ⟨hs, h1⟩ := hc
  have h2 := cellH_cell hl (h1 0 u rfl)
  have e : (⟨p.block, p.off + 0, none⟩ : Addr) = p := by cases p; simp only at hs; subst hs; rfl
  rw [e] at h2
  unfold Instr.loadAt Instr.sureAddr loadVar isAgg
  simp only [Sem.run_bind, Sem.run_pure, Result.andThen, asc_und htb hu]
  cases D <;> simp [plainT] at hD <;> simp [h2]
theorem ld (htb : TbOk P tb) {T : Nat} {D : TypeDesc} (hu : asc tb.und T = some D) (hD : plainT D = true) {h : SH} {p : Addr} {u : Value} (hc : CellsAt h p [u]) (hl : LeH h (hp w)) {x : Operand} {g : Option (Nat × Bool)} {pos : String} {after : Array Edge} {ty : TypeId} (hf : Fr N L a) (hd : Nat.blt d N = true) (hg : grd ops L g = some true)
    (hx : evO L x = some (.pointer (some p))) (K : ∀ a', Fr N ((d, u) :: er d L) a' → wpList P ops Q rest a' w) :
    wpList P ops Q ({ dst := some d, op := .load T x, type := ty, pos := pos, after := after, guard := g } :: rest) a w := by
  refine stp hf (v := u) hg ?_ (K _ (hf.put hd _))
  simp only [execOp, evO_ok hf hx, Sem.run_bind, run_load1 htb hu hD hc hl, Result.andThen, Sem.run_pure]
theorem ldQ (htb : TbOk P tb) {R : Act → Prop} {T : Nat} {D : TypeDesc} (hu : asc tb.und T = some D) (hD : plainT D = true) {h : SH} {p : Addr} {u : Value} (hc : CellsAt h p [u]) (hl : LeH h (hp w)) {x : Operand} {g : Option (Nat × Bool)} {pos : String} {after : Array Edge} {ty : TypeId} (hf : Fr N L a) (hd : Nat.blt d N = true) (hg : grd ops L g = some true)
    (hx : evO L x = some (.pointer (some p))) (K : ∀ a', Fr N ((d, u) :: er d L) a' → wpQuiet P ops (Ext w) R rest a') :
    wpQuiet P ops (Ext w) R ({ dst := some d, op := .load T x, type := ty, pos := pos, after := after, guard := g } :: rest) a := by
  refine stpQ hf (v := u) hg (fun w' hw' => ?_) (K _ (hf.put hd _))
  simp only [execOp, evO_ok hf hx, Sem.run_bind, run_load1 htb hu hD hc (hl.trans hw'.le), Result.andThen, Sem.run_pure]
/-- a call of a function that gives one plain value, in a region that draws -/
theorem clQ {R : Act → Prop} {f : Nat} (hent : Ent P f) {A : List Operand} {vs : List Value} {g : Option (Nat × Bool)} {at_ : Array TypeId} {pos : String} {after : Array Edge} {ty : TypeId} (hf : Fr N L a) (hd : Nat.blt d N = true) (hg : grd ops L g = some true) (hA : evL L A = some vs) (v : Value)
    (hc : ∀ w', Ext w w' → Calls P f vs.toArray w' (Gives fun u w'' => u = v ∧ Ext w' w'')) (K : ∀ a', Fr N ((d, v) :: er d L) a' → wpQuiet P ops (Ext w) R rest a') :
    wpQuiet P ops (Ext w) R ({ dst := some d, op := .call { callee := .value (.func f), args := A.toArray, argTypes := at_ }, type := ty, pos := pos, after := after, guard := g } :: rest) a := by
  unfold wpQuiet
  rw [if_pos (grd_ok hf hg)]
  refine ⟨v, fun w' hw' => ?_, K _ (hf.put hd _)⟩
  unfold Oper.quietAt
  rw [exec_call hent hf hA]
  refine ⟨rfl, (hc w' hw').mono ?_⟩
  rintro e w'' ⟨u, he, hu, hx⟩
  exact ⟨by rw [he, hu], hw'.tr hx⟩
theorem regQ {id : Nat} {l : List Oper} (hm : P.follows .mixedOrders = true) (hB : Region.lexB .any l.toArray = true) (h : wpQuiet P l.toArray (Ext w) (fun a' => ∀ w', Ext w w' → Q .normal a' w') l a) : (Code.region id l.toArray true).wp P Q a w :=
  wp_region_quiet (C := Ext w) hm hB ⟨rfl, rfl, rfl, Nat.le_refl _, fun _ _ => rfl⟩ (by simpa using h)
/-- where ways meet again behind a piece of code that stands last -/
theorem ctj {σ ρ : Type} {K : σ → Option ρ} {B : (σ → Option ρ) → Option ρ} {r : ρ} {x : Code} (M : σ → Act → World → Prop) (hS : jn K B = some r)
    (h1 : ∀ st a w, M st a w → K st = some r → Q .normal a w)
    (h2 : ∀ (K' : Act → World → Prop) (rec : σ → Option ρ), (∀ st a w, M st a w → rec st = some r → K' a w) → B rec = some r → x.wp P (Exit.then K' Q) a w) : x.wp P Q a w := by
  have := h2 (fun a w => Q .normal a w) K h1 hS
  have e : (Exit.then (fun a w => Q .normal a w) Q) = Q := by funext e a w; cases e <;> rfl
  rwa [e] at this

/-! ### slices of slices, append, make, literals, stores -/
theorem cutL_length {α : Type} {xs : List α} {lo hi : Int} (h1 : hi ≤ xs.length) : (cutL xs lo hi).length = hi.toNat - lo.toNat := by
  unfold cutL; rw [List.length_drop, List.length_take]; omega
theorem RO.cut {α : Type} {t : Ty α} {h : SH} {ao : Option Addr} {cap : Nat} {xs : List α} (hro : RO h t (.slice ao xs.length cap) xs) {lo hi : Int} (h0 : 0 ≤ lo) (h1 : lo ≤ hi) (h2 : hi ≤ xs.length) {m : Nat} (hm1 : hi.toNat ≤ m) :
    RO h t (.slice (if m = lo.toNat then ao else ao.map (·.add (lo.toNat * t.size))) (hi.toNat - lo.toNat) (m - lo.toNat)) (cutL xs lo hi) := by
  obtain ⟨ao', cap', cs, e, hc, hr, hcell⟩ := hro
  simp only [Value.slice.injEq] at e
  obtain ⟨rfl, _, rfl⟩ := e
  refine ⟨_, _, (cs.take (hi.toNat * t.size)).drop (lo.toNat * t.size), by rw [cutL_length h2], by rw [cutL_length h2]; omega, ?_, ?_⟩
  · have h3 := (Reps.split hi.toNat hr (by omega)).1
    exact (Reps.split lo.toNat h3 (by rw [List.length_take]; omega)).2
  · intro j u hj
    rw [List.getElem?_drop] at hj
    have hj2 : lo.toNat * t.size + j < hi.toNat * t.size := by
      rcases Nat.lt_or_ge (lo.toNat * t.size + j) (hi.toNat * t.size) with h' | h'
      · exact h'
      · rw [List.getElem?_take_eq_none h'] at hj; cases hj
    rw [List.getElem?_take_of_lt hj2] at hj
    obtain ⟨b, o, e1, e2⟩ := hcell _ _ hj
    subst e1
    have hne : ¬ m = lo.toNat := by
      intro e
      have : hi.toNat * t.size ≤ lo.toNat * t.size := Nat.mul_le_mul_right _ (by omega)
      omega
    exact ⟨b, o + lo.toNat * t.size, by rw [if_neg hne]; simp only [Option.map_some, Addr.add_lit], by rw [Nat.add_assoc]; exact e2⟩
theorem RO.cap {α : Type} {t : Ty α} {h : SH} {ao : Option Addr} {n cap : Nat} {xs : List α} (hro : RO h t (.slice ao n cap) xs) : n = xs.length ∧ n ≤ cap := by
  obtain ⟨ao', cap', cs, e, hc, hr, hcell⟩ := hro
  simp only [Value.slice.injEq] at e
  obtain ⟨_, rfl, rfl⟩ := e
  exact ⟨rfl, hc⟩
/-- the bounds of a slice expression, as numbers -/
def boundOf (L : List (Nat × Value)) (dflt : Int) : Option Operand → Option Int
  | none => some dflt
  | some x => (match evO L x with
    | some (.int _ n) => some n
    | _ => none)
theorem run_sliceBound {k : IntKind} {i : Int} {y : Nat} {c : BoundsCode} (h0 : 0 ≤ i) (h1 : i ≤ y) (w : World) : (Instr.sliceBound (.int k i) y c).run P w = .ok i.toNat w := by
  unfold Instr.sliceBound
  simp only [asIntOf, Sem.run_bind, Sem.run_pure, Result.andThen, if_pos (And.intro h0 h1)]
theorem exec_sl (htb : TbOk P tb) {T e s b : Nat} {zv : Value} (hu : asc tb.und T = some (.slice e)) (hti : asc tb.info e = some (zv, s, b)) {α : Type} {t : Ty α} (ht : t.size = s) {h : SH} {ao : Option Addr} {cap : Nat} {xs : List α}
    (hro : RO h t (.slice ao xs.length cap) xs) {lo hi : Int} (hb : 0 ≤ lo ∧ lo ≤ hi ∧ hi ≤ xs.length) {lv hv mv : Option Value} {m : Int}
    (h1 : lv = none ∧ lo = 0 ∨ ∃ k, lv = some (.int k lo)) (h2 : hv = none ∧ hi = xs.length ∨ ∃ k, hv = some (.int k hi)) (h3 : mv = none ∨ (∃ k, mv = some (.int k m)) ∧ hv ≠ none ∧ hi ≤ m ∧ m ≤ xs.length) :
    ∃ v', RO h t v' (cutL xs lo hi) ∧ ∀ w, (Instr.sliceAt T (.slice ao xs.length cap) lv hv mv).run P w = .ok v' w := by
  obtain ⟨b0, b1, b2⟩ := hb
  have hcap := hro.cap.2
  obtain ⟨inf, hinf, _, hs, _⟩ := htb.i hti
  obtain ⟨u2, u3⟩ := elem_slice (htb.u hu)
  have key : ∀ M : Nat, hi.toNat ≤ M → (∀ w, (Instr.sliceBounds true xs.length cap lv hv mv).run P w = .ok (lo.toNat, hi.toNat, M) w) →
      ∃ v', RO h t v' (cutL xs lo hi) ∧ ∀ w, (Instr.sliceAt T (.slice ao xs.length cap) lv hv mv).run P w = .ok v' w := by
    intro M hM1 hrun
    refine ⟨_, hro.cut b0 b1 b2 hM1, fun w => ?_⟩
    unfold Instr.sliceAt
    simp only [Sem.run_bind, asc_und htb hu, Result.andThen]
    rw [run_slice_any w T ao xs.length cap u2, hrun w, u3]
    simp only [Result.andThen, run_sizeOf w hinf, cellsOf_of hinf hs, sliced, ht]
  rcases h3 with rfl | ⟨⟨km, rfl⟩, hne, hm1, hm2⟩
  · refine key cap (by omega) fun w => ?_
    unfold Instr.sliceBounds
    rcases h2 with ⟨rfl, rfl⟩ | ⟨kh, rfl⟩
    · rcases h1 with ⟨rfl, rfl⟩ | ⟨kl, rfl⟩
      · simp [Sem.run_pure]
      · simp [Result.andThen, run_sliceBound b0 b1]
    · have hh := run_sliceBound (P := P) (k := kh) (i := hi) (y := cap) (c := .sliceAcap) (by omega) (by omega)
      rcases h1 with ⟨rfl, rfl⟩ | ⟨kl, rfl⟩
      · simp [Result.andThen, hh]
      · have hl := run_sliceBound (P := P) (k := kl) (i := lo) (y := hi.toNat) (c := .sliceB) b0 (by omega)
        simp [Sem.run_bind, Result.andThen, hh, hl]
  · rcases h2 with ⟨rfl, _⟩ | ⟨kh, rfl⟩
    · exact absurd rfl hne
    · refine key m.toNat (by omega) fun w => ?_
      unfold Instr.sliceBounds
      have hm := run_sliceBound (P := P) (k := km) (i := m) (y := cap) (c := .slice3Acap) (by omega) (by omega)
      have hh := run_sliceBound (P := P) (k := kh) (i := hi) (y := m.toNat) (c := .slice3B) (by omega) (by omega)
      rcases h1 with ⟨rfl, rfl⟩ | ⟨kl, rfl⟩
      · simp [Sem.run_bind, Result.andThen, hh, hm]
      · have hl := run_sliceBound (P := P) (k := kl) (i := lo) (y := hi.toNat) (c := .slice3C) b0 (by omega)
        simp [Sem.run_bind, Result.andThen, hh, hl, hm]

def isB (L : List (Nat × Value)) (n : Int) (q : Option Operand) : Prop := ∃ x k, q = some x ∧ evO L x = some (.int k n)
/-- xs[lo:hi] and xs[lo:hi:m] of a slice that is read; where a bound is missing it is 0, the length -/
theorem sl (htb : TbOk P tb) {T e s b : Nat} {zv : Value} (hu : asc tb.und T = some (.slice e)) (hti : asc tb.info e = some (zv, s, b)) {α : Type} {t : Ty α} (ht : t.size = s) {h : SH} {ao : Option Addr} {cap : Nat} {xs : List α}
    (hro : RO h t (.slice ao xs.length cap) xs) {lo hi m : Int} (hb : 0 ≤ lo ∧ lo ≤ hi ∧ hi ≤ xs.length) {x : Operand} {lv hv mv : Option Operand}
    (h1 : lv = none ∧ lo = 0 ∨ isB L lo lv) (h2 : hv = none ∧ hi = xs.length ∨ isB L hi hv) (h3 : mv = none ∨ isB L m mv ∧ hv ≠ none ∧ hi ≤ m ∧ m ≤ xs.length)
    {g : Option (Nat × Bool)} {pos : String} {after : Array Edge} {ty : TypeId} (hf : Fr N L a) (hd : Nat.blt d N = true) (hg : grd ops L g = some true)
    (hx : evO L x = some (.slice ao xs.length cap)) (K : ∀ ao' cap' a', RO h t (.slice ao' (cutL xs lo hi).length cap') (cutL xs lo hi) → Fr N ((d, .slice ao' (cutL xs lo hi).length cap') :: er d L) a' → wpList P ops Q rest a' w) :
    wpList P ops Q ({ dst := some d, op := .slice T x lv hv mv, type := ty, pos := pos, after := after, guard := g } :: rest) a w := by
  have conv : ∀ {q : Option Operand} {n : Int}, isB L n q → ∃ k, q.map a.eval = some (.int k n) := by
    rintro q n ⟨y, k, rfl, hk⟩
    exact ⟨k, by rw [Option.map_some, evO_ok hf hk]⟩
  obtain ⟨v', hv', hrun⟩ := exec_sl htb hu hti ht hro hb (lv := lv.map a.eval) (hv := hv.map a.eval) (mv := mv.map a.eval) (m := m)
    (h1.elim (fun q => .inl ⟨by rw [q.1]; rfl, q.2⟩) (fun q => .inr (conv q))) (h2.elim (fun q => .inl ⟨by rw [q.1]; rfl, q.2⟩) (fun q => .inr (conv q)))
    (h3.elim (fun q => .inl (by rw [q]; rfl)) (fun q => .inr ⟨conv q.1, by cases hv with | none => exact absurd rfl q.2.1 | some y => simp, q.2.2⟩))
  obtain ⟨ao', cap', e⟩ := hv'.shape
  subst e
  refine stp hf (v := .slice ao' (cutL xs lo hi).length cap') hg ?_ (K ao' cap' _ hv' (hf.put hd _))
  simp only [execOp, evO_ok hf hx, Sem.run_bind, hrun, Result.andThen, Sem.run_pure]

def mt : SH := fun _ => none
theorem mt_le (h : SH) : LeH mt h := fun _ _ e => by cases e
/-- append of what is read to what is owned -/
theorem run_ap (htb : TbOk P tb) {T e s b : Nat} {zv : Value} (hu : asc tb.und T = some (.slice e)) (hti : asc tb.info e = some (zv, s, b)) (hs : 0 < s) (hz : zv.cells.size = s) (hb1 : 0 < b) {α : Type} {t : Ty α} (ht : t.size = s) {h : SH} {B : Nat} {v : Value} {xs ys : List α} {ao : Option Addr} {cap n : Nat}
    (hown : Own w B h e t v xs) (hB : B ≤ w.heap.size) (hh : LeH h (hp w)) (hro : RO (hp w) t (.slice ao n cap) ys) (hry : ∀ cs, Reps t (hp w) ys cs → Reps t h ys cs) (hbd : (xs.length + ys.length) * b ≤ 140737488355328) (ty : TypeId) :
    ∃ v' w', (Builtin.append_ #[T, T] ty #[v, .slice ao n cap]).run P w = .ok v' w' ∧ Own w' B h e t v' (xs ++ ys) ∧ w.grownBy w' v.ownBlock ∧ (∀ k, v'.ownBlock = some k → v.ownBlock = some k ∨ w.heap.size ≤ k) := by
  obtain ⟨inf, hinf, hzero, hsz, hby⟩ := htb.i hti
  obtain ⟨cs, hor, hr, hn⟩ := hown
  obtain ⟨ao', cap', ds, e1, hc2, hr2, hcell⟩ := hro
  simp only [Value.slice.injEq] at e1
  obtain ⟨rfl, rfl, rfl⟩ := e1
  have hlen := hr2.length
  cases ao with
  | none =>
    have hds : ds = [] := by
      cases ds with
      | nil => rfl
      | cons u r => obtain ⟨_, _, h1, _⟩ := hcell 0 u rfl; cases h1
    have hys : ys = [] := by
      rw [hds, ht] at hlen
      have : ys.length = 0 := by
        rcases Nat.eq_zero_or_pos ys.length with h' | h'
        · exact h'
        · have := Nat.mul_pos h' hs; simp at hlen; omega
      exact List.eq_nil_of_length_eq_zero this
    subst hys
    refine ⟨v, w, ?_, ⟨cs, by simpa using hor, by simpa using hr, hn⟩, ⟨rfl, rfl, rfl, Nat.le_refl _, fun _ _ _ => rfl⟩, fun k hk => .inl hk⟩
    have hu' := htb.u hu
    rcases hor.2 with ⟨rfl, h0⟩ | ⟨g, cp, cur, rfl, _, _, hcp, _⟩
    · simp [Builtin.append_, run_underlying hu', Go.sizeOf, typeInfo, hinf, Builtin.lenOf, Builtin.firstCells]
    · simp [Builtin.append_, run_underlying hu', Go.sizeOf, typeInfo, hinf, Builtin.lenOf, Builtin.firstCells, hcp, storeCells]
  | some p =>
    have hcells : ∀ (j : Nat) (u : Value), ds[j]? = some u → w.cell? (p.add j) = some u := by
      intro j u hj
      obtain ⟨bl, o, h1, h2⟩ := hcell j u hj
      simp only [Option.some.injEq] at h1; subst h1
      rw [Addr.add_lit]; exact cellH_cell (LeH.refl _) h2
    have hle : (xs.length + ys.length) ≤ maxLen := by
      have : (xs.length + ys.length) * 1 ≤ (xs.length + ys.length) * b := Nat.mul_le_mul_left _ hb1
      unfold maxLen; omega
    obtain ⟨v', w', hrun, hor', hgr, hnil⟩ := run_append_own (P := P) w B T ty e inf zv s b (htb.u hu) hinf hzero hsz hby hz hs v xs.length cs (by rw [ht] at hor; exact hor) p ys.length cap ds (by rw [hlen, ht]) hcells (fun u hu => hr2.one u hu) hle hbd hB
    have hloc : ∀ k, v'.ownBlock = some k → v.ownBlock = some k ∨ w.heap.size ≤ k := by
      intro k hk
      rcases hor.2 with ⟨rfl, h0⟩ | ⟨g, cp, cur, rfl, _, hg, hcp, _, hcs, _⟩
      · rcases Nat.eq_zero_or_pos ys.length with hm | hm
        · rw [hnil.2 ⟨rfl, hm⟩] at hk; simp [Value.ownBlock] at hk
        · have h1 : xs.length + ys.length = ys.length := by omega
          rw [h1] at hbd hle
          have h2 := run_append_nil (P := P) w T ty e inf zv (htb.u hu) hinf hzero p ys.length cap ds (by rw [hlen, ht, hsz]) hcells hm (by unfold maxLen at hle; omega) (by rw [hby]; omega)
          rw [hrun] at h2
          simp only [Result.ok.injEq] at h2
          rw [h2.1] at hk; simp only [Value.ownBlock, Option.some.injEq] at hk
          exact .inr (by omega)
      · by_cases hroom : xs.length + ys.length ≤ cp
        · have h2 := run_append_room (P := P) w T ty e inf (htb.u hu) hinf g xs.length cp cur hg p ys.length cap ds (by rw [hlen, ht, hsz]) hcells (fun u hu => hr2.one u hu) hroom
            (by rw [hlen, hsz, hcs, ht, ← Nat.add_mul]; exact Nat.mul_le_mul_right _ hroom)
          rw [hrun] at h2
          simp only [Result.ok.injEq] at h2
          rw [h2.1] at hk
          exact .inl hk
        · have h2 := run_append_grow (P := P) w T ty e inf zv (htb.u hu) hinf hzero ⟨g, 0, none⟩ xs.length cp cs (by rw [hor.1, ht, hsz]) (hor.cells (g := g) rfl) p ys.length cap ds (by rw [hlen, ht, hsz]) hcells (by omega) (by unfold maxLen at hle; omega) (growslice_fits (by omega) (by rw [hby]; exact hbd))
          rw [hrun] at h2
          simp only [Result.ok.injEq] at h2
          rw [h2.1] at hk; simp only [Value.ownBlock, Option.some.injEq] at hk
          exact .inr (by omega)
    refine ⟨v', w', hrun, ⟨cs ++ ds, ?_, hr.append (hry _ hr2), fun k hk => ?_⟩, hgr, hloc⟩
    · rw [List.length_append, ht]; exact hor'
    · rcases hloc k hk with h' | h'
      · exact hn k h'
      · exact LeH_none hh h'

theorem exec_builtin {f : Builtin} {A : List Operand} {vs : List Value} (hf : Fr N L a) (hA : evL L A = some vs) {dst : Option Tmp} {ty : TypeId} {at_ : Array TypeId} {pos : String} {after : Array Edge} {g : Option (Nat × Bool)} {R : Result Next}
    (h : ∀ consts, (builtin f at_ ty consts vs.toArray).run P w = R) :
    (execOp a.eval { dst := dst, op := .call { callee := .builtin f, args := A.toArray, argTypes := at_ }, type := ty, pos := pos, after := after, guard := g }).run P w = R := by
  simp only [execOp, resolve, List.map_toArray, evL_ok hf hA]
  rw [Sem.run_bind, Sem.run_pure]
  exact h _
/-- v = append(v, ys...) : v owned, ys read; of cells without addresses -/
theorem ap (htb : TbOk P tb) {T e s b : Nat} {zv : Value} (hu : asc tb.und T = some (.slice e)) (hti : asc tb.info e = some (zv, s, b)) (hs : Nat.blt 0 s = true) (hz : zv.cells.size = s) (hb1 : Nat.blt 0 b = true) {α : Type} {t : Ty α} (hF : Flat t) (ht : t.size = s) {B : Nat} {v : Value} {xs ys : List α} {ao : Option Addr} {cap n : Nat}
    (hown : Own w B mt e t v xs) (hB : B ≤ w.heap.size) {h : SH} (hro : RO h t (.slice ao n cap) ys) (hl : LeH h (hp w)) (hbd : (xs.length + ys.length) * b ≤ 140737488355328)
    {x y : Operand} {g : Option (Nat × Bool)} {pos : String} {after : Array Edge} {ty : TypeId} (hf : Fr N L a) (hd : Nat.blt d N = true) (hg : grd ops L g = some true) (hx : evO L x = some v) (hy : evO L y = some (.slice ao n cap))
    (K : ∀ ao' cap' w' a', Own w' B mt e t (.slice ao' (xs ++ ys).length cap') (xs ++ ys) → w.grownBy w' v.ownBlock → (∀ k, (Value.slice ao' (xs ++ ys).length cap').ownBlock = some k → v.ownBlock = some k ∨ w.heap.size ≤ k) → Fr N ((d, .slice ao' (xs ++ ys).length cap') :: er d L) a' → wpList P ops Q rest a' w') :
    wpList P ops Q ({ dst := some d, op := .call { callee := .builtin .append, args := #[x, y], argTypes := #[T, T] }, type := ty, pos := pos, after := after, guard := g } :: rest) a w := by
  obtain ⟨v', w', hrun, hown', hgr, hloc⟩ := run_ap htb hu hti (Nat.le_of_ble_eq_true hs) hz (Nat.le_of_ble_eq_true hb1) ht hown hB (mt_le _) (hro.mono hl) (fun cs hr => hr.flat hF) hbd ty
  obtain ⟨ao', cap', e1⟩ := hown'.shape
  subst e1
  refine stp hf (v := .slice ao' (xs ++ ys).length cap') (w' := w') hg ?_ (K ao' cap' w' _ hown' hgr hloc (hf.put hd _))
  refine exec_builtin (A := [x, y]) (vs := [v, .slice ao n cap]) hf (by simp only [evL, hx, hy]) fun consts => ?_
  simp only [builtin, Sem.run_bind, hrun, Result.andThen, Sem.run_pure]

/-! literals -/
theorem reps_flat {α : Type} {n : Nat} {enc : α → List Value} {hl : ∀ x, (enc x).length = n} {ho : ∀ x, ∀ u ∈ enc x, u.oneCell' = true} {h : SH} : ∀ (xs : List α), Reps (tF n enc hl ho) h xs (xs.flatMap enc)
  | [] => rfl
  | x :: xs => ⟨enc x, xs.flatMap enc, by rw [List.flatMap_cons], rfl, reps_flat xs⟩
theorem own_new {α : Type} {t : Ty α} {h : SH} {e : TypeId} {xs : List α} {cells : Array Value} (hr : Reps t h xs cells.toList) (hn : h w.heap.size = none) (hm : xs.length ≤ maxLen) :
    Own (w.alloc (.cells cells e)) w.heap.size h e t (.slice (some ⟨w.heap.size, 0, none⟩) xs.length xs.length) xs := by
  have hlen : cells.size = xs.length * t.size := by rw [← Array.length_toList]; exact hr.length
  refine ⟨cells.toList, ⟨by rw [Array.length_toList, hlen], .inr ⟨w.heap.size, xs.length, cells, rfl, Nat.le_refl _, heap_alloc_new w _, Nat.le_refl _, hm, hlen, ?_⟩⟩, hr, ?_⟩
  · rw [← hlen, ← Array.length_toList, List.take_length]
  · intro k hk; simp only [Value.ownBlock, Option.some.injEq] at hk; rw [← hk]; exact hn
def litCells (s : Nat) (n : Nat) (zv : Value) (parts : List (Nat × Value)) : Option (Array Value) :=
  Instr.fill (fun i => some (i * s, s)) ((Array.range (n * s)).map (zv.cells[· % zv.cells.size]!)) parts
/-- a literal of a slice, of cells without addresses -/
theorem bs (htb : TbOk P tb) {T e s b : Nat} {zv : Value} (hu : asc tb.und T = some (.slice e)) (hti : asc tb.info e = some (zv, s, b)) (hs : Nat.blt 0 s = true) {α : Type} {t : Ty α} {n : Nat} {ps : List (Nat × Operand)} {vs : List (Nat × Value)} {cells : Array Value} (xs : List α)
    {g : Option (Nat × Bool)} {pos : String} {after : Array Edge} {ty : TypeId} (hf : Fr N L a) (hd : Nat.blt d N = true) (hg : grd ops L g = some true) (hps : evP L ps = some vs) (hsz : Nat.ble (n * s) 16777216 = true) (hc : litCells s n zv vs = some cells)
    (hr : Reps t mt xs cells.toList) (hlen : xs.length = n) (K : ∀ w' a', Own w' w.heap.size mt e t (.slice (some ⟨w.heap.size, 0, none⟩) xs.length xs.length) xs → Ext w w' → w.heap.size < w'.heap.size → Fr N ((d, .slice (some ⟨w.heap.size, 0, none⟩) xs.length xs.length) :: er d L) a' → wpList P ops Q rest a' w') :
    wpList P ops Q ({ dst := some d, op := .buildSlice T n ps.toArray, type := ty, pos := pos, after := after, guard := g } :: rest) a w := by
  obtain ⟨inf, hinf, hzero, hsize, hby⟩ := htb.i hti
  have hsz' : n * s ≤ 16777216 := Nat.le_of_ble_eq_true hsz
  have hown := own_new (w := w) (e := e) hr rfl (by
    rw [hlen]
    have : n * 1 ≤ n * s := Nat.mul_le_mul_left _ (Nat.le_of_ble_eq_true hs)
    unfold maxLen; omega)
  refine stp hf (v := .slice (some ⟨w.heap.size, 0, none⟩) xs.length xs.length) (w' := w.alloc (.cells cells e)) hg ?_ (K _ _ hown ((Below.refl _ _).alloc (Nat.le_refl _) _) (by simp) (hf.put hd _))
  have hparts : ps.toArray.map (fun (p : Nat × Operand) => (p.1, a.eval p.2)) = vs.toArray := by rw [List.map_toArray, evP_ok hf hps]
  have hrun : (Instr.buildSlice T n vs.toArray).run P w = .ok (.slice (some ⟨w.heap.size, 0, none⟩) n n) (w.alloc (.cells cells e)) := by
    unfold Instr.buildSlice
    simp only [Sem.run_bind, asc_und htb hu, Result.andThen, run_sizeOf w hinf, cellsOf_of hinf hsize]
    rw [if_neg (by omega)]
    unfold litCells at hc
    by_cases h0 : n * s = 0
    · have e0 : ∀ f : Nat → Value, (Array.range 0).map f = #[] := fun f => by simp
      simp only [h0, if_true]
      rw [h0] at hc
      simp only [e0] at hc ⊢
      simp only [hc, newRow, Sem.run_bind, run_newObj_alloc, Result.andThen, Sem.run_pure]
    · simp only [h0, if_false, zeroValue, typeInfo, Sem.run_bind, run_program, Result.andThen, hinf, hzero, Sem.run_pure]
      simp only [hc, newRow, Sem.run_bind, run_newObj_alloc, Result.andThen, Sem.run_pure]
  simp only [execOp, hparts, Sem.run_bind, hrun, Result.andThen, Sem.run_pure, hlen]

/-! make, stores, texts -/
theorem reps_rep {α : Type} {t : Ty α} {h : SH} {x : α} {c : List Value} (hx : t.rep h x c) : ∀ n, Reps t h (List.replicate n x) (List.replicate n c).flatten
  | 0 => rfl
  | n + 1 => ⟨c, (List.replicate n c).flatten, by rw [List.replicate_succ, List.flatten_cons], hx, reps_rep hx n⟩
theorem made_one {u : Value} (n : Nat) : (madeCells #[u] n).toList = (List.replicate n [u]).flatten := by
  unfold madeCells
  have : ∀ n, (List.replicate n [u]).flatten = List.replicate n u := by
    intro n; induction n with
    | zero => rfl
    | succ n ih => rw [List.replicate_succ, List.flatten_cons, ih]; rfl
  rw [this, Array.toList_map, Array.toList_range]
  refine List.ext_getElem (by simp) fun i h1 h2 => ?_
  simp [Nat.mod_one]
/-- make([]T, n), of elements of one cell -/
theorem mk (htb : TbOk P tb) {T e b : Nat} {zv : Value} (hu : asc tb.und T = some (.slice e)) (hti : asc tb.info e = some (zv, 1, b)) (hb1 : Nat.blt 0 b = true) {α : Type} {t : Ty α} (ht : t.size = 1) (z : α) (hz : t.rep mt z [zv]) (hzc : zv.cells = #[zv]) {x y : Operand} {k k' : IntKind} {n : Int}
    (hn : 0 ≤ n ∧ n * b ≤ 281474976710656) {g : Option (Nat × Bool)} {pos : String} {after : Array Edge} {ty : TypeId} (hf : Fr N L a) (hd : Nat.blt d N = true) (hg : grd ops L g = some true) (hx : evO L x = some (.int k n)) (hy : evO L y = some (.int k' n))
    (K : ∀ w' a', Own w' w.heap.size mt e t (.slice (some ⟨w.heap.size, 0, none⟩) (List.replicate n.toNat z).length n.toNat) (List.replicate n.toNat z) → Ext w w' → w.heap.size < w'.heap.size → Fr N ((d, .slice (some ⟨w.heap.size, 0, none⟩) (List.replicate n.toNat z).length n.toNat) :: er d L) a' → wpList P ops Q rest a' w') :
    wpList P ops Q ({ dst := some d, op := .makeSlice T x y, type := ty, pos := pos, after := after, guard := g } :: rest) a w := by
  obtain ⟨inf, hinf, hzero, hsize, hby⟩ := htb.i hti
  obtain ⟨m, rfl⟩ := Int.eq_ofNat_of_zero_le hn.1
  have hb1' : 0 < b := Nat.le_of_ble_eq_true hb1
  have h48 : b * m ≤ 281474976710656 := by
    have h2 := hn.2
    have h3 : ((m * b : Nat) : Int) ≤ 281474976710656 := by push_cast; exact h2
    rw [Nat.mul_comm]; omega
  have hm : m ≤ maxLen := by
    have : 1 * m ≤ b * m := Nat.mul_le_mul_right _ hb1'
    unfold maxLen; omega
  obtain ⟨w', hrun, hor, hgr⟩ := run_make_full (P := P) w w.heap.size T e inf zv 1 (htb.u hu) hinf hzero hsize k k' m (by rw [hby]; exact h48) hm (Nat.le_refl _)
  have hrl : (List.replicate m z).length = m := List.length_replicate
  have hlt : w.heap.size < w'.heap.size := (hor.lt _ rfl).2
  have hown : Own w' w.heap.size mt e t (.slice (some ⟨w.heap.size, 0, none⟩) (List.replicate m z).length m) (List.replicate m z) := by
    rw [hrl]
    refine ⟨(madeCells zv.cells (m * 1)).toList, by rw [hrl, ht]; exact hor, ?_, fun k hk => rfl⟩
    rw [hzc, Nat.mul_one, made_one]; exact reps_rep hz m
  refine stp hf (v := .slice (some ⟨w.heap.size, 0, none⟩) m m) (w' := w') hg ?_ ?_
  · simp only [execOp, evO_ok hf hx, evO_ok hf hy, Sem.run_bind, hrun, Result.andThen, Sem.run_pure]
  · refine K w' _ (by simpa using hown) (ext_of_grown hgr) hlt ?_
    simp only [Int.toNat_natCast, hrl]
    exact hf.put hd _
/-- an element's address in a row of the call's own -/
def OwnP (v : Value) (s : Nat) (n : Int) (p : Addr) : Prop := ∃ g len cap, v = .slice (some ⟨g, 0, none⟩) len cap ∧ p = ⟨g, n.toNat * s, none⟩
theorem ixO (htb : TbOk P tb) {T e s b : Nat} {zv : Value} (hu : asc tb.und T = some (.slice e)) (hti : asc tb.info e = some (zv, s, b)) {α : Type} {t : Ty α} {h : SH} {B : Nat} {v : Value} {xs : List α} (hown : Own w B h e t v xs) {x i : Operand} {k : IntKind} {n : Int} (hn : 0 ≤ n ∧ n < xs.length)
    {g : Option (Nat × Bool)} {pos : String} {after : Array Edge} {ty : TypeId} (hf : Fr N L a) (hd : Nat.blt d N = true) (hg : grd ops L g = some true)
    (hx : evO L x = some v) (hi2 : evO L i = some (.int k n)) (K : ∀ p a', OwnP v s n p → Fr N ((d, .pointer (some p)) :: er d L) a' → wpList P ops Q rest a' w) :
    wpList P ops Q ({ dst := some d, op := .indexAddr T x i, type := ty, pos := pos, after := after, guard := g } :: rest) a w := by
  obtain ⟨cs, hor, hr, hnn⟩ := hown
  rcases hor.2 with ⟨_, h0⟩ | ⟨gb, cp, cur, rfl, _⟩
  · omega
  · refine stp hf (v := .pointer (some ⟨gb, 0 + n.toNat * s, none⟩)) hg ?_ (K _ _ ⟨gb, _, _, rfl, by rw [Nat.zero_add]⟩ (hf.put hd _))
    simp only [execOp, evO_ok hf hx, evO_ok hf hi2, Sem.run_bind, run_ix htb hu hti hn.1 hn.2 w, Result.andThen, Sem.run_pure]
theorem Reps.set1 {α : Type} {t : Ty α} {h : SH} (ht : t.size = 1) {y : α} {u : Value} (hy : t.rep h y [u]) : ∀ {xs : List α} {cs : List Value} (i : Nat), Reps t h xs cs → Reps t h (xs.set i y) (cs.set i u)
  | [], cs, i, e => by rw [show cs = [] from e]; exact rfl
  | x :: xs, cs, 0, ⟨c, r, e, hc, hr⟩ => by
    have h1 := t.len hc
    rw [ht] at h1
    obtain ⟨q, rfl⟩ := List.length_eq_one_iff.1 h1
    rw [e]
    exact ⟨[u], r, rfl, hy, hr⟩
  | x :: xs, cs, i + 1, ⟨c, r, e, hc, hr⟩ => by
    have h1 := t.len hc
    rw [ht] at h1
    obtain ⟨q, rfl⟩ := List.length_eq_one_iff.1 h1
    rw [e]
    exact ⟨[q], r.set i u, rfl, hc, Reps.set1 ht hy i hr⟩
/-- v[n] = y, of one cell -/
theorem sto (htb : TbOk P tb) {T b : Nat} {zv : Value} (hti : asc tb.info T = some (zv, 1, b)) {e : TypeId} {α : Type} {t : Ty α} (ht : t.size = 1) {h : SH} {B : Nat} {v : Value} {xs : List α} (hown : Own w B h e t v xs) {n : Int} (hn : 0 ≤ n ∧ n < xs.length) {p : Addr} (hp' : OwnP v 1 n p)
    {x y : Operand} {u : Value} {yv : α} (hrep : t.rep h yv [u]) (hu1 : u.cells = #[u])
    {g : Option (Nat × Bool)} {pos : String} {after : Array Edge} {ty : TypeId} (hf : Fr N L a) (hg : grd ops L g = some true)
    (hx : evO L x = some (.pointer (some p))) (hy : evO L y = some u)
    (K : ∀ w' a', Own w' B h e t v (xs.set n.toNat yv) → w.grownBy w' v.ownBlock → w'.heap.size = w.heap.size → Fr N L a' → wpList P ops Q rest a' w') :
    wpList P ops Q ({ dst := none, op := .store T x y, type := ty, pos := pos, after := after, guard := g } :: rest) a w := by
  obtain ⟨inf, hinf, hzero, hsize, hby⟩ := htb.i hti
  obtain ⟨gb, len, cap, hv, rfl⟩ := hp'
  obtain ⟨cs, hor, hr, hnn⟩ := hown
  rw [ht] at hor
  have hsh : len = xs.length := by
    rcases hor.2 with ⟨h1, h0⟩ | ⟨_, _, _, h1, _⟩
    · omega
    · rw [hv] at h1; simp only [Value.slice.injEq] at h1; exact h1.2.1
  subst hv
  subst hsh
  have hcell := hor.cellAt n.toNat (by omega)
  have hlen := hr.length
  rw [ht, Nat.mul_one] at hlen
  have hlt : n.toNat < cs.length := by omega
  rw [List.getElem?_eq_getElem hlt] at hcell
  have hone : u.oneCell' = true := t.one hrep u (by simp)
  obtain ⟨hst, hgr⟩ := hor.stored n.toNat u
  have hrun : (Instr.storeAt T (.pointer (some ⟨gb, n.toNat * 1, none⟩)) u).run P w = .ok () (w.setCell ⟨gb, n.toNat, none⟩ u) := by
    unfold Instr.storeAt Instr.sureAddr storeVar
    simp only [Sem.run_bind, Sem.run_pure, Result.andThen, run_sizeOf w hinf, cellsOf_of hinf hsize, hu1, Nat.mul_one]
    simp only [List.size_toArray, List.length_cons, List.length_nil, Nat.zero_add, ne_eq, not_true_eq_false, if_false, storeCells, Sem.run_bind, Addr.add_lit, Nat.add_zero]
    rw [run_store P w _ u .plain hone]
    simp only [hcell, hor.frozenAt n.toNat, Bool.false_eq_true, if_false, Result.andThen, Sem.run_pure]
  refine stpS hf (w' := w.setCell ⟨gb, n.toNat, none⟩ u) hg ?_ ?_
  · simp only [execOp, evO_ok hf hx, evO_ok hf hy, Sem.run_bind, hrun, Result.andThen, Sem.run_pure]
  · refine K _ _ ⟨cs.set n.toNat u, ?_, Reps.set1 ht hrep _ hr, hnn⟩ hgr (by simp [World.setCell]) (hf.put_none _)
    rw [List.length_set, ht]; exact hst
theorem run_b2s (htb : TbOk P tb) {src dst e : Nat} (h1 : asc tb.und src = some (.slice e)) (h2 : asc tb.und e = some (.int .u8)) (h3 : asc tb.und dst = some .string) {h : SH} {v : Value} {xs : List Int} (hro : RO h (tI .u8) v xs) (hl : LeH h (hp w)) :
    (convert src dst v).run P w = .ok (strV (toStr xs)) w := by
  obtain ⟨ao, cap, cs, rfl, hcp, hr, hc⟩ := hro
  have hcs : cs = xs.map (Value.int .u8) := by
    clear hc hcp
    induction xs generalizing cs with
    | nil => exact hr
    | cons x xs ih => obtain ⟨c, r, e1, e2, e3⟩ := hr; rw [e1, show c = _ from e2, ih r e3]; rfl
  rw [run_convert_bytes_string w src dst e ao xs.length cap (htb.u h1) (htb.u h2) (htb.u h3)]
  cases ao with
  | none =>
    have : xs = [] := by
      cases xs with
      | nil => rfl
      | cons x xs => rw [hcs] at hc; obtain ⟨_, _, e1, _⟩ := hc 0 _ rfl; cases e1
    subst this
    simp [Conv.bytesToString]; rfl
  | some p =>
    have hl2 : (loadCells p xs.length).run P w = .ok (xs.map (Value.int .u8)).toArray w := by
      have := run_loadCells_list (P := P) w p (xs.map (Value.int .u8)) (fun j u hj => by
        rw [← hcs] at hj
        obtain ⟨bl, o, e1, e2⟩ := hc j u hj
        simp only [Option.some.injEq] at e1; subst e1
        rw [Addr.add_lit]; exact cellH_cell hl e2)
      simpa using this
    rw [run_bytesToString w p xs.length cap xs hl2, foldl_push_bytes]
    simp [strV, toStr, ByteArray.empty, ByteArray.emptyWithCapacity]
    rfl
/-- string(xs) -/
theorem b2s (htb : TbOk P tb) {src dst e : Nat} (h1 : asc tb.und src = some (.slice e)) (h2 : asc tb.und e = some (.int .u8)) (h3 : asc tb.und dst = some .string) {h : SH} {v : Value} {xs : List Int} (hro : RO h (tI .u8) v xs) (hl : LeH h (hp w))
    {x : Operand} {g : Option (Nat × Bool)} {pos : String} {after : Array Edge} {ty : TypeId} (hf : Fr N L a) (hd : Nat.blt d N = true) (hg : grd ops L g = some true) (hx : evO L x = some v) (K : ∀ a', Fr N ((d, strV (toStr xs)) :: er d L) a' → wpList P ops Q rest a' w) :
    wpList P ops Q ({ dst := some d, op := .convert src dst x, type := ty, pos := pos, after := after, guard := g } :: rest) a w := by
  refine stp hf (v := strV (toStr xs)) hg ?_ (K _ (hf.put hd _))
  simp only [execOp, evO_ok hf hx, Sem.run_bind, run_b2s htb h1 h2 h3 hro hl, Result.andThen, Sem.run_pure]

/-! operations on numbers that may fail -/
theorem run_shl {k k' : IntKind} {x y : Int} (h : 0 ≤ y) (t : TypeId) (w : World) : (binOp .shl t (.int k x) (.int k' y)).run P w = .ok (.int k (shl k x y)) w := by
  simp only [binOp, Op.shift]; rw [if_neg (by omega)]; rfl
theorem run_shr {k k' : IntKind} {x y : Int} (h : 0 ≤ y) (t : TypeId) (w : World) : (binOp .shr t (.int k x) (.int k' y)).run P w = .ok (.int k (shr k x y)) w := by
  simp only [binOp, Op.shift]; rw [if_neg (by omega)]; rfl
theorem run_quo {k : IntKind} {x y : Int} (h : y ≠ 0) (t : TypeId) (w : World) : (binOp .quo t (.int k x) (.int k y)).run P w = .ok (.int k (k.wrap (Int.tdiv x y))) w := by
  simp only [binOp, ne_eq, not_true_eq_false, if_false, Op.intDiv]; rw [if_neg h]; rfl
theorem run_rem {k : IntKind} {x y : Int} (h : y ≠ 0) (t : TypeId) (w : World) : (binOp .rem t (.int k x) (.int k y)).run P w = .ok (.int k (Int.tmod x y)) w := by
  simp only [binOp, ne_eq, not_true_eq_false, if_false, Op.intDiv]; rw [if_neg h]; rfl
theorem bin {op : BinOp} {k k' : IntKind} {m n : Int} {v : Value} {t t' : TypeId} (hr : ∀ w, (binOp op t (.int k m) (.int k' n)).run P w = .ok v w) {x y : Operand} {g : Option (Nat × Bool)} {pos : String} {after : Array Edge} {ty : TypeId} (hf : Fr N L a) (hd : Nat.blt d N = true) (hg : grd ops L g = some true)
    (hx : evO L x = some (.int k m)) (hy : evO L y = some (.int k' n)) (K : ∀ a', Fr N ((d, v) :: er d L) a' → wpList P ops Q rest a' w) :
    wpList P ops Q ({ dst := some d, op := .binOp op t x y t', type := ty, pos := pos, after := after, guard := g } :: rest) a w := by
  refine stp hf (v := v) hg ?_ (K _ (hf.put hd _))
  simp only [execOp, evO_ok hf hx, evO_ok hf hy, Sem.run_bind, eqGuard_int, hr, Result.andThen, Sem.run_pure]
theorem binQ {C : World → Prop} {R : Act → Prop} {op : BinOp} {k k' : IntKind} {m n : Int} {v : Value} {t t' : TypeId} (hr : ∀ w, (binOp op t (.int k m) (.int k' n)).run P w = .ok v w) {x y : Operand} {g : Option (Nat × Bool)} {pos : String} {after : Array Edge} {ty : TypeId} (hf : Fr N L a) (hd : Nat.blt d N = true) (hg : grd ops L g = some true)
    (hx : evO L x = some (.int k m)) (hy : evO L y = some (.int k' n)) (K : ∀ a', Fr N ((d, v) :: er d L) a' → wpQuiet P ops C R rest a') :
    wpQuiet P ops C R ({ dst := some d, op := .binOp op t x y t', type := ty, pos := pos, after := after, guard := g } :: rest) a := by
  refine stpQ hf (v := v) hg (fun w _ => ?_) (K _ (hf.put hd _))
  simp only [execOp, evO_ok hf hx, evO_ok hf hy, Sem.run_bind, eqGuard_int, hr, Result.andThen, Sem.run_pure]
theorem b2sQ (htb : TbOk P tb) {R : Act → Prop} {src dst e : Nat} (h1 : asc tb.und src = some (.slice e)) (h2 : asc tb.und e = some (.int .u8)) (h3 : asc tb.und dst = some .string) {h : SH} {v : Value} {xs : List Int} (hro : RO h (tI .u8) v xs) (hl : LeH h (hp w))
    {x : Operand} {g : Option (Nat × Bool)} {pos : String} {after : Array Edge} {ty : TypeId} (hf : Fr N L a) (hd : Nat.blt d N = true) (hg : grd ops L g = some true) (hx : evO L x = some v) (K : ∀ a', Fr N ((d, strV (toStr xs)) :: er d L) a' → wpQuiet P ops (Ext w) R rest a') :
    wpQuiet P ops (Ext w) R ({ dst := some d, op := .convert src dst x, type := ty, pos := pos, after := after, guard := g } :: rest) a := by
  refine stpQ hf (v := strV (toStr xs)) hg (fun w' hw' => ?_) (K _ (hf.put hd _))
  simp only [execOp, evO_ok hf hx, Sem.run_bind, run_b2s htb h1 h2 h3 hro (hl.trans hw'.le), Result.andThen, Sem.run_pure]
theorem slQ (htb : TbOk P tb) {C : World → Prop} {R : Act → Prop} {T e s b : Nat} {zv : Value} (hu : asc tb.und T = some (.slice e)) (hti : asc tb.info e = some (zv, s, b)) {α : Type} {t : Ty α} (ht : t.size = s) {h : SH} {ao : Option Addr} {cap : Nat} {xs : List α}
    (hro : RO h t (.slice ao xs.length cap) xs) {lo hi m : Int} (hb : 0 ≤ lo ∧ lo ≤ hi ∧ hi ≤ xs.length) {x : Operand} {lv hv mv : Option Operand}
    (h1 : lv = none ∧ lo = 0 ∨ isB L lo lv) (h2 : hv = none ∧ hi = xs.length ∨ isB L hi hv) (h3 : mv = none ∨ isB L m mv ∧ hv ≠ none ∧ hi ≤ m ∧ m ≤ xs.length)
    {g : Option (Nat × Bool)} {pos : String} {after : Array Edge} {ty : TypeId} (hf : Fr N L a) (hd : Nat.blt d N = true) (hg : grd ops L g = some true)
    (hx : evO L x = some (.slice ao xs.length cap)) (K : ∀ ao' cap' a', RO h t (.slice ao' (cutL xs lo hi).length cap') (cutL xs lo hi) → Fr N ((d, .slice ao' (cutL xs lo hi).length cap') :: er d L) a' → wpQuiet P ops C R rest a') :
    wpQuiet P ops C R ({ dst := some d, op := .slice T x lv hv mv, type := ty, pos := pos, after := after, guard := g } :: rest) a := by
  have conv : ∀ {q : Option Operand} {n : Int}, isB L n q → ∃ k, q.map a.eval = some (.int k n) := by
    rintro q n ⟨y, k, rfl, hk⟩
    exact ⟨k, by rw [Option.map_some, evO_ok hf hk]⟩
  obtain ⟨v', hv', hrun⟩ := exec_sl htb hu hti ht hro hb (lv := lv.map a.eval) (hv := hv.map a.eval) (mv := mv.map a.eval) (m := m)
    (h1.elim (fun q => .inl ⟨by rw [q.1]; rfl, q.2⟩) (fun q => .inr (conv q))) (h2.elim (fun q => .inl ⟨by rw [q.1]; rfl, q.2⟩) (fun q => .inr (conv q)))
    (h3.elim (fun q => .inl (by rw [q]; rfl)) (fun q => .inr ⟨conv q.1, by cases hv with | none => exact absurd rfl q.2.1 | some y => simp, q.2.2⟩))
  obtain ⟨ao', cap', e⟩ := hv'.shape
  subst e
  refine stpQ hf (v := .slice ao' (cutL xs lo hi).length cap') hg (fun w _ => ?_) (K ao' cap' _ hv' (hf.put hd _))
  simp only [execOp, evO_ok hf hx, Sem.run_bind, hrun, Result.andThen, Sem.run_pure]

/-! a slice against nil -/
theorem run_eqnil (htb : TbOk P tb) {T e : Nat} (hu : asc tb.und T = some (.slice e)) (ao : Option Addr) (n c : Nat) (w : World) : (Op.equal T (.slice ao n c) (.slice none 0 0)).run P w = .ok ao.isNone w := by
  unfold Op.equal Op.maxDepth Op.equalIn
  cases ao <;> simp only [Sem.run_bind, asc_und htb hu, Result.andThen] <;> rfl
theorem eqGuard_sl (op : BinOp) (t : TypeId) (x y : Operand) (ao bo : Option Addr) (n c m d : Nat) (w : World) : (eqGuard op t x y (.slice ao n c) (.slice bo m d)).run P w = .ok () w := by
  unfold eqGuard; cases op <;> rfl
theorem eqnil (htb : TbOk P tb) {T e : Nat} (hu : asc tb.und T = some (.slice e)) {ao : Option Addr} {n c : Nat} {t' : TypeId} {x : Operand} {g : Option (Nat × Bool)} {pos : String} {after : Array Edge} {ty : TypeId} (hf : Fr N L a) (hd : Nat.blt d N = true) (hg : grd ops L g = some true)
    (hx : evO L x = some (.slice ao n c)) (K : ∀ a', Fr N ((d, .bool ao.isNone) :: er d L) a' → wpList P ops Q rest a' w) :
    wpList P ops Q ({ dst := some d, op := .binOp .eql T x (.const (.slice none 0 0)) t', type := ty, pos := pos, after := after, guard := g } :: rest) a w := by
  refine stp hf (v := .bool ao.isNone) hg ?_ (K _ (hf.put hd _))
  have e2 : a.eval (.const (.slice none 0 0)) = .slice none 0 0 := rfl
  simp only [execOp, evO_ok hf hx, e2, Sem.run_bind, eqGuard_sl, Result.andThen, binOp, run_eqnil htb hu, Sem.run_pure]
theorem RO.none_nil {α : Type} {t : Ty α} {h : SH} {n c : Nat} {xs : List α} (hs : 0 < t.size) (hro : RO h t (.slice none n c) xs) : xs = [] := by
  obtain ⟨ao, cap, cs, e, _, hr, hc⟩ := hro
  simp only [Value.slice.injEq] at e
  obtain ⟨rfl, _, _⟩ := e
  have hlen := hr.length
  cases cs with
  | nil =>
    rcases Nat.eq_zero_or_pos xs.length with h' | h'
    · exact List.eq_nil_of_length_eq_zero h'
    · have := Nat.mul_pos h' hs; simp at hlen; omega
  | cons u r => obtain ⟨_, _, h1, _⟩ := hc 0 u rfl; cases h1
end mem

/-! rows apart -/
def Dj (v u : Value) : Prop := ∀ k, v.ownBlock = some k → u.ownBlock = some k → False
theorem Dj.symm {v u : Value} (h : Dj v u) : Dj u v := fun k a b => h k b a
theorem Dj.ne {v u : Value} (h : Dj v u) : v.ownBlock = none ∨ v.ownBlock ≠ u.ownBlock := by
  cases e : v.ownBlock with
  | none => exact .inl rfl
  | some k => exact .inr fun e2 => h k e e2.symm
theorem Dj.new {α β : Type} {t : Ty α} {t' : Ty β} {h h' : SH} {w w' : World} {B : Nat} {e e' : TypeId} {v v' : Value} {xs : List α} {ys : List β} (ho : Own w B h e t v xs) (hn : Own w' w.heap.size h' e' t' v' ys) : Dj v v' :=
  fun k a b => by have h1 := (ho.lt k a).2; have h2 := (hn.lt k b).1; omega
theorem Dj.app {α : Type} {t : Ty α} {h : SH} {w : World} {B : Nat} {e : TypeId} {v u u' : Value} {xs : List α} (hd : Dj v u) (ho : Own w B h e t v xs) (hloc : ∀ k, u'.ownBlock = some k → u.ownBlock = some k ∨ w.heap.size ≤ k) : Dj v u' :=
  fun k a b => by
    rcases hloc k b with h' | h'
    · exact hd k a h'
    · have h1 := (ho.lt k a).2; omega
theorem Dj.nil {v : Value} : Dj v (.slice none 0 0) := fun k _ b => by simp [Value.ownBlock] at b
theorem Fr.cast {N : Nat} {L L' : List (Nat × Value)} {a : Act} (hf : Fr N L a) (e : L = L') : Fr N L' a := e ▸ hf

end Dm
