/-
  What the proof of ImageParts leans on, part 0: rules for the walks, plain facts. Conditions stand in each statement.
-/
import Derived.Test.YtdfjbnonibcmeaaProg
import GoSem.Core.View
import GoSem.Op.IntArith
import Derived.WalkKit
import Derived.Deep.Quiet
import Derived.Laws.AppendOwnNone
import Derived.KernelRfl
import Derived.Laws.StructEq
import Derived.Laws.Tables
import Derived.Deep.MidRow
import Derived.Lib.AppendStr
import Derived.Lib.AppendZerosOnto
import Derived.MapKept
import Derived.StillTail
import Derived.Lib.Strings
import Derived.Lib.Slices
import Derived.Lib.Walk
import Derived.Lib.Bytealg
import Derived.ProofKit
import Derived.OpenShut
import Derived.Carry
import Derived.SizedLaws
import Derived.ChangeMaps5
namespace Dm
open Go
def shl (k : IntKind) (a y : Int) : Int := k.wrap (a * 2 ^ (min y.toNat k.bits))
def shr (k : IntKind) (a y : Int) : Int := a.fdiv (2 ^ (min y.toNat k.bits))
def band (k : IntKind) (a b : Int) : Int := k.wrap (BitVec.ofInt k.bits a &&& BitVec.ofInt k.bits b).toNat
def bor (k : IntKind) (a b : Int) : Int := k.wrap (BitVec.ofInt k.bits a ||| BitVec.ofInt k.bits b).toNat
def bxor (k : IntKind) (a b : Int) : Int := k.wrap (BitVec.ofInt k.bits a ^^^ BitVec.ofInt k.bits b).toNat
def bandn (k : IntKind) (a b : Int) : Int := k.wrap (BitVec.ofInt k.bits a &&& ~~~(BitVec.ofInt k.bits b)).toNat
def bnot (k : IntKind) (a : Int) : Int := bxor k (if k.signed then -1 else k.max) a
def loopK {σ ρ : Type} (body : σ -> (σ -> Option ρ) -> Option ρ) : Nat -> σ -> Option ρ
 | 0, _ => none
 | n + 1, s => body s (loopK body n)
def jn {σ ρ : Type} (k : σ -> Option ρ) (b : (σ -> Option ρ) -> Option ρ) : Option ρ := b k
def let1 {α ρ : Type} (e : α) (f : α -> Option ρ) : Option ρ := f e
def gd {ρ : Type} (c : Prop) [Decidable c] (k : Option ρ) : Option ρ := if c then k else none
def gt {α : Type} [Inhabited α] (xs : List α) (n : Int) : α := xs.getD n.toNat default
def cutL {α : Type} (xs : List α) (lo hi : Int) : List α := (xs.take hi.toNat).drop lo.toNat
def toStr (xs : List Int) : List UInt8 := xs.map fun n => UInt8.ofNat n.toNat
def ofStr (l : List UInt8) : List Int := l.map fun b => (b.toNat : Int)
def imax (a b : Int) : Int := if b > a then b else a
def imin (a b : Int) : Int := if b < a then b else a
def hasB (s : List UInt8) (c : UInt8) : Bool := s.any (· == c)
def mpGet {κ β : Type} [BEq κ] : List (κ × β) -> κ -> Option β
 | [], _ => none
 | p :: l, k => if k == p.1 then some p.2 else mpGet l k
def mpPut {κ β : Type} [BEq κ] : List (κ × β) -> κ -> β -> List (κ × β)
 | [], k, v => [(k, v)]
 | p :: l, k, v => if k == p.1 then (k, v) :: l else p :: mpPut l k v
def bigF : Nat := 2 ^ 64
end Dm

namespace Dm
open Go Go.RowKit
def asc {β : Type} : List (Nat × β) -> Nat -> Option β
 | [], _ => none
 | p :: L, t => match Nat.beq p.1 t with
  | true => some p.2
  | false => asc L t
def er (d : Nat) : List (Nat × Value) -> List (Nat × Value)
 | [] => []
 | p :: L => match Nat.beq p.1 d with
  | true => er d L
  | false => p :: er d L
def Fr (N : Nat) : List (Nat × Value) -> Act -> Prop
 | [], a => a.tmps.size = N /\ a.defers = []
 | p :: L, a => a.tmps.getD p.1 undef = p.2 /\ Fr N L a
theorem Fr.base {N : Nat} : ∀ {L : List (Nat × Value)} {a : Act}, Fr N L a -> a.tmps.size = N /\ a.defers = []
 | [], _, h => h
 | _ :: _, _, h => Fr.base h.2
theorem Fr.look {N : Nat} : ∀ {L : List (Nat × Value)} {a : Act} {t : Nat} {v : Value}, Fr N L a -> asc L t = some v -> a.tmps.getD t undef = v
 | [], _, _, _, _, h => by simp [asc] at h
 | p :: L, a, t, v, hf, h => by
  simp only [asc] at h
  split at h
  · rename_i hb
    have e : p.1 = t := Nat.eq_of_beq_eq_true hb
    have e2 : p.2 = v := by simpa using h
    rw [<- e, <- e2]; exact hf.1
  · exact Fr.look hf.2 h
def keepL (L : List (Nat × Value)) : List Nat -> Option (List (Nat × Value))
 | [] => some []
 | t :: ts => match asc L t with
  | none => none
  | some v => match keepL L ts with
   | none => none
   | some r => some ((t, v) :: r)
theorem Fr.keep {N : Nat} {L : List (Nat × Value)} {a : Act} (hf : Fr N L a) : ∀ {ks : List Nat} {L' : List (Nat × Value)}, keepL L ks = some L' -> Fr N L' a
 | [], L', h => by simp only [keepL, Option.some.injEq] at h; rw [<- h]; exact hf.base
 | t :: ts, L', h => by
  simp only [keepL] at h
  split at h
  · simp at h
  · rename_i v hv
    split at h
    · simp at h
    · rename_i r hr
      simp only [Option.some.injEq] at h
      rw [<- h]
      exact ⟨hf.look hv, Fr.keep hf hr⟩
theorem getD_put_same (xs : Array Value) (d : Nat) (v u : Value) (h : d < xs.size) : (xs.setIfInBounds d v).getD d u = v := by
 simp [Array.getD_eq_getD_getElem?, h]
theorem getD_put_ne (xs : Array Value) (d i : Nat) (v u : Value) (h : i ≠ d) : (xs.setIfInBounds d v).getD i u = xs.getD i u := by
 simp [Array.getD_eq_getD_getElem?, Ne.symm h]
theorem Fr.er_put {N : Nat} {d : Nat} {v : Value} : ∀ {L : List (Nat × Value)} {a : Act}, Fr N L a -> Fr N (er d L) (a.put (some d) v)
 | [], a, h => ⟨by simp only [Act.put, Array.size_setIfInBounds]; exact h.1, h.2⟩
 | p :: L, a, h => by
  simp only [er]
  split
  · exact Fr.er_put h.2
  · rename_i hb
    refine ⟨?_, Fr.er_put h.2⟩
    have hne : p.1 ≠ d := fun e => by rw [e] at hb; simp at hb
    simp only [Act.put]
    rw [getD_put_ne _ _ _ _ _ hne]; exact h.1
theorem Fr.put {N d : Nat} {L : List (Nat × Value)} {a : Act} (h : Fr N L a) (hd : Nat.blt d N = true) (v : Value) : Fr N ((d, v) :: er d L) (a.put (some d) v) := by
 have hd' : d < N := Nat.le_of_ble_eq_true hd
 exact ⟨by simp only [Act.put]; exact getD_put_same _ _ _ _ (by rw [h.base.1]; exact hd'), h.er_put⟩
structure Tb where
 und : List (Nat × TypeDesc)
 info : List (Nat × (Value × Nat × Nat))
 ag : List Nat := []
structure TbOk (P : Program) (tb : Tb) : Prop where
 und : ∀ p ∈ tb.und, P.underlying p.1 = some p.2
 info : ∀ p ∈ tb.info, (P.info? p.1).map (fun i => (i.zero, i.size, i.bytes)) = some (some p.2.1, p.2.2.1, p.2.2.2)
 ag : ∀ t ∈ tb.ag, P.stoodInHeld t = false /\ P.eqGuardType P.depth t = false
theorem asc_mem {β : Type} : ∀ {L : List (Nat × β)} {t : Nat} {v : β}, asc L t = some v -> (t, v) ∈ L
 | [], _, _, h => by simp [asc] at h
 | p :: L, t, v, h => by
  simp only [asc] at h
  split at h
  · rename_i hb
    have e : p.1 = t := Nat.eq_of_beq_eq_true hb
    have e2 : p.2 = v := by simpa using h
    rw [<- e, <- e2]; simp
  · exact List.mem_cons_of_mem _ (asc_mem h)
theorem TbOk.u {P : Program} {tb : Tb} (h : TbOk P tb) {t : Nat} {d : TypeDesc} (e : asc tb.und t = some d) : P.underlying t = some d := h.und _ (asc_mem e)
theorem TbOk.i {P : Program} {tb : Tb} (h : TbOk P tb) {t : Nat} {z : Value} {s b : Nat} (e : asc tb.info t = some (z, s, b)) :
    ∃ i, P.info? t = some i /\ i.zero = some z /\ i.size = s /\ i.bytes = b := info_parts (h.info _ (asc_mem e))
def evO (L : List (Nat × Value)) : Operand -> Option Value
 | .tmp t => asc L t
 | .const v => some v
 | .global g => some (.pointer (some ⟨g, 0, none⟩))
 | .func f => some (.func (.func f) #[] #[])
theorem evO_ok {N : Nat} {L : List (Nat × Value)} {a : Act} (hf : Fr N L a) {o : Operand} {v : Value} (h : evO L o = some v) : a.eval o = v := by
 cases o <;> simp only [evO, Option.some.injEq] at h <;> simp only [Act.eval]
 · exact hf.look h
 · exact h
 · exact h
 · exact h
def evL (L : List (Nat × Value)) : List Operand -> Option (List Value)
 | [] => some []
 | o :: os => match evO L o with
  | none => none
  | some v => match evL L os with
   | none => none
   | some r => some (v :: r)
theorem evL_ok {N : Nat} {L : List (Nat × Value)} {a : Act} (hf : Fr N L a) : ∀ {os : List Operand} {vs : List Value}, evL L os = some vs -> os.map a.eval = vs
 | [], vs, h => by simp only [evL, Option.some.injEq] at h; simp [<- h]
 | o :: os, vs, h => by
  simp only [evL] at h
  split at h
  · simp at h
  · rename_i v hv
    split at h
    · simp at h
    · rename_i r hr
      simp only [Option.some.injEq] at h
      rw [List.map_cons, evO_ok hf hv, evL_ok hf hr, h]
def intBin (op : BinOp) (k : IntKind) (a : Int) (k' : IntKind) (b : Int) : Option Value :=
 match op with
 | .shl => if b < 0 then none else some (.int k (shl k a b))
 | .shr => if b < 0 then none else some (.int k (shr k a b))
 | op => if k ≠ k' then none else match op with
  | .add => some (.int k (k.wrap (a + b)))
  | .sub => some (.int k (k.wrap (a - b)))
  | .mul => some (.int k (k.wrap (a * b)))
  | .quo => if b = 0 then none else some (.int k (k.wrap (a.tdiv b)))
  | .rem => if b = 0 then none else some (.int k (a.tmod b))
  | .and => some (.int k (band k a b))
  | .or => some (.int k (bor k a b))
  | .xor => some (.int k (bxor k a b))
  | .andNot => some (.int k (bandn k a b))
  | .eql => some (.bool (a == b))
  | .neq => some (.bool (a != b))
  | .lss => some (.bool (decide (a < b)))
  | .leq => some (.bool (decide (a <= b)))
  | .gtr => some (.bool (decide (a > b)))
  | .geq => some (.bool (decide (a >= b)))
  | _ => none
def strV (l : List UInt8) : Value := .string ⟨l.toArray⟩
def bstr (b : ByteArray) : List UInt8 := b.data.toList
def strBin (op : BinOp) (s t : ByteArray) : Option Value :=
 match op with
 | .eql => some (.bool (bstr s == bstr t))
 | .neq => some (.bool (!(bstr s == bstr t)))
 | .lss => some (.bool (Op.bytesLess (bstr s) (bstr t)))
 | _ => none
def pk (b : Bool) (x y : Option Value) : Option Value :=
 match x with
 | some (.bool p) => (match y with
  | some (.bool q) => some (.bool (cond b p q))
  | _ => match b with
   | true => x
   | false => y)
 | _ => match b with
  | true => x
  | false => y
def isIntT (tb : Tb) (t : Nat) : Option IntKind :=
 match asc tb.und t with
 | some (.int k) => some k
 | _ => none
def lenOf (tb : Tb) (t : Nat) (v : Value) : Option Value :=
 match asc tb.und t with
 | some .string => (match v with
  | .string s => some (.int .i64 ((bstr s).length : Int))
  | _ => none)
 | some (.slice _) => (match v with
  | .slice _ n _ => some (.int .i64 (n : Int))
  | _ => none)
 | _ => none
def plc (tb : Tb) : List Field -> Option (List (Nat × Nat))
 | [] => some []
 | f :: fs => match asc tb.info f.type with
  | some i => (match plc tb fs with
   | some r => some ((f.offset, i.2.1) :: r)
   | none => none)
  | none => none
def builtT (tb : Tb) (t : Nat) (parts : List (Nat × Value)) : Option (Array Value) :=
 match asc tb.info t with
 | some i => (match asc tb.und t with
  | some (.array _ e) => (match asc tb.info e with
   | some j => Instr.fill (fun i => some (i * j.2.1, j.2.1)) i.1.cells parts
   | none => none)
  | some (.struct fields) => (match plc tb fields.toList with
   | some pl => Instr.fill (pl.toArray[·]?) i.1.cells parts
   | none => none)
  | _ => none)
 | none => none
def evP (L : List (Nat × Value)) : List (Nat × Operand) -> Option (List (Nat × Value))
 | [] => some []
 | p :: ps => match evO L p.2 with
  | some v => (match evP L ps with
   | some r => some ((p.1, v) :: r)
   | none => none)
  | none => none
def isAg : TypeDesc -> Bool
 | .struct _ => true
 | .array _ _ => true
 | _ => false
def partT (tb : Tb) (t : Nat) (cs : Array Value) (off : Nat) : Option Value :=
 match asc tb.und t with
 | some d => (match isAg d with
  | true => (match asc tb.info t with
   | some i => some (.agg (cs.extract off (off + i.2.1)))
   | none => none)
  | false => cs.toList[off]?)
 | none => none
def memN (t : Nat) : List Nat -> Bool
 | [] => false
 | x :: xs => match Nat.beq x t with
  | true => true
  | false => memN t xs
def eqFs (tb : Tb) (eqv : Nat -> Value -> Value -> Option Bool) (xs ys : Array Value) : List Field -> Option Bool
 | [] => some true
 | f :: fs => match f.name == "_" with
  | true => none
  | false => (match partT tb f.type xs f.offset with
   | some a => (match partT tb f.type ys f.offset with
    | some b => (match eqv f.type a b with
     | some r => (match fs with
      | [] => some r
      | _ => (match eqFs tb eqv xs ys fs with
       | some q => some (r && q)
       | none => none))
     | none => none)
    | none => none)
   | none => none)
def eqVs (tb : Tb) : Nat -> Nat -> Value -> Value -> Option Bool
 | 0, _, _, _ => none
 | d + 1, t, x, y => match asc tb.und t with
  | some (.int _) => (match x with
   | .int k a => (match y with
    | .int k' b => if k = k' then some (a == b) else none
    | _ => none)
   | _ => none)
  | some .bool => (match x with
   | .bool a => (match y with
    | .bool b => some (a == b)
    | _ => none)
   | _ => none)
  | some .string => (match x with
   | .string a => (match y with
    | .string b => some (bstr a == bstr b)
    | _ => none)
   | _ => none)
  | some (.struct fields) => (match x with
   | .agg xs => (match y with
    | .agg ys => (match memN t tb.ag with
     | true => eqFs tb (eqVs tb d) xs ys fields.toList
     | false => none)
    | _ => none)
   | _ => none)
  | _ => none
def int2 (x y : Option Value) (f : Int -> Int -> Int) : Option Value :=
 match x with
 | some (.int k a) => (match y with
  | some (.int _ b) => some (.int k (f a b))
  | _ => none)
 | _ => none
theorem int2_ok {x y : Option Value} {f : Int -> Int -> Int} {v : Value} (h : int2 x y f = some v) : ∃ k k' a b, x = some (.int k a) /\ y = some (.int k' b) /\ v = .int k (f a b) := by
 unfold int2 at h
 split at h
 · split at h
   · simp only [Option.some.injEq] at h; exact ⟨_, _, _, _, rfl, rfl, h.symm⟩
   · simp at h
 · simp at h
def pureOp (tb : Tb) (L : List (Nat × Value)) : Op -> Option Value
 | .build t parts => (match evP L parts.toList with
  | some ps => (match builtT tb t ps with
   | some cs => some (.agg cs)
   | none => none)
  | none => none)
 | .field t x f => (match evO L x with
  | some (.agg cs) => (match asc tb.und t with
   | some (.struct fields) => (match fields.toList[f]? with
    | some fl => partT tb fl.type cs fl.offset
    | none => none)
   | _ => none)
  | _ => none)
 | .fieldAddr t x f => (match evO L x with
  | some (.pointer (some ⟨b, o, none⟩)) => (match asc tb.und t with
   | some (.struct fields) => (match fields.toList[f]? with
    | some fl => (match asc tb.info fl.type with
     | some i => (match Nat.beq i.2.1 0 with
      | true => none
      | false => some (.pointer (some ⟨b, o + fl.offset, none⟩)))
     | none => none)
    | none => none)
   | _ => none)
  | _ => none)
 | .move x => evO L x
 | .assign x => evO L x
 | .pick c x y => (match evO L c with
  | some (.bool b) => pk b (evO L x) (evO L y)
  | _ => none)
 | .unOp op _ x => (match evO L x with
  | some (.bool b) => (match op with
   | .not => some (.bool (!b))
   | _ => none)
  | some (.int k n) => (match op with
   | .neg => some (.int k (k.wrap (0 - n)))
   | .xor => some (.int k (bnot k n))
   | _ => none)
  | _ => none)
 | .binOp op t x y _ => (match evO L x with
  | some (.int k a) => (match evO L y with
   | some (.int k' b) => intBin op k a k' b
   | _ => none)
  | some (.string s) => (match evO L y with
   | some (.string s') => strBin op s s'
   | _ => none)
  | some (.agg xs) => (match evO L y with
   | some (.agg ys) => (match memN t tb.ag with
    | true => (match eqVs tb 10 t (.agg xs) (.agg ys) with
     | some r => (match op with
      | .eql => some (.bool r)
      | .neq => some (.bool (!r))
      | _ => none)
     | none => none)
    | false => none)
   | _ => none)
  | some (.bool p) => (match evO L y with
   | some (.bool q) => (match asc tb.und t with
    | some .bool => (match op with
     | .eql => some (.bool (p == q))
     | .neq => some (.bool (!(p == q)))
     | _ => none)
    | _ => none)
   | _ => none)
  | _ => none)
 | .convert src dst x => (match evO L x with
  | some (.int _ n) => (match asc tb.und src with
   | some _ => (match asc tb.und dst with
    | some (.int k) => some (.int k (k.wrap n))
    | _ => none)
   | none => none)
  | some (.string s) => (match asc tb.und src with
   | some .string => (match asc tb.und dst with
    | some .string => some (.string s)
    | _ => none)
   | _ => none)
  | _ => none)
 | .extract x i => (match evO L x with
  | some (.tuple vs) => vs.toList[i]?
  | _ => none)
 | .makeFunc fn fst cap => (match evL L fst.toList with
  | some fs => (match evL L cap.toList with
   | some cs => some (.func fn fs.toArray cs.toArray)
   | none => none)
  | none => none)
 | .call c => (match c.callee with
  | .builtin .len => (match c.args.toList with
   | [x] => (match c.argTypes.toList with
    | [t] => (match evO L x with
     | some v => lenOf tb t v
     | none => none)
    | _ => none)
   | _ => none)
  | .builtin .max => (match c.args.toList with
   | [x, y] => int2 (evO L x) (evO L y) imax
   | _ => none)
  | .builtin .min => (match c.args.toList with
   | [x, y] => int2 (evO L x) (evO L y) imin
   | _ => none)
  | _ => none)
 | _ => none
section pure
variable {P : Program} {tb : Tb}
theorem run_intBin {op : BinOp} {k k' : IntKind} {a b : Int} {v : Value} (h : intBin op k a k' b = some v) (t : TypeId) (w : World) :
    (binOp op t (.int k a) (.int k' b)).run P w = .ok v w := by
 by_cases hk : k = k'
 · subst hk
   cases op <;> simp only [intBin, ne_eq, not_true_eq_false, if_false, Option.some.injEq] at h <;>
    simp only [binOp, Op.shift, Op.intArith, Op.intDiv, Op.intBits, Op.intCmp, ne_eq, not_true_eq_false, if_false]
   all_goals first
    | (subst h; rfl)
    | (split at h
       · simp at h
       · rename_i hb
         simp only [Option.some.injEq] at h; subst h; simp only [hb, if_false]; rfl)
 · cases op <;> simp only [intBin, ne_eq, hk, not_false_eq_true, if_true, reduceCtorEq] at h
   all_goals
    split at h
    · simp at h
    · rename_i hb
      simp only [Option.some.injEq] at h; subst h; simp only [binOp, Op.shift, hb, if_false]; rfl
theorem bstr_toList (b : ByteArray) : b.toList = bstr b := by
 exact Go.ByteArray.toList_eq b
theorem run_strBin {op : BinOp} {s s' : ByteArray} {v : Value} (h : strBin op s s' = some v) (t : TypeId) (w : World) :
    (binOp op t (.string s) (.string s')).run P w = .ok v w := by
 unfold strBin at h
 cases op <;> simp only [reduceCtorEq, Option.some.injEq] at h <;> subst h <;> simp only [binOp, Op.stringOp, bstr_toList] <;> rfl
theorem eqGuard_int (op : BinOp) (t : TypeId) (x y : Operand) (k k' : IntKind) (a b : Int) (w : World) : (eqGuard op t x y (.int k a) (.int k' b)).run P w = .ok () w := by
 unfold eqGuard; cases op <;> rfl
theorem eqGuard_str (op : BinOp) (t : TypeId) (x y : Operand) (a b : ByteArray) (w : World) : (eqGuard op t x y (.string a) (.string b)).run P w = .ok () w := by
 unfold eqGuard; cases op <;> rfl
theorem eqGuard_bool (op : BinOp) (t : TypeId) (x y : Operand) (a b : Bool) (w : World) : (eqGuard op t x y (.bool a) (.bool b)).run P w = .ok () w := by
 unfold eqGuard; cases op <;> rfl
theorem pk_ok {b : Bool} {x y : Option Value} {v : Value} (h : pk b x y = some v) : (if b then x else y) = some v := by
 unfold pk at h
 cases b <;> (repeat' split at h) <;> simp_all
theorem asc_und {t : Nat} {d : TypeDesc} (htb : TbOk P tb) (h : asc tb.und t = some d) (w : World) : (underlying t).run P w = .ok d w := run_underlying (htb.u h) w
theorem run_conv_int (htb : TbOk P tb) {s d : Nat} {sd : TypeDesc} {k k' : IntKind} {n : Int} (hs : asc tb.und s = some sd) (hd : asc tb.und d = some (.int k)) (w : World) :
    (convert s d (.int k' n)).run P w = .ok (.int k (k.wrap n)) w := by
 unfold convert
 simp only [Sem.run_bind, asc_und htb hs, asc_und htb hd, Result.andThen]
 rfl
theorem run_conv_str (htb : TbOk P tb) {s d : Nat} {b : ByteArray} (hs : asc tb.und s = some .string) (hd : asc tb.und d = some .string) (w : World) :
    (convert s d (.string b)).run P w = .ok (.string b) w := by
 unfold convert
 simp only [Sem.run_bind, asc_und htb hs, asc_und htb hd, Result.andThen]
 rfl
theorem run_len (htb : TbOk P tb) {t ty : Nat} {x v : Value} (h : lenOf tb t x = some v) (w : World) : (Builtin.len_ #[t] ty #[x]).run P w = .ok v w := by
 unfold lenOf at h
 unfold Builtin.len_
 split at h
 · rename_i hu
   split at h
   · simp only [Option.some.injEq] at h; subst h
     simp only [List.getElem?_toArray, List.getElem?_cons_zero, Sem.run_bind, asc_und htb hu, Result.andThen]
     rfl
   · simp at h
 · rename_i hu
   split at h
   · simp only [Option.some.injEq] at h; subst h
     simp only [List.getElem?_toArray, List.getElem?_cons_zero, Sem.run_bind, asc_und htb hu, Result.andThen]
     rfl
   · simp at h
 · simp at h
theorem run_bool_eq (htb : TbOk P tb) {t : Nat} (hu : asc tb.und t = some .bool) (p q : Bool) (w : World) : (Op.equal t (.bool p) (.bool q)).run P w = .ok (p == q) w := by
 unfold Op.equal Op.maxDepth Op.equalIn
 simp only [Sem.run_bind, asc_und htb hu, Result.andThen]
 rfl
theorem cellsOf_of' {e s : Nat} {inf : TypeInfo} (hinf : P.info? e = some inf) (hs : inf.size = s) : P.cellsOf e = s := by
 unfold Program.cellsOf; rw [hinf]; exact hs
theorem plc_ok (htb : TbOk P tb) : ∀ {fs : List Field} {r : List (Nat × Nat)}, plc tb fs = some r -> fs.mapM (fun f => (P.info? f.type).map fun i => (f.offset, i.size)) = some r
 | [], r, h => by simp only [plc, Option.some.injEq] at h; subst h; rfl
 | f :: fs, r, h => by
  simp only [plc] at h
  split at h
  · rename_i i hi
    split at h
    · rename_i q hq
      simp only [Option.some.injEq] at h; subst h
      obtain ⟨z, s, b⟩ := i
      obtain ⟨i, h1, _, h3, _⟩ := htb.i hi
      simp only [List.mapM_cons, h1, Option.map_some, h3, plc_ok htb hq]; rfl
    · simp at h
  · simp at h
theorem builtT_ok (htb : TbOk P tb) {t : Nat} {parts : List (Nat × Value)} {cs : Array Value} (h : builtT tb t parts = some cs) : P.built t parts = some cs := by
 unfold builtT at h
 split at h
 · rename_i i hi
   obtain ⟨z, s, b⟩ := i
   obtain ⟨i, h1, h2, h3, _⟩ := htb.i hi
   split at h
   · rename_i n e hu
     split at h
     · rename_i j hj
       obtain ⟨z', s', b'⟩ := j
       obtain ⟨j, g1, _, g3, _⟩ := htb.i hj
       unfold Program.built
       simp only [h1, htb.u hu, h2, g1, g3]; exact h
     · simp at h
   · rename_i fields hu
     split at h
     · rename_i pl hpl
       unfold Program.built
       simp only [h1, htb.u hu, h2, plc_ok htb hpl]; exact h
     · simp at h
   · simp at h
 · simp at h
theorem evP_ok {N : Nat} {L : List (Nat × Value)} {a : Act} (hf : Fr N L a) : ∀ {ps : List (Nat × Operand)} {vs : List (Nat × Value)}, evP L ps = some vs -> ps.map (fun p => (p.1, a.eval p.2)) = vs
 | [], vs, h => by simp only [evP, Option.some.injEq] at h; subst h; rfl
 | p :: ps, vs, h => by
  simp only [evP] at h
  split at h
  · rename_i v hv
    split at h
    · rename_i r hr
      simp only [Option.some.injEq] at h; subst h
      rw [List.map_cons, evO_ok hf hv, evP_ok hf hr]
    · simp at h
  · simp at h
theorem run_isAgT (htb : TbOk P tb) {t : Nat} {d : TypeDesc} (h : asc tb.und t = some d) (w : World) : (isAgg t).run P w = .ok (isAg d) w := by
 unfold isAgg
 simp only [Sem.run_bind, asc_und htb h, Result.andThen]
 cases d <;> rfl
theorem partT_ok (htb : TbOk P tb) {t : Nat} {cs : Array Value} {off : Nat} {v : Value} (h : partT tb t cs off = some v) (w : World) : (part t cs off).run P w = .ok v w := by
 unfold partT at h
 unfold part
 split at h
 · rename_i d hd
   split at h
   · rename_i ha
     split at h
     · rename_i i hi
       simp only [Option.some.injEq] at h; subst h
       obtain ⟨z, s, b⟩ := i
       obtain ⟨i, h1, _, h3, _⟩ := htb.i hi
       simp only [Sem.run_bind, run_isAgT htb hd, ha, Result.andThen, if_true, run_sizeOf w h1, cellsOf_of' h1 h3]; rfl
     · simp at h
   · rename_i ha
     have h2 : cs[off]? = some v := by simpa using h
     simp only [Sem.run_bind, run_isAgT htb hd, ha, Result.andThen, Bool.false_eq_true, if_false, h2]; rfl
 · simp at h
theorem memN_ok : ∀ {l : List Nat} {t : Nat}, memN t l = true -> t ∈ l
 | [], _, h => by simp [memN] at h
 | x :: xs, t, h => by
  simp only [memN] at h
  split at h
  · rename_i hb; rw [Nat.eq_of_beq_eq_true hb]; simp
  · exact List.mem_cons_of_mem _ (memN_ok h)
theorem eqFs_ok (htb : TbOk P tb) {eqv : Nat -> Value -> Value -> Option Bool} {d : Nat} (hv : ∀ {t x y r} (_ : eqv t x y = some r) (w : World), (Op.equalIn d t x y).run P w = .ok r w) {xs ys : Array Value} :
    ∀ {fs : List Field} {r : Bool}, eqFs tb eqv xs ys fs = some r -> ∀ w, (Op.eqFields d xs ys fs).run P w = .ok r w
 | [], r, h, w => by simp only [eqFs, Option.some.injEq] at h; subst h; rfl
 | f :: fs, r, h, w => by
  simp only [eqFs] at h
  split at h
  · simp at h
  · rename_i hn
    have hn' : f.name ≠ "_" := by simpa using hn
    split at h
    · rename_i va ha
      split at h
      · rename_i vb hb
        split at h
        · rename_i q hq
          simp only [Op.eqFields, if_pos hn', Sem.run_bind, partT_ok htb ha, partT_ok htb hb, hv hq, Result.andThen]
          split at h
          · simp only [Option.some.injEq] at h; subst h
            cases q <;> rfl
          · split at h
            · rename_i q2 hq2
              simp only [Option.some.injEq] at h; subst h
              cases q
              · rfl
              · simp only [Bool.not_true, Bool.false_eq_true, if_false, Bool.true_and]
                exact eqFs_ok htb hv hq2 w
            · simp at h
        · simp at h
      · simp at h
    · simp at h
theorem eqVs_ok (htb : TbOk P tb) : ∀ (d m : Nat) {t : Nat} {x y : Value} {r : Bool}, eqVs tb d t x y = some r -> ∀ w, (Op.equalIn (d + m) t x y).run P w = .ok r w
 | 0, _, _, _, _, _, h, _ => by simp [eqVs] at h
 | d + 1, m, t, x, y, r, h, w => by
  have ed : d + 1 + m = (d + m) + 1 := by omega
  rw [ed]
  simp only [eqVs] at h
  split at h
  · rename_i k0 hu
    split at h
    · split at h
      · split at h
        · rename_i hk
          subst hk
          simp only [Option.some.injEq] at h; subst h
          exact run_equalIn_int w _ _ _ _ _ _ (htb.u hu)
        · simp at h
      · simp at h
    · simp at h
  · rename_i hu
    split at h
    · split at h
      · simp only [Option.some.injEq] at h; subst h
        exact run_equalIn_bool' w _ _ _ _ (htb.u hu)
      · simp at h
    · simp at h
  · rename_i hu
    split at h
    · split at h
      · simp only [Option.some.injEq] at h; subst h
        rw [run_equalIn_string w _ _ _ _ (htb.u hu), bstr_toList, bstr_toList]
      · simp at h
    · simp at h
  · rename_i fields hu
    split at h
    · split at h
      · split at h
        · rename_i hm
          have e : P.fieldsOf t = fields := by unfold Program.fieldsOf; rw [htb.u hu]
          rw [run_equalIn_struct w _ _ _ _ (by rw [e]; exact htb.u hu) (htb.ag t (memN_ok hm)).1, e]
          exact eqFs_ok htb (fun hq w => eqVs_ok htb d m hq w) h w
        · simp at h
      · simp at h
    · simp at h
  · simp at h
theorem pureOp_ok (htb : TbOk P tb) {N : Nat} {L : List (Nat × Value)} {a : Act} (hf : Fr N L a) (o : Oper) {v : Value} (h : pureOp tb L o.op = some v) (w : World) :
    (execOp a.eval o).run P w = .ok (.value v) w := by
 cases o with
 | mk dst op type pos after guard =>
 cases op <;> simp only [pureOp, reduceCtorEq] at h
 case move x => simp only [execOp, evO_ok hf h]; rfl
 case assign x => simp only [execOp, evO_ok hf h]; rfl
 case pick c x y =>
  split at h
  · rename_i b hc
    have h2 := pk_ok h
    simp only [execOp, evO_ok hf hc]
    cases b
    · simp only [Bool.false_eq_true, if_false] at h2; rw [evO_ok hf h2]; rfl
    · simp only [if_true] at h2; rw [evO_ok hf h2]; rfl
  · simp at h
 case unOp op ty x =>
  split at h
  · rename_i b hx
    split at h
    · simp only [Option.some.injEq] at h; subst h; simp only [execOp, evO_ok hf hx]; rfl
    · simp at h
  · rename_i k n hx
    split at h
    · simp only [Option.some.injEq] at h; subst h; simp only [execOp, evO_ok hf hx]; rfl
    · simp only [Option.some.injEq] at h; subst h; simp only [execOp, evO_ok hf hx]; rfl
    · simp at h
  · simp at h
 case binOp op t x y t' =>
  split at h
  · rename_i k n hx
    split at h
    · rename_i k' m hy
      simp only [execOp, evO_ok hf hx, evO_ok hf hy, Sem.run_bind, eqGuard_int, Result.andThen, run_intBin h]; rfl
    · simp at h
  · rename_i s hx
    split at h
    · rename_i s' hy
      simp only [execOp, evO_ok hf hx, evO_ok hf hy, Sem.run_bind, eqGuard_str, Result.andThen, run_strBin h]; rfl
    · simp at h
  · rename_i xs hx
    split at h
    · rename_i ys hy
      split at h
      · rename_i hm
        split at h
        · rename_i q hq
          have hg := (htb.ag t (memN_ok hm)).2
          have he : (Op.equal t (.agg xs) (.agg ys)).run P w = .ok q w := eqVs_ok htb 10 9990 hq w
          split at h
          · simp only [Option.some.injEq] at h; subst h
            simp only [execOp, evO_ok hf hx, evO_ok hf hy, Sem.run_bind, run_eqGuard_agg w _ _ _ _ _ _ hg, Result.andThen, binOp, he]; rfl
          · simp only [Option.some.injEq] at h; subst h
            simp only [execOp, evO_ok hf hx, evO_ok hf hy, Sem.run_bind, run_eqGuard_agg w _ _ _ _ _ _ hg, Result.andThen, binOp, he]; rfl
          · simp at h
        · simp at h
      · simp at h
    · simp at h
  · rename_i p hx
    split at h
    · rename_i q hy
      split at h
      · rename_i hu
        split at h
        · simp only [Option.some.injEq] at h; subst h
          simp only [execOp, evO_ok hf hx, evO_ok hf hy, Sem.run_bind, eqGuard_bool, Result.andThen, binOp, run_bool_eq htb hu]; rfl
        · simp only [Option.some.injEq] at h; subst h
          simp only [execOp, evO_ok hf hx, evO_ok hf hy, Sem.run_bind, eqGuard_bool, Result.andThen, binOp, run_bool_eq htb hu]; rfl
        · simp at h
      · simp at h
    · simp at h
  · simp at h
 case build t parts =>
  split at h
  · rename_i ps hps
    split at h
    · rename_i cs hcs
      simp only [Option.some.injEq] at h; subst h
      have e : (parts.map fun x => (x.1, a.eval x.2)).toList = ps := by rw [Array.toList_map]; exact evP_ok hf hps
      have e2 := run_build (P := P) w t (parts.map fun x => (x.1, a.eval x.2)) cs (by rw [e]; exact builtT_ok htb hcs)
      simp only [execOp, Sem.run_bind, e2, Result.andThen]; rfl
    · simp at h
  · simp at h
 case field t x f =>
  split at h
  · rename_i cs hx
    split at h
    · rename_i fields hu
      split at h
      · rename_i fl hfl
        have hfl' : fields[f]? = some fl := by simpa using hfl
        simp only [execOp, evO_ok hf hx, Instr.field, Sem.run_bind, asc_und htb hu, Result.andThen, hfl', asAgg, Sem.run_pure, partT_ok htb h]
      · simp at h
    · simp at h
  · simp at h
 case fieldAddr t x f =>
  split at h
  · rename_i b o hx
    split at h
    · rename_i fields hu
      split at h
      · rename_i fl hfl
        split at h
        · rename_i i hi
          split at h
          · simp at h
          · rename_i hz
            simp only [Option.some.injEq] at h; subst h
            have hfl' : fields[f]? = some fl := by simpa using hfl
            obtain ⟨z, s, b⟩ := i
            obtain ⟨i, h1, _, h3, _⟩ := htb.i hi
            have hz2 : ¬ s = 0 := fun e => by subst e; simp at hz
            simp only [execOp, evO_ok hf hx, Instr.fieldAt, Sem.run_bind, asc_und htb hu, Result.andThen, hfl', Instr.sureAddr, Sem.run_pure, fieldPlace, run_sizeOf w h1, cellsOf_of' h1 h3, hz2, if_false, Addr.add_lit]
        · simp at h
      · simp at h
    · simp at h
  · simp at h
 case convert s d x =>
  split at h
  · rename_i k n hx
    split at h
    · rename_i sd hs
      split at h
      · rename_i k' hd
        simp only [Option.some.injEq] at h; subst h
        simp only [execOp, evO_ok hf hx, Sem.run_bind, run_conv_int htb hs hd, Result.andThen]; rfl
      · simp at h
    · simp at h
  · rename_i b hx
    split at h
    · rename_i hs
      split at h
      · rename_i hd
        simp only [Option.some.injEq] at h; subst h
        simp only [execOp, evO_ok hf hx, Sem.run_bind, run_conv_str htb hs hd, Result.andThen]; rfl
      · simp at h
    · simp at h
  · simp at h
 case extract x i =>
  split at h
  · rename_i vs hx
    simp only [execOp, evO_ok hf hx]
    have hv : vs[i]? = some v := by simpa using h
    simp only [Instr.extract, hv]; rfl
  · simp at h
 case makeFunc fn fst cap =>
  split at h
  · rename_i fs hfs
    split at h
    · rename_i cs hcs
      simp only [Option.some.injEq] at h; subst h
      have e1 : fst.map a.eval = fs.toArray := by rw [<- evL_ok hf hfs, <- List.map_toArray]
      have e2 : cap.map a.eval = cs.toArray := by rw [<- evL_ok hf hcs, <- List.map_toArray]
      simp only [execOp, Instr.makeFunc, e1, e2]; rfl
    · simp at h
  · simp at h
 case call c =>
  split at h
  · rename_i hc
    split at h
    · rename_i x hx
      split at h
      · rename_i t ht
        split at h
        · rename_i u hu
          have e1 : c.args = #[x] := by rw [<- hx]
          have e2 : c.argTypes = #[t] := by rw [<- ht]
          simp only [execOp, resolve, hc, e1, e2, List.map_toArray, List.map_cons, List.map_nil, evO_ok hf hu]
          simp only [Sem.run_bind, invoke, builtin, Sem.run_pure, Result.andThen, run_len htb h]
        · simp at h
      · simp at h
    · simp at h
  · rename_i hc
    split at h
    · rename_i x y hx
      obtain ⟨k, k', m, n, h1, h2, rfl⟩ := int2_ok h
      have e1 : c.args = #[x, y] := by rw [<- hx]
      simp only [execOp, resolve, hc, e1, List.map_toArray, List.map_cons, List.map_nil, evO_ok hf h1, evO_ok hf h2]
      simp only [Sem.run_bind, invoke, builtin, Sem.run_pure, Result.andThen]
      rfl
    · simp at h
  · rename_i hc
    split at h
    · rename_i x y hx
      obtain ⟨k, k', m, n, h1, h2, rfl⟩ := int2_ok h
      have e1 : c.args = #[x, y] := by rw [<- hx]
      simp only [execOp, resolve, hc, e1, List.map_toArray, List.map_cons, List.map_nil, evO_ok hf h1, evO_ok hf h2]
      simp only [Sem.run_bind, invoke, builtin, Sem.run_pure, Result.andThen]
      rfl
    · simp at h
  · simp at h
def grd (ops : Array Oper) (L : List (Nat × Value)) : Option (Nat × Bool) -> Option Bool
 | none => some true
 | some (j, want) => (match ops.toList[j]? with
  | some o => (match o.dst with
   | some d => (match asc L d with
    | some (.bool b) => some (b == want)
    | some (.tuple _) => some false
    | _ => none)
   | none => none)
  | none => none)
def runP (tb : Tb) (N : Nat) (ops : Array Oper) : Nat -> List Oper -> List (Nat × Value) -> Option (List (Nat × Value))
 | 0, _, L => some L
 | _ + 1, [], _ => none
 | n + 1, o :: l, L => (match grd ops L o.guard with
  | some false => (match o.dst with
   | some d => (match Nat.blt d N with
    | true => runP tb N ops n l ((d, undef) :: er d L)
    | false => none)
   | none => runP tb N ops n l L)
  | some true => (match o.dst with
   | some d => (match Nat.blt d N with
    | true => (match pureOp tb L o.op with
     | some v => runP tb N ops n l ((d, v) :: er d L)
     | none => none)
    | false => none)
   | none => none)
  | none => none)
def runK (tb : Tb) (N : Nat) (ops : Array Oper) (n : Nat) (l : List Oper) (L : List (Nat × Value)) (ks : List Nat) : Option (List (Nat × Value)) :=
 match runP tb N ops n l L with
 | some L' => keepL L' ks
 | none => none
theorem getD_some {xs : Array Value} {t : Nat} {v : Value} (h : xs.getD t undef = v) (hv : v ≠ undef) : xs[t]? = some v := by
 rw [Array.getD_eq_getD_getElem?] at h
 cases e : xs[t]? with
 | none => rw [e] at h; exact absurd h.symm hv
 | some u => rw [e] at h; simp at h; rw [h]
theorem grd_ok {N : Nat} {ops : Array Oper} {L : List (Nat × Value)} {a : Act} (hf : Fr N L a) {o : Oper} {b : Bool} (h : grd ops L o.guard = some b) :
    Region.wanted o (yielded ops a.tmps) = b := by
 unfold grd at h
 unfold Region.wanted
 split at h
 · rename_i hg; simp only [hg]; simpa using h
 · rename_i j want hg
   simp only [hg]
   split at h
   · rename_i o' ho
     split at h
     · rename_i d hd
       have ho' : ops[j]? = some o' := by simpa using ho
       unfold yielded
       simp only [ho', Option.bind_some, hd]
       split at h
       · rename_i c hc
         have e := getD_some (hf.look hc) (by simp [undef])
         simp only [e]
         simp only [Option.some.injEq] at h; rw [<- h]; cases c <;> cases want <;> rfl
       · rename_i vs hc
         have e := hf.look hc
         rw [Array.getD_eq_getD_getElem?] at e
         simp only [Option.some.injEq] at h; subst h
         cases e2 : a.tmps[d]? with
         | none => rfl
         | some u => rw [e2] at e; simp at e; subst e; rfl
       · simp at h
     · simp at h
   · simp at h
variable {ops : Array Oper} {Q : Exit -> Act -> World -> Prop} {N : Nat}
theorem Fr.put_none {L : List (Nat × Value)} {a : Act} (h : Fr N L a) (v : Value) : Fr N L (a.put none v) := h
theorem runP_ok (htb : TbOk P tb) {w : World} : ∀ (n : Nat) {l : List Oper} {L L' : List (Nat × Value)} {a : Act}, Fr N L a -> runP tb N ops n l L = some L' ->
    (∀ a', Fr N L' a' -> wpList P ops Q (l.drop n) a' w) -> wpList P ops Q l a w
 | 0, l, L, L', a, hf, h, k => by
  simp only [runP, Option.some.injEq] at h; subst h; exact k a hf
 | n + 1, [], L, L', a, hf, h, k => by simp [runP] at h
 | n + 1, o :: l, L, L', a, hf, h, k => by
  simp only [runP] at h
  split at h
  · rename_i hg
    have hw := grd_ok hf hg
    have hstep : ∀ {L2 : List (Nat × Value)}, Fr N L2 (a.put o.dst undef) -> runP tb N ops n l L2 = some L' -> wpList P ops Q (o :: l) a w := by
     intro L2 hf2 h2
     unfold wpList
     rw [if_neg (by rw [hw]; simp)]
     exact runP_ok htb n hf2 h2 k
    split at h
    · rename_i d hd
      split at h
      · rename_i hb; exact hstep (by rw [hd]; exact hf.put hb _) h
      · simp at h
    · rename_i hd; exact hstep (by rw [hd]; exact hf.put_none _) h
  · rename_i hg
    have hw := grd_ok hf hg
    split at h
    · rename_i d hd
      split at h
      · rename_i hb
        split at h
        · rename_i v hv
          unfold wpList
          rw [if_pos hw]
          refine Or.inl ?_
          unfold Oper.wp
          rw [pureOp_ok htb hf o hv w]
          simp only [Oper.upon]
          rw [hd]
          exact runP_ok htb n (hf.put hb _) h k
        · simp at h
      · simp at h
    · simp at h
  · simp at h
theorem st (htb : TbOk P tb) (n : Nat) (ks : List Nat) {L' : List (Nat × Value)} {w : World} {l : List Oper} {L : List (Nat × Value)} {a : Act} (hf : Fr N L a)
    (h : runK tb N ops n l L ks = some L') (k : ∀ a', Fr N L' a' -> wpList P ops Q (l.drop n) a' w) : wpList P ops Q l a w := by
 unfold runK at h
 split at h
 · rename_i L2 h2; exact runP_ok htb n hf h2 fun a' hf' => k a' (hf'.keep h)
 · simp at h
section code
variable {id : Nat} {L : List (Nat × Value)} {a : Act} {w : World}
theorem reg {l : List Oper} (h : wpList P l.toArray Q l a w) : (Code.region id l.toArray false).wp P Q a w := wp_region_lit h
theorem cnd {c : Operand} {x y : Code} {b : Bool} (hf : Fr N L a) (hc : evO L c = some (.bool b)) (ht : b = true -> x.wp P Q a w) (he : b = false -> y.wp P Q a w) : (Code.cond c x y).wp P Q a w :=
 wp_cond_split (evO_ok hf hc) ht he
theorem of_gd {ρ : Type} {c : Prop} [Decidable c] {k : Option ρ} {r : ρ} (h : gd c k = some r) : c /\ k = some r := by
 unfold gd at h; split at h
 · exact ⟨‹_›, h⟩
 · simp at h
theorem of_bd {α ρ : Type} {m : Option α} {f : α -> Option ρ} {r : ρ} (h : m.bind f = some r) : ∃ z, m = some z /\ f z = some r := by
 cases m with
 | none => simp at h
 | some z => exact ⟨z, rfl, h⟩
theorem lp {σ ρ : Type} {body : σ -> (σ -> Option ρ) -> Option ρ} {c : Code} {r : ρ} (M : σ -> Act -> World -> Prop)
    (h : ∀ (rec : σ -> Option ρ) (K : Act -> World -> Prop), (∀ st a w, M st a w -> rec st = some r -> K a w) -> ∀ st a w, M st a w -> body st rec = some r -> c.wp P (Exit.then K Q) a w)
    {n : Nat} {st : σ} (hM : M st a w) (hS : loopK body n st = some r) : (Code.loop c).wp P Q a w := by
 have key : ∀ n st a w, M st a w -> loopK body n st = some r -> ∀ (b : Frame) (k : List Item) (cs : List Frame), ∃ e a' w', Q e a' w' /\ Arrives P (lone (b.at a (.code c :: .inLoop c :: k)) cs w) b k cs e a' w' := by
  intro n
  induction n with
  | zero => intro st a w _ hS; simp [loopK] at hS
  | succ n ih =>
   intro st a w hM hS b k cs
   obtain ⟨e, a₁, w₁, hq, harr⟩ := h (loopK body n) _ (fun st a w hM hS => ih st a w hM hS) st a w hM hS b (.inLoop c :: k) cs
   cases e with
   | normal =>
    obtain ⟨e₂, a₂, w₂, hq₂, harr₂⟩ := hq b k cs
    exact ⟨e₂, a₂, w₂, hq₂, .of_steps (Steps.trans harr (.one step_inLoop)) harr₂⟩
   | exit id => exact ⟨_, a₁, w₁, hq, .pass (x := .inLoop c) rfl (fun _ _ => .inl (by simp)) harr⟩
   | goto l => exact ⟨_, a₁, w₁, hq, .pass (x := .inLoop c) rfl (fun _ _ => .inl (by simp)) harr⟩
   | ret => exact ⟨_, a₁, w₁, hq, .pass (x := .inLoop c) rfl (fun _ _ => .inl (by simp)) harr⟩
   | panic ch => exact ⟨_, a₁, w₁, hq, .pass (x := .inLoop c) rfl (fun _ _ => .inl (by simp)) harr⟩
   | outgrown => exact ⟨_, a₁, w₁, hq, .pass (x := .inLoop c) rfl (fun _ _ => .inl (by simp)) harr⟩
 intro b k cs
 obtain ⟨e, a', w', hq, harr⟩ := key n st a w hM hS b k cs
 exact ⟨e, a', w', hq, .of_steps (.one step_loop) harr⟩
theorem sq {x y : Code} (h : x.wp P (Exit.then (y.wp P Q) Q) a w) : (Code.seq x y).wp P Q a w := wp_seq h
theorem blk {c : Code} (h : c.wp P (Exit.inBlock id Q) a w) : (Code.block id c).wp P Q a w := wp_block h
end code
def Ent (P : Program) (f : Nat) : Prop := ∃ fn, P.funcs[f]? = some fn /\ (fn.name == "runtime.NumGoroutine") = false /\ fn.body.isNone = false
theorem run_enter {f : Nat} (h : Ent P f) (args : Array Value) (w : World) : (callFunc f args).run P w = .ok (.enter f args) w := by
 obtain ⟨fn, h1, h2, h3⟩ := h
 unfold callFunc
 simp only [Sem.run_bind, run_program, Result.andThen, h1, h2, h3, Bool.false_eq_true, if_false, Sem.run_pure]
def Gives (T : Value -> World -> Prop) (e : Ending) (w' : World) : Prop := ∃ v, e = .returned v /\ T v w'
section calls
variable {L : List (Nat × Value)} {a : Act} {w : World} {rest : List Oper} {d f : Nat} {A : List Operand} {vs : List Value} {T : Value -> World -> Prop}
theorem exec_call (hent : Ent P f) (hf : Fr N L a) (hA : evL L A = some vs) {dst : Option Tmp} {ty : TypeId} {at_ : Array TypeId} {pos : String} {after : Array Edge} {g : Option (Nat × Bool)} :
    (execOp a.eval { dst := dst, op := .call { callee := .value (.func f), args := A.toArray, argTypes := at_ }, type := ty, pos := pos, after := after, guard := g }).run P w = .ok (.enter f vs.toArray) w := by
 simp only [execOp, resolve, List.map_toArray, evL_ok hf hA, Act.eval, Deferred.ofValue]
 simp only [Sem.run_bind, Sem.run_pure, Result.andThen, invoke]
 simp only [Array.append_empty, List.append_toArray, List.nil_append]
 exact run_enter hent _ _
theorem cl (hent : Ent P f) {g : Option (Nat × Bool)} {at_ : Array TypeId} {pos : String} {after : Array Edge} {ty : TypeId} (hf : Fr N L a) (hd : Nat.blt d N = true) (hg : grd ops L g = some true) (hA : evL L A = some vs)
    (hc : Calls P f vs.toArray w (Gives T)) (k : ∀ v w' a', T v w' -> Fr N ((d, v) :: er d L) a' -> wpList P ops Q rest a' w') :
    wpList P ops Q ({ dst := some d, op := .call { callee := .value (.func f), args := A.toArray, argTypes := at_ }, type := ty, pos := pos, after := after, guard := g } :: rest) a w := by
 unfold wpList
 rw [if_pos (grd_ok hf hg)]
 refine Or.inl ?_
 unfold Oper.wp
 rw [exec_call hent hf hA]
 simp only [Oper.upon]
 refine hc.mono fun e w' ⟨v, he, ht⟩ => ?_
 subst he
 exact k v w' _ ht (hf.put hd v)
end calls
theorem fr_enter {n : Nat} (vs : List Value) (h : vs.length <= n) : Fr n ((List.range vs.length).zip vs) { tmps := vs.toArray ++ Array.replicate (n - vs.toArray.size) undef, defers := [] } := by
 have key : ∀ (l : List (Nat × Value)), (∀ p ∈ l, vs[p.1]? = some p.2) -> Fr n l { tmps := vs.toArray ++ Array.replicate (n - vs.toArray.size) undef, defers := [] } := by
  intro l
  induction l with
  | nil => intro _; exact ⟨by simp; omega, rfl⟩
  | cons p l ih =>
   intro hp
   refine ⟨?_, ih fun q hq => hp q (List.mem_cons_of_mem _ hq)⟩
   have h1 := hp p (by simp)
   have h2 : p.1 < vs.length := by
    rcases Nat.lt_or_ge p.1 vs.length with h' | h'
    · exact h'
    · rw [List.getElem?_eq_none h'] at h1; cases h1
   rw [Array.getD_eq_getD_getElem?, Array.getElem?_append_left (by simpa using h2)]
   simp [h1]
 refine key _ fun p hp => ?_
 obtain ⟨i, hi, e⟩ := List.getElem_of_mem hp
 rw [<- e]
 simp only [List.getElem_zip, List.getElem_range]
 simp at hi
 simp [hi]
theorem fn_ok {f : Nat} {fn : Func} {c : Code} {vs : List Value} {w : World} {T : Value -> World -> Prop} (hf : P.funcs[f]? = some fn) (hb : fn.body = some c) (N : Nat) (hN : fn.ntmps = N) (hl : vs.length <= N)
    (k : ∀ a, Fr N ((List.range vs.length).zip vs) a -> c.wp P (bodyPost P fn (Gives T)) a w) : Calls P f vs.toArray w (Gives T) := by
 refine calls_of_wp hf hb (k _ ?_)
 rw [hN]
 exact fr_enter vs hl
def resVal (L : List (Nat × Value)) : List ResultVar -> Option (List Value)
 | [] => some []
 | .tmp t :: rs => (match asc L t with
  | some v => (match resVal L rs with
   | some r => some (v :: r)
   | none => none)
  | none => none)
 | _ => none
def packRes : List Value -> Value
 | [v] => v
 | vs => .tuple vs.toArray
theorem mapM_res {L : List (Nat × Value)} {a : Act} {w : World} (hf : Fr N L a) : ∀ {rs : List ResultVar} {vs : List Value}, resVal L rs = some vs ->
    (rs.mapM (fun (r : ResultVar) => (match r with
     | .tmp t => pure (a.tmps.getD t undef)
     | .cell x t => do loadVar t (<- asAddr (a.tmps.getD x undef)) : Sem Value))).run P w = .ok vs w
 | [], vs, h => by simp only [resVal, Option.some.injEq] at h; subst h; rfl
 | r :: rs, vs, h => by
  cases r with
  | cell x t => simp [resVal] at h
  | tmp t =>
   simp only [resVal] at h
   split at h
   · rename_i v hv
     split at h
     · rename_i u hu
       simp only [Option.some.injEq] at h; subst h
       rw [List.mapM_cons]
       simp only [Sem.run_bind, Sem.run_pure, Result.andThen, mapM_res hf hu, hf.look hv]
     · simp at h
   · simp at h
theorem ret_ok {fn : Func} {L : List (Nat × Value)} {a : Act} {w : World} {T : Value -> World -> Prop} {vs : List Value} (hf : Fr N L a) (hr : resVal L fn.results.toList = some vs) (hT : T (packRes vs) w) :
    bodyPost P fn (Gives T) .ret a w := by
 refine ⟨hf.base.2, packRes vs, ?_, _, rfl, hT⟩
 unfold results
 have h := mapM_res (P := P) (w := w) hf hr
 rw [Array.mapM_eq_mapM_toList]
 simp only [Sem.run_bind, map_eq_pure_bind, bind_assoc, pure_bind]
 refine Eq.trans (congrArg (fun r => Result.andThen r _) h) ?_
 simp only [Result.andThen, Sem.run_pure]
 clear h hr hT
 match vs with
 | [] => rfl
 | [v] => rfl
 | u :: v :: r => simp [packRes]
end pure
abbrev SH := Nat -> Option Obj
def hp (w : World) : SH := fun k => w.heap[k]?
def LeH (h h' : SH) : Prop := ∀ k o, h k = some o -> h' k = some o
theorem LeH.refl (h : SH) : LeH h h := fun _ _ e => e
theorem LeH.trans {a b c : SH} (h : LeH a b) (k : LeH b c) : LeH a c := fun i o e => k i o (h i o e)
abbrev Ext (w w' : World) : Prop := Below w.heap.size w w'
theorem hp_lt {w : World} {k : Nat} {o : Obj} (h : hp w k = some o) : k < w.heap.size := by
 rcases Nat.lt_or_ge k w.heap.size with h' | h'
 · exact h'
 · unfold hp at h; rw [Array.getElem?_eq_none h'] at h; cases h
theorem Ext.le {w w' : World} (h : Ext w w') : LeH (hp w) (hp w') := fun k _ e => (h.block k (hp_lt e)).trans e
theorem Ext.rfl' (w : World) : Ext w w := Below.refl _ _
theorem ext_of_grown {w w' : World} (h : w.grownBy w' none) : Ext w w' := ⟨h.os, h.tape, h.output, h.size, fun k hk => h.block k hk (by simp)⟩
def cellH (h : SH) (b o : Nat) : Option Value := match h b with
 | some (.cells c _ _) => c[o]?
 | _ => none
theorem cellH_mono {h h' : SH} (hl : LeH h h') {b o : Nat} {v : Value} (e : cellH h b o = some v) : cellH h' b o = some v := by
 unfold cellH at *
 split at e
 · rename_i c t f hb; rw [hl _ _ hb]; exact e
 · cases e
theorem cellH_cell {h : SH} {w : World} (hl : LeH h (hp w)) {b o : Nat} {v : Value} (e : cellH h b o = some v) : w.cell? ⟨b, o, none⟩ = some v := by
 have := cellH_mono hl e
 unfold cellH hp at this
 unfold World.cell?
 simp only [Option.isSome_none, Bool.false_eq_true, if_false]
 exact this
theorem cell_cellH {w : World} {p : Addr} {v : Value} (hs : p.spot = none) (e : w.cell? p = some v) : cellH (hp w) p.block p.off = some v := by
 unfold World.cell? at e
 unfold cellH hp
 simp only [hs, Option.isSome_none, Bool.false_eq_true, if_false] at e
 exact e
structure Ty (α : Type) where
 size : Nat
 rep : SH -> α -> List Value -> Prop
 mono : ∀ {h h' : SH} {x : α} {c : List Value}, LeH h h' -> rep h x c -> rep h' x c
 len : ∀ {h : SH} {x : α} {c : List Value}, rep h x c -> c.length = size
 one : ∀ {h : SH} {x : α} {c : List Value}, rep h x c -> ∀ u ∈ c, u.oneCell' = true
def Flat {α : Type} (t : Ty α) : Prop := ∀ (h h' : SH) (x : α) (c : List Value), t.rep h x c -> t.rep h' x c
def tF {α : Type} (n : Nat) (enc : α -> List Value) (hl : ∀ x, (enc x).length = n) (ho : ∀ x, ∀ u ∈ enc x, u.oneCell' = true) : Ty α where
 size := n
 rep := fun _ x c => c = enc x
 mono := fun _ e => e
 len := fun e => by rw [e]; exact hl _
 one := fun {_ x c} e => by rw [e]; exact ho x
theorem flat_tF {α : Type} {n : Nat} {enc : α -> List Value} {hl : ∀ x, (enc x).length = n} {ho : ∀ x, ∀ u ∈ enc x, u.oneCell' = true} : Flat (tF n enc hl ho) := fun _ _ _ _ e => e
def tI (k : IntKind) : Ty Int := tF 1 (fun n => [.int k n]) (fun _ => rfl) (fun _ u hu => by simp at hu; subst hu; rfl)
def tB : Ty Bool := tF 1 (fun b => [.bool b]) (fun _ => rfl) (fun _ u hu => by simp at hu; subst hu; rfl)
def tS : Ty (List UInt8) := tF 1 (fun l => [strV l]) (fun _ => rfl) (fun _ u hu => by simp at hu; subst hu; rfl)
theorem flat_I (k : IntKind) : Flat (tI k) := flat_tF
theorem flat_B : Flat tB := flat_tF
theorem flat_S : Flat tS := flat_tF
section reps
variable {α : Type} {t : Ty α} {h h' : SH}
def Reps (t : Ty α) (h : SH) : List α -> List Value -> Prop
 | [], cs => cs = []
 | x :: xs, cs => ∃ c r, cs = c ++ r /\ t.rep h x c /\ Reps t h xs r
theorem Reps.mono (hl : LeH h h') : ∀ {xs : List α} {cs : List Value}, Reps t h xs cs -> Reps t h' xs cs
 | [], _, e => e
 | _ :: _, _, ⟨c, r, e, hc, hr⟩ => ⟨c, r, e, t.mono hl hc, Reps.mono hl hr⟩
theorem Reps.flat (hF : Flat t) : ∀ {xs : List α} {cs : List Value}, Reps t h xs cs -> Reps t h' xs cs
 | [], _, e => e
 | _ :: _, _, ⟨c, r, e, hc, hr⟩ => ⟨c, r, e, hF _ _ _ _ hc, Reps.flat hF hr⟩
theorem Reps.length : ∀ {xs : List α} {cs : List Value}, Reps t h xs cs -> cs.length = xs.length * t.size
 | [], _, e => by rw [show _ = [] from e]; simp
 | x :: xs, _, ⟨c, r, e, hc, hr⟩ => by
  rw [e, List.length_append, t.len hc, Reps.length hr, List.length_cons, Nat.add_mul, Nat.one_mul, Nat.add_comm]
theorem Reps.one : ∀ {xs : List α} {cs : List Value}, Reps t h xs cs -> ∀ u ∈ cs, u.oneCell' = true
 | [], _, e, u, hu => by rw [show _ = [] from e] at hu; simp at hu
 | x :: xs, _, ⟨c, r, e, hc, hr⟩, u, hu => by
  rw [e, List.mem_append] at hu
  rcases hu with hu | hu
  · exact t.one hc u hu
  · exact Reps.one hr u hu
theorem Reps.append : ∀ {xs ys : List α} {cs ds : List Value}, Reps t h xs cs -> Reps t h ys ds -> Reps t h (xs ++ ys) (cs ++ ds)
 | [], _, _, _, e, hy => by rw [show _ = [] from e]; simpa using hy
 | _ :: _, _, _, _, ⟨c, r, e, hc, hr⟩, hy => ⟨c, _, by rw [e, List.append_assoc], hc, Reps.append hr hy⟩
theorem Reps.split : ∀ {xs : List α} {cs : List Value} (i : Nat), Reps t h xs cs -> i <= xs.length -> Reps t h (xs.take i) (cs.take (i * t.size)) /\ Reps t h (xs.drop i) (cs.drop (i * t.size))
 | xs, cs, 0, e, _ => by simp only [Nat.zero_mul, List.take_zero, List.drop_zero]; exact ⟨rfl, e⟩
 | [], _, i + 1, _, hi => by simp at hi
 | x :: xs, _, i + 1, ⟨c, r, e, hc, hr⟩, hi => by
  obtain ⟨h1, h2⟩ := Reps.split i hr (by simpa using hi)
  have hl := t.len hc
  have e1 : (i + 1) * t.size = c.length + i * t.size := by rw [hl, Nat.add_mul, Nat.one_mul, Nat.add_comm]
  rw [e, e1]
  refine ⟨⟨c, r.take (i * t.size), ?_, hc, ?_⟩, ?_⟩
  · rw [List.take_length_add_append]
  · simpa using h1
  · rw [List.drop_length_add_append]; simpa using h2
theorem Reps.at : ∀ {xs : List α} {cs : List Value} (i : Nat) {x : α}, Reps t h xs cs -> xs[i]? = some x -> t.rep h x ((cs.drop (i * t.size)).take t.size)
 | [], _, i, x, _, hx => by simp at hx
 | y :: xs, _, 0, x, ⟨c, r, e, hc, hr⟩, hx => by
  have : y = x := by simpa using hx
  rw [e, Nat.zero_mul, List.drop_zero, <- this, List.take_append_of_le_length (by rw [t.len hc]; exact Nat.le_refl _), List.take_of_length_le (by rw [t.len hc]; exact Nat.le_refl _)]
  exact hc
 | y :: xs, _, i + 1, x, ⟨c, r, e, hc, hr⟩, hx => by
  have hl := t.len hc
  have e1 : (i + 1) * t.size = c.length + i * t.size := by rw [hl, Nat.add_mul, Nat.one_mul, Nat.add_comm]
  rw [e, e1, List.drop_length_add_append]
  exact Reps.at i hr (by simpa using hx)
end reps
def RO {α : Type} (h : SH) (t : Ty α) (v : Value) (xs : List α) : Prop :=
 ∃ (ao : Option Addr) (cap : Nat) (cs : List Value), v = .slice ao xs.length cap /\ xs.length <= cap /\ Reps t h xs cs /\
  ∀ j u, cs[j]? = some u -> ∃ b o, ao = some ⟨b, o, none⟩ /\ cellH h b (o + j) = some u
def Own {α : Type} (w : World) (B : Nat) (h : SH) (e : TypeId) (t : Ty α) (v : Value) (xs : List α) : Prop :=
 ∃ cs, w.ownsRow B e t.size v xs.length cs /\ Reps t h xs cs /\ ∀ k, v.ownBlock = some k -> h k = none
section ro
variable {α : Type} {t : Ty α} {h h' : SH} {v : Value} {xs ys : List α} {w w' : World} {B : Nat} {e : TypeId}
theorem RO.mono (hl : LeH h h') (H : RO h t v xs) : RO h' t v xs := by
 obtain ⟨ao, cap, cs, h1, h2, h3, h4⟩ := H
 exact ⟨ao, cap, cs, h1, h2, h3.mono hl, fun j u hj => let ⟨b, o, e1, e2⟩ := h4 j u hj; ⟨b, o, e1, cellH_mono hl e2⟩⟩
theorem RO.shape (H : RO h t v xs) : ∃ ao cap, v = .slice ao xs.length cap := let ⟨ao, cap, _, h1, _⟩ := H; ⟨ao, cap, h1⟩
theorem Own.shape (H : Own w B h e t v xs) : ∃ ao cap, v = .slice ao xs.length cap := by
 obtain ⟨cs, ⟨_, ho⟩, _, _⟩ := H
 rcases ho with ⟨rfl, h0⟩ | ⟨g, cap, cur, rfl, _⟩
 · exact ⟨none, 0, by rw [h0]⟩
 · exact ⟨_, cap, rfl⟩
theorem RO.nil (h : SH) (t : Ty α) : RO h t (.slice none 0 0) [] := ⟨none, 0, [], rfl, Nat.le_refl _, rfl, fun j u hj => by simp at hj⟩
theorem Own.lt (H : Own w B h e t v xs) : ∀ k, v.ownBlock = some k -> B <= k /\ k < w.heap.size := let ⟨_, ho, _, _⟩ := H; ho.lt
theorem LeH_none (hl : LeH h (hp w)) {k : Nat} (hk : w.heap.size <= k) : h k = none := by
 cases e : h k with
 | none => rfl
 | some o => have := hp_lt (hl _ _ e); omega
def CellsAt (h : SH) (p : Addr) (c : List Value) : Prop := p.spot = none /\ ∀ j u, c[j]? = some u -> cellH h p.block (p.off + j) = some u
end ro
section mem
variable {P : Program} {tb : Tb} {ops : Array Oper} {Q : Exit -> Act -> World -> Prop} {N : Nat} {L : List (Nat × Value)} {a : Act} {w : World} {rest : List Oper} {o : Oper} {d : Nat}
theorem stp (hf : Fr N L a) {v : Value} {w' : World} (hg : grd ops L o.guard = some true) (hrun : (execOp a.eval o).run P w = .ok (.value v) w') (k : wpList P ops Q rest (a.put o.dst v) w') : wpList P ops Q (o :: rest) a w := by
 unfold wpList
 rw [if_pos (grd_ok hf hg)]
 refine Or.inl ?_
 unfold Oper.wp
 rw [hrun]
 exact k
theorem stpS (hf : Fr N L a) {w' : World} (hg : grd ops L o.guard = some true) (hrun : (execOp a.eval o).run P w = .ok .skip w') (k : wpList P ops Q rest (a.put o.dst undef) w') : wpList P ops Q (o :: rest) a w := by
 unfold wpList
 rw [if_pos (grd_ok hf hg)]
 refine Or.inl ?_
 unfold Oper.wp
 rw [hrun]
 exact k
theorem elem_slice {T e : Nat} (hu : P.underlying T = some (.slice e)) : P.underlying T = some (.slice (P.elem T)) /\ P.elem T = e := by
 have : P.elem T = e := by unfold Program.elem; rw [hu]
 rw [this]; exact ⟨hu, rfl⟩
theorem cellsOf_of {P : Program} {e s : Nat} {inf : TypeInfo} (hinf : P.info? e = some inf) (hs : inf.size = s) : P.cellsOf e = s := by
 unfold Program.cellsOf; rw [hinf]; exact hs
theorem run_ix (htb : TbOk P tb) {T e s b : Nat} {zv : Value} (hu : asc tb.und T = some (.slice e)) (hi : asc tb.info e = some (zv, s, b)) {bl o cap n : Nat} {k : IntKind} {i : Int} (h0 : 0 <= i) (h1 : i < n) (w : World) :
    (Instr.indexAt T (.slice (some ⟨bl, o, none⟩) n cap) (.int k i)).run P w = .ok (.pointer (some ⟨bl, o + i.toNat * s, none⟩)) w := by
 obtain ⟨inf, hinf, _, hs, _⟩ := htb.i hi
 obtain ⟨h2, h3⟩ := elem_slice (htb.u hu)
 rw [run_indexAt_slice w T _ n cap k i h2, if_pos ⟨h0, h1⟩, h3, run_sizeOf w hinf]
 simp only [Result.andThen, cellsOf_of hinf hs, Addr.add_lit]
theorem gt_at {α : Type} [Inhabited α] {xs : List α} {n : Int} (h0 : 0 <= n) (h1 : n < xs.length) : xs[n.toNat]? = some (gt xs n) := by
 have : n.toNat < xs.length := by omega
 unfold gt
 rw [List.getD_eq_getElem?_getD, List.getElem?_eq_getElem this]; rfl
theorem cutL_length {α : Type} {xs : List α} {lo hi : Int} (h1 : hi <= xs.length) : (cutL xs lo hi).length = hi.toNat - lo.toNat := by
 unfold cutL; rw [List.length_drop, List.length_take]; omega
theorem RO.cut {α : Type} {t : Ty α} {h : SH} {ao : Option Addr} {cap : Nat} {xs : List α} (hro : RO h t (.slice ao xs.length cap) xs) {lo hi : Int} (h0 : 0 <= lo) (h1 : lo <= hi) (h2 : hi <= xs.length) {m : Nat} (hm1 : hi.toNat <= m) :
    RO h t (.slice (if m = lo.toNat then ao else ao.map (·.add (lo.toNat * t.size))) (hi.toNat - lo.toNat) (m - lo.toNat)) (cutL xs lo hi) := by
 obtain ⟨ao', cap', cs, e, hc, hr, hcell⟩ := hro
 simp only [Value.slice.injEq] at e
 obtain ⟨rfl, _, rfl⟩ := e
 refine ⟨_, _, (cs.take (hi.toNat * t.size)).drop (lo.toNat * t.size), by rw [cutL_length h2], by rw [cutL_length h2]; omega, ?_, ?_⟩
 · have h3 := (Reps.split hi.toNat hr (by omega)).1
   exact (Reps.split lo.toNat h3 (by rw [List.length_take]; omega)).2
 · intro j u hj
   rw [List.getElem?_drop] at hj
   have hj2 : lo.toNat * t.size + j < hi.toNat * t.size := by
    rcases Nat.lt_or_ge (lo.toNat * t.size + j) (hi.toNat * t.size) with h' | h'
    · exact h'
    · rw [List.getElem?_take_eq_none h'] at hj; cases hj
   rw [List.getElem?_take_of_lt hj2] at hj
   obtain ⟨b, o, e1, e2⟩ := hcell _ _ hj
   subst e1
   have hne : ¬ m = lo.toNat := by
    intro e
    have : hi.toNat * t.size <= lo.toNat * t.size := Nat.mul_le_mul_right _ (by omega)
    omega
   exact ⟨b, o + lo.toNat * t.size, by rw [if_neg hne]; simp only [Option.map_some, Addr.add_lit], by rw [Nat.add_assoc]; exact e2⟩
theorem RO.cap {α : Type} {t : Ty α} {h : SH} {ao : Option Addr} {n cap : Nat} {xs : List α} (hro : RO h t (.slice ao n cap) xs) : n = xs.length /\ n <= cap := by
 obtain ⟨ao', cap', cs, e, hc, hr, hcell⟩ := hro
 simp only [Value.slice.injEq] at e
 obtain ⟨_, rfl, rfl⟩ := e
 exact ⟨rfl, hc⟩
theorem run_sliceBound {k : IntKind} {i : Int} {y : Nat} {c : BoundsCode} (h0 : 0 <= i) (h1 : i <= y) (w : World) : (Instr.sliceBound (.int k i) y c).run P w = .ok i.toNat w := by
 unfold Instr.sliceBound
 simp only [asIntOf, Sem.run_bind, Sem.run_pure, Result.andThen, if_pos (And.intro h0 h1)]
theorem exec_sl (htb : TbOk P tb) {T e s b : Nat} {zv : Value} (hu : asc tb.und T = some (.slice e)) (hti : asc tb.info e = some (zv, s, b)) {α : Type} {t : Ty α} (ht : t.size = s) {h : SH} {ao : Option Addr} {cap : Nat} {xs : List α}
    (hro : RO h t (.slice ao xs.length cap) xs) {lo hi : Int} (hb : 0 <= lo /\ lo <= hi /\ hi <= xs.length) {lv hv mv : Option Value} {m : Int}
    (h1 : lv = none /\ lo = 0 \/ ∃ k, lv = some (.int k lo)) (h2 : hv = none /\ hi = xs.length \/ ∃ k, hv = some (.int k hi)) (h3 : mv = none \/ (∃ k, mv = some (.int k m)) /\ hv ≠ none /\ hi <= m /\ m <= xs.length) :
    ∃ v', RO h t v' (cutL xs lo hi) /\ ∀ w, (Instr.sliceAt T (.slice ao xs.length cap) lv hv mv).run P w = .ok v' w := by
 obtain ⟨b0, b1, b2⟩ := hb
 have hcap := hro.cap.2
 obtain ⟨inf, hinf, _, hs, _⟩ := htb.i hti
 obtain ⟨u2, u3⟩ := elem_slice (htb.u hu)
 have key : ∀ M : Nat, hi.toNat <= M -> (∀ w, (Instr.sliceBounds true xs.length cap lv hv mv).run P w = .ok (lo.toNat, hi.toNat, M) w) ->
     ∃ v', RO h t v' (cutL xs lo hi) /\ ∀ w, (Instr.sliceAt T (.slice ao xs.length cap) lv hv mv).run P w = .ok v' w := by
  intro M hM1 hrun
  refine ⟨_, hro.cut b0 b1 b2 hM1, fun w => ?_⟩
  unfold Instr.sliceAt
  simp only [Sem.run_bind, asc_und htb hu, Result.andThen]
  rw [run_slice_any w T ao xs.length cap u2, hrun w, u3]
  simp only [Result.andThen, run_sizeOf w hinf, cellsOf_of hinf hs, sliced, ht]
 rcases h3 with rfl | ⟨⟨km, rfl⟩, hne, hm1, hm2⟩
 · refine key cap (by omega) fun w => ?_
   unfold Instr.sliceBounds
   rcases h2 with ⟨rfl, rfl⟩ | ⟨kh, rfl⟩
   · rcases h1 with ⟨rfl, rfl⟩ | ⟨kl, rfl⟩
     · simp [Sem.run_pure]
     · simp [Result.andThen, run_sliceBound b0 b1]
   · have hh := run_sliceBound (P := P) (k := kh) (i := hi) (y := cap) (c := .sliceAcap) (by omega) (by omega)
     rcases h1 with ⟨rfl, rfl⟩ | ⟨kl, rfl⟩
     · simp [Result.andThen, hh]
     · have hl := run_sliceBound (P := P) (k := kl) (i := lo) (y := hi.toNat) (c := .sliceB) b0 (by omega)
       simp [Sem.run_bind, Result.andThen, hh, hl]
 · rcases h2 with ⟨rfl, _⟩ | ⟨kh, rfl⟩
   · exact absurd rfl hne
   · refine key m.toNat (by omega) fun w => ?_
     unfold Instr.sliceBounds
     have hm := run_sliceBound (P := P) (k := km) (i := m) (y := cap) (c := .slice3Acap) (by omega) (by omega)
     have hh := run_sliceBound (P := P) (k := kh) (i := hi) (y := m.toNat) (c := .slice3B) (by omega) (by omega)
     rcases h1 with ⟨rfl, rfl⟩ | ⟨kl, rfl⟩
     · simp [Sem.run_bind, Result.andThen, hh, hm]
     · have hl := run_sliceBound (P := P) (k := kl) (i := lo) (y := hi.toNat) (c := .slice3C) b0 (by omega)
       simp [Sem.run_bind, Result.andThen, hh, hl, hm]
def isB (L : List (Nat × Value)) (n : Int) (q : Option Operand) : Prop := ∃ x k, q = some x /\ evO L x = some (.int k n)
theorem sl (htb : TbOk P tb) {T e s b : Nat} {zv : Value} (hu : asc tb.und T = some (.slice e)) (hti : asc tb.info e = some (zv, s, b)) {α : Type} {t : Ty α} (ht : t.size = s) {h : SH} {ao : Option Addr} {cap : Nat} {xs : List α}
    (hro : RO h t (.slice ao xs.length cap) xs) {lo hi m : Int} (hb : 0 <= lo /\ lo <= hi /\ hi <= xs.length) {x : Operand} {lv hv mv : Option Operand}
    (h1 : lv = none /\ lo = 0 \/ isB L lo lv) (h2 : hv = none /\ hi = xs.length \/ isB L hi hv) (h3 : mv = none \/ isB L m mv /\ hv ≠ none /\ hi <= m /\ m <= xs.length)
    {g : Option (Nat × Bool)} {pos : String} {after : Array Edge} {ty : TypeId} (hf : Fr N L a) (hd : Nat.blt d N = true) (hg : grd ops L g = some true)
    (hx : evO L x = some (.slice ao xs.length cap)) (K : ∀ ao' cap' a', RO h t (.slice ao' (cutL xs lo hi).length cap') (cutL xs lo hi) -> Fr N ((d, .slice ao' (cutL xs lo hi).length cap') :: er d L) a' -> wpList P ops Q rest a' w) :
    wpList P ops Q ({ dst := some d, op := .slice T x lv hv mv, type := ty, pos := pos, after := after, guard := g } :: rest) a w := by
 have conv : ∀ {q : Option Operand} {n : Int}, isB L n q -> ∃ k, q.map a.eval = some (.int k n) := by
  rintro q n ⟨y, k, rfl, hk⟩
  exact ⟨k, by rw [Option.map_some, evO_ok hf hk]⟩
 obtain ⟨v', hv', hrun⟩ := exec_sl htb hu hti ht hro hb (lv := lv.map a.eval) (hv := hv.map a.eval) (mv := mv.map a.eval) (m := m)
  (h1.elim (fun q => .inl ⟨by rw [q.1]; rfl, q.2⟩) (fun q => .inr (conv q))) (h2.elim (fun q => .inl ⟨by rw [q.1]; rfl, q.2⟩) (fun q => .inr (conv q)))
  (h3.elim (fun q => .inl (by rw [q]; rfl)) (fun q => .inr ⟨conv q.1, by cases hv with | none => exact absurd rfl q.2.1 | some y => simp, q.2.2⟩))
 obtain ⟨ao', cap', e⟩ := hv'.shape
 subst e
 refine stp hf (v := .slice ao' (cutL xs lo hi).length cap') hg ?_ (K ao' cap' _ hv' (hf.put hd _))
 simp only [execOp, evO_ok hf hx, Sem.run_bind, hrun, Result.andThen, Sem.run_pure]
def mt : SH := fun _ => none
theorem exec_builtin {f : Builtin} {A : List Operand} {vs : List Value} (hf : Fr N L a) (hA : evL L A = some vs) {dst : Option Tmp} {ty : TypeId} {at_ : Array TypeId} {pos : String} {after : Array Edge} {g : Option (Nat × Bool)} {R : Result Next}
    (h : ∀ consts, (builtin f at_ ty consts vs.toArray).run P w = R) :
    (execOp a.eval { dst := dst, op := .call { callee := .builtin f, args := A.toArray, argTypes := at_ }, type := ty, pos := pos, after := after, guard := g }).run P w = R := by
 simp only [execOp, resolve, List.map_toArray, evL_ok hf hA]
 rw [Sem.run_bind, Sem.run_pure]
 exact h _
theorem own_new {α : Type} {t : Ty α} {h : SH} {e : TypeId} {xs : List α} {cells : Array Value} (hr : Reps t h xs cells.toList) (hn : h w.heap.size = none) (hm : xs.length <= maxLen) :
    Own (w.alloc (.cells cells e)) w.heap.size h e t (.slice (some ⟨w.heap.size, 0, none⟩) xs.length xs.length) xs := by
 have hlen : cells.size = xs.length * t.size := by rw [<- Array.length_toList]; exact hr.length
 refine ⟨cells.toList, ⟨by rw [Array.length_toList, hlen], .inr ⟨w.heap.size, xs.length, cells, rfl, Nat.le_refl _, heap_alloc_new w _, Nat.le_refl _, hm, hlen, ?_⟩⟩, hr, ?_⟩
 · rw [<- hlen, <- Array.length_toList, List.take_length]
 · intro k hk; simp only [Value.ownBlock, Option.some.injEq] at hk; rw [<- hk]; exact hn
def litCells (s : Nat) (n : Nat) (zv : Value) (parts : List (Nat × Value)) : Option (Array Value) :=
 Instr.fill (fun i => some (i * s, s)) ((Array.range (n * s)).map (zv.cells[· % zv.cells.size]!)) parts
theorem bs (htb : TbOk P tb) {T e s b : Nat} {zv : Value} (hu : asc tb.und T = some (.slice e)) (hti : asc tb.info e = some (zv, s, b)) (hs : Nat.blt 0 s = true) {α : Type} {t : Ty α} {n : Nat} {ps : List (Nat × Operand)} {vs : List (Nat × Value)} {cells : Array Value} (xs : List α)
    {g : Option (Nat × Bool)} {pos : String} {after : Array Edge} {ty : TypeId} (hf : Fr N L a) (hd : Nat.blt d N = true) (hg : grd ops L g = some true) (hps : evP L ps = some vs) (hsz : Nat.ble (n * s) 16777216 = true) (hc : litCells s n zv vs = some cells)
    (hr : Reps t mt xs cells.toList) (hlen : xs.length = n) (K : ∀ w' a', Own w' w.heap.size mt e t (.slice (some ⟨w.heap.size, 0, none⟩) xs.length xs.length) xs -> Ext w w' -> w.heap.size < w'.heap.size -> Fr N ((d, .slice (some ⟨w.heap.size, 0, none⟩) xs.length xs.length) :: er d L) a' -> wpList P ops Q rest a' w') :
    wpList P ops Q ({ dst := some d, op := .buildSlice T n ps.toArray, type := ty, pos := pos, after := after, guard := g } :: rest) a w := by
 obtain ⟨inf, hinf, hzero, hsize, hby⟩ := htb.i hti
 have hsz' : n * s <= 16777216 := Nat.le_of_ble_eq_true hsz
 have hown := own_new (w := w) (e := e) hr rfl (by
  rw [hlen]
  have : n * 1 <= n * s := Nat.mul_le_mul_left _ (Nat.le_of_ble_eq_true hs)
  unfold maxLen; omega)
 refine stp hf (v := .slice (some ⟨w.heap.size, 0, none⟩) xs.length xs.length) (w' := w.alloc (.cells cells e)) hg ?_ (K _ _ hown ((Below.refl _ _).alloc (Nat.le_refl _) _) (by simp) (hf.put hd _))
 have hparts : ps.toArray.map (fun (p : Nat × Operand) => (p.1, a.eval p.2)) = vs.toArray := by rw [List.map_toArray, evP_ok hf hps]
 have hrun : (Instr.buildSlice T n vs.toArray).run P w = .ok (.slice (some ⟨w.heap.size, 0, none⟩) n n) (w.alloc (.cells cells e)) := by
  unfold Instr.buildSlice
  simp only [Sem.run_bind, asc_und htb hu, Result.andThen, run_sizeOf w hinf, cellsOf_of hinf hsize]
  rw [if_neg (by omega)]
  unfold litCells at hc
  by_cases h0 : n * s = 0
  · have e0 : ∀ f : Nat -> Value, (Array.range 0).map f = #[] := fun f => by simp
    simp only [h0, if_true]
    rw [h0] at hc
    simp only [e0] at hc ⊢
    simp only [hc, newRow, Sem.run_bind, run_newObj_alloc, Result.andThen, Sem.run_pure]
  · simp only [h0, if_false, zeroValue, typeInfo, Sem.run_bind, run_program, Result.andThen, hinf, hzero, Sem.run_pure]
    simp only [hc, newRow, Sem.run_bind, run_newObj_alloc, Result.andThen, Sem.run_pure]
 simp only [execOp, hparts, Sem.run_bind, hrun, Result.andThen, Sem.run_pure, hlen]
theorem reps_rep {α : Type} {t : Ty α} {h : SH} {x : α} {c : List Value} (hx : t.rep h x c) : ∀ n, Reps t h (List.replicate n x) (List.replicate n c).flatten
 | 0 => rfl
 | n + 1 => ⟨c, (List.replicate n c).flatten, by rw [List.replicate_succ, List.flatten_cons], hx, reps_rep hx n⟩
theorem made_one {u : Value} (n : Nat) : (madeCells #[u] n).toList = (List.replicate n [u]).flatten := by
 unfold madeCells
 have : ∀ n, (List.replicate n [u]).flatten = List.replicate n u := by
  intro n; induction n with
  | zero => rfl
  | succ n ih => rw [List.replicate_succ, List.flatten_cons, ih]; rfl
 rw [this, Array.toList_map, Array.toList_range]
 refine List.ext_getElem (by simp) fun i h1 h2 => ?_
 simp [Nat.mod_one]
theorem mk (htb : TbOk P tb) {T e b : Nat} {zv : Value} (hu : asc tb.und T = some (.slice e)) (hti : asc tb.info e = some (zv, 1, b)) (hb1 : Nat.blt 0 b = true) {α : Type} {t : Ty α} (ht : t.size = 1) (z : α) (hz : t.rep mt z [zv]) (hzc : zv.cells = #[zv]) {x y : Operand} {k k' : IntKind} {n : Int}
    (hn : 0 <= n /\ n * b <= 281474976710656) {g : Option (Nat × Bool)} {pos : String} {after : Array Edge} {ty : TypeId} (hf : Fr N L a) (hd : Nat.blt d N = true) (hg : grd ops L g = some true) (hx : evO L x = some (.int k n)) (hy : evO L y = some (.int k' n))
    (K : ∀ w' a', Own w' w.heap.size mt e t (.slice (some ⟨w.heap.size, 0, none⟩) (List.replicate n.toNat z).length n.toNat) (List.replicate n.toNat z) -> Ext w w' -> w.heap.size < w'.heap.size -> Fr N ((d, .slice (some ⟨w.heap.size, 0, none⟩) (List.replicate n.toNat z).length n.toNat) :: er d L) a' -> wpList P ops Q rest a' w') :
    wpList P ops Q ({ dst := some d, op := .makeSlice T x y, type := ty, pos := pos, after := after, guard := g } :: rest) a w := by
 obtain ⟨inf, hinf, hzero, hsize, hby⟩ := htb.i hti
 obtain ⟨m, rfl⟩ := Int.eq_ofNat_of_zero_le hn.1
 have hb1' : 0 < b := Nat.le_of_ble_eq_true hb1
 have h48 : b * m <= 281474976710656 := by
  have h2 := hn.2
  have h3 : ((m * b : Nat) : Int) <= 281474976710656 := by push_cast; exact h2
  rw [Nat.mul_comm]; omega
 have hm : m <= maxLen := by
  have : 1 * m <= b * m := Nat.mul_le_mul_right _ hb1'
  unfold maxLen; omega
 obtain ⟨w', hrun, hor, hgr⟩ := run_make_full (P := P) w w.heap.size T e inf zv 1 (htb.u hu) hinf hzero hsize k k' m (by rw [hby]; exact h48) hm (Nat.le_refl _)
 have hrl : (List.replicate m z).length = m := List.length_replicate
 have hlt : w.heap.size < w'.heap.size := (hor.lt _ rfl).2
 have hown : Own w' w.heap.size mt e t (.slice (some ⟨w.heap.size, 0, none⟩) (List.replicate m z).length m) (List.replicate m z) := by
  rw [hrl]
  refine ⟨(madeCells zv.cells (m * 1)).toList, by rw [hrl, ht]; exact hor, ?_, fun k hk => rfl⟩
  rw [hzc, Nat.mul_one, made_one]; exact reps_rep hz m
 refine stp hf (v := .slice (some ⟨w.heap.size, 0, none⟩) m m) (w' := w') hg ?_ ?_
 · simp only [execOp, evO_ok hf hx, evO_ok hf hy, Sem.run_bind, hrun, Result.andThen, Sem.run_pure]
 · refine K w' _ (by simpa using hown) (ext_of_grown hgr) hlt ?_
   simp only [Int.toNat_natCast, hrl]
   exact hf.put hd _
theorem run_b2s (htb : TbOk P tb) {src dst e : Nat} (h1 : asc tb.und src = some (.slice e)) (h2 : asc tb.und e = some (.int .u8)) (h3 : asc tb.und dst = some .string) {h : SH} {v : Value} {xs : List Int} (hro : RO h (tI .u8) v xs) (hl : LeH h (hp w)) :
    (convert src dst v).run P w = .ok (strV (toStr xs)) w := by
 obtain ⟨ao, cap, cs, rfl, hcp, hr, hc⟩ := hro
 have hcs : cs = xs.map (Value.int .u8) := by
  clear hc hcp
  induction xs generalizing cs with
  | nil => exact hr
  | cons x xs ih => obtain ⟨c, r, e1, e2, e3⟩ := hr; rw [e1, show c = _ from e2, ih r e3]; rfl
 rw [run_convert_bytes_string w src dst e ao xs.length cap (htb.u h1) (htb.u h2) (htb.u h3)]
 cases ao with
 | none =>
  have : xs = [] := by
   cases xs with
   | nil => rfl
   | cons x xs => rw [hcs] at hc; obtain ⟨_, _, e1, _⟩ := hc 0 _ rfl; cases e1
  subst this
  simp [Conv.bytesToString]; rfl
 | some p =>
  have hl2 : (loadCells p xs.length).run P w = .ok (xs.map (Value.int .u8)).toArray w := by
   have := run_loadCells_list (P := P) w p (xs.map (Value.int .u8)) (fun j u hj => by
    rw [<- hcs] at hj
    obtain ⟨bl, o, e1, e2⟩ := hc j u hj
    simp only [Option.some.injEq] at e1; subst e1
    rw [Addr.add_lit]; exact cellH_cell hl e2)
   simpa using this
  rw [run_bytesToString w p xs.length cap xs hl2, foldl_push_bytes]
  simp [strV, toStr, ByteArray.empty, ByteArray.emptyWithCapacity]
  rfl
theorem b2s (htb : TbOk P tb) {src dst e : Nat} (h1 : asc tb.und src = some (.slice e)) (h2 : asc tb.und e = some (.int .u8)) (h3 : asc tb.und dst = some .string) {h : SH} {v : Value} {xs : List Int} (hro : RO h (tI .u8) v xs) (hl : LeH h (hp w))
    {x : Operand} {g : Option (Nat × Bool)} {pos : String} {after : Array Edge} {ty : TypeId} (hf : Fr N L a) (hd : Nat.blt d N = true) (hg : grd ops L g = some true) (hx : evO L x = some v) (K : ∀ a', Fr N ((d, strV (toStr xs)) :: er d L) a' -> wpList P ops Q rest a' w) :
    wpList P ops Q ({ dst := some d, op := .convert src dst x, type := ty, pos := pos, after := after, guard := g } :: rest) a w := by
 refine stp hf (v := strV (toStr xs)) hg ?_ (K _ (hf.put hd _))
 simp only [execOp, evO_ok hf hx, Sem.run_bind, run_b2s htb h1 h2 h3 hro hl, Result.andThen, Sem.run_pure]
theorem run_shl {k k' : IntKind} {x y : Int} (h : 0 <= y) (t : TypeId) (w : World) : (binOp .shl t (.int k x) (.int k' y)).run P w = .ok (.int k (shl k x y)) w := by
 simp only [binOp, Op.shift]; rw [if_neg (by omega)]; rfl
theorem run_shr {k k' : IntKind} {x y : Int} (h : 0 <= y) (t : TypeId) (w : World) : (binOp .shr t (.int k x) (.int k' y)).run P w = .ok (.int k (shr k x y)) w := by
 simp only [binOp, Op.shift]; rw [if_neg (by omega)]; rfl
theorem run_quo {k : IntKind} {x y : Int} (h : y ≠ 0) (t : TypeId) (w : World) : (binOp .quo t (.int k x) (.int k y)).run P w = .ok (.int k (k.wrap (Int.tdiv x y))) w := by
 simp only [binOp, ne_eq, not_true_eq_false, if_false, Op.intDiv]; rw [if_neg h]; rfl
theorem run_rem {k : IntKind} {x y : Int} (h : y ≠ 0) (t : TypeId) (w : World) : (binOp .rem t (.int k x) (.int k y)).run P w = .ok (.int k (Int.tmod x y)) w := by
 simp only [binOp, ne_eq, not_true_eq_false, if_false, Op.intDiv]; rw [if_neg h]; rfl
theorem run_eqnil (htb : TbOk P tb) {T e : Nat} (hu : asc tb.und T = some (.slice e)) (ao : Option Addr) (n c : Nat) (w : World) : (Op.equal T (.slice ao n c) (.slice none 0 0)).run P w = .ok ao.isNone w := by
 unfold Op.equal Op.maxDepth Op.equalIn
 cases ao <;> simp only [Sem.run_bind, asc_und htb hu, Result.andThen] <;> rfl
theorem eqGuard_sl (op : BinOp) (t : TypeId) (x y : Operand) (ao bo : Option Addr) (n c m d : Nat) (w : World) : (eqGuard op t x y (.slice ao n c) (.slice bo m d)).run P w = .ok () w := by
 unfold eqGuard; cases op <;> rfl
theorem eqnil (htb : TbOk P tb) {T e : Nat} (hu : asc tb.und T = some (.slice e)) {ao : Option Addr} {n c : Nat} {t' : TypeId} {x : Operand} {g : Option (Nat × Bool)} {pos : String} {after : Array Edge} {ty : TypeId} (hf : Fr N L a) (hd : Nat.blt d N = true) (hg : grd ops L g = some true)
    (hx : evO L x = some (.slice ao n c)) (K : ∀ a', Fr N ((d, .bool ao.isNone) :: er d L) a' -> wpList P ops Q rest a' w) :
    wpList P ops Q ({ dst := some d, op := .binOp .eql T x (.const (.slice none 0 0)) t', type := ty, pos := pos, after := after, guard := g } :: rest) a w := by
 refine stp hf (v := .bool ao.isNone) hg ?_ (K _ (hf.put hd _))
 have e2 : a.eval (.const (.slice none 0 0)) = .slice none 0 0 := rfl
 simp only [execOp, evO_ok hf hx, e2, Sem.run_bind, eqGuard_sl, Result.andThen, binOp, run_eqnil htb hu, Sem.run_pure]
theorem RO.none_nil {α : Type} {t : Ty α} {h : SH} {n c : Nat} {xs : List α} (hs : 0 < t.size) (hro : RO h t (.slice none n c) xs) : xs = [] := by
 obtain ⟨ao, cap, cs, e, _, hr, hc⟩ := hro
 simp only [Value.slice.injEq] at e
 obtain ⟨rfl, _, _⟩ := e
 have hlen := hr.length
 cases cs with
 | nil =>
  rcases Nat.eq_zero_or_pos xs.length with h' | h'
  · exact List.eq_nil_of_length_eq_zero h'
  · have := Nat.mul_pos h' hs; simp at hlen; omega
 | cons u r => obtain ⟨_, _, h1, _⟩ := hc 0 u rfl; cases h1
end mem
theorem Fr.cast {N : Nat} {L L' : List (Nat × Value)} {a : Act} (hf : Fr N L a) (e : L = L') : Fr N L' a := e ▸ hf
end Dm

namespace Dm
open Go Go.RowKit
def allOne : List Value -> Bool
 | [] => true
 | u :: us => match u.oneCell' with
  | true => allOne us
  | false => false
theorem allOne_ok : ∀ {l : List Value}, allOne l = true -> ∀ u ∈ l, u.oneCell' = true
 | [], _, u, hu => by simp at hu
 | x :: xs, h, u, hu => by
  simp only [allOne] at h
  split at h
  · rename_i hx
    rw [List.mem_cons] at hu
    rcases hu with rfl | hu
    · exact hx
    · exact allOne_ok h u hu
  · simp at h
structure Bx (w : World) (B b : Nat) (T : TypeId) (cs : List Value) : Prop where
 base : B <= b
 obj : w.heap[b]? = some (.cells cs.toArray T (0, 0))
 one : allOne cs = true
abbrev bv (b : Nat) : Value := .slice (some ⟨b, 0, none⟩) 1 1
section bx
variable {w w' : World} {B b : Nat} {T : TypeId} {cs : List Value}
theorem Bx.hi (H : Bx w B b T cs) : b < w.heap.size := hp_lt (w := w) H.obj
theorem Bx.cells (H : Bx w B b T cs) : CellsAt (hp w) ⟨b, 0, none⟩ cs := ⟨rfl, fun j u hj => by
 unfold cellH hp
 rw [H.obj]
 simpa using hj⟩
end bx
theorem CellsAt.mono {h h' : SH} (hl : LeH h h') {p : Addr} {c : List Value} (H : CellsAt h p c) : CellsAt h' p c := ⟨H.1, fun j u hj => cellH_mono hl (H.2 j u hj)⟩
section mem
variable {P : Program} {tb : Tb} {ops : Array Oper} {Q : Exit -> Act -> World -> Prop} {N : Nat} {L : List (Nat × Value)} {a : Act} {w : World} {rest : List Oper} {o : Oper} {d : Nat}
theorem ext_alloc (w : World) (ob : Obj) : Ext w (w.alloc ob) := (Below.refl _ _).alloc (Nat.le_refl _) _
theorem bx_new (w : World) {T : TypeId} {cs : List Value} (h1 : allOne cs = true) : Bx (w.alloc (.cells cs.toArray T)) w.heap.size w.heap.size T cs := ⟨Nat.le_refl _, heap_alloc_new w _, h1⟩
theorem bx {T : TypeId} {x : Operand} {v : Value} (cs : List Value) (hcs : v.cells = cs.toArray) (h1 : allOne cs = true) {g : Option (Nat × Bool)} {pos : String} {after : Array Edge} {ty : TypeId} (hf : Fr N L a) (hd : Nat.blt d N = true) (hg : grd ops L g = some true) (hx : evO L x = some v)
    (K : ∀ w' a', Bx w' w.heap.size w.heap.size T cs -> Ext w w' -> w.heap.size < w'.heap.size -> Fr N ((d, .pointer (some ⟨w.heap.size, 0, none⟩)) :: er d L) a' -> wpList P ops Q rest a' w') :
    wpList P ops Q ({ dst := some d, op := .box T x, type := ty, pos := pos, after := after, guard := g } :: rest) a w := by
 refine stp hf (v := .pointer (some ⟨w.heap.size, 0, none⟩)) (w' := w.alloc (.cells cs.toArray T)) hg ?_ (K _ _ (bx_new w h1) (ext_alloc w _) (by simp) (hf.put hd _))
 simp only [execOp, evO_ok hf hx, Instr.box, newVar, hcs, newRow, Sem.run_bind, run_newObj_alloc, Result.andThen, Sem.run_pure]
theorem al (htb : TbOk P tb) {T s b : Nat} {zv : Value} (hti : asc tb.info T = some (zv, s, b)) (cs : List Value) (hcs : zv.cells = cs.toArray) (h1 : allOne cs = true) {g : Option (Nat × Bool)} {pos : String} {after : Array Edge} {ty : TypeId} (hf : Fr N L a) (hd : Nat.blt d N = true) (hg : grd ops L g = some true)
    (K : ∀ w' a', Bx w' w.heap.size w.heap.size T cs -> Ext w w' -> w.heap.size < w'.heap.size -> Fr N ((d, .pointer (some ⟨w.heap.size, 0, none⟩)) :: er d L) a' -> wpList P ops Q rest a' w') :
    wpList P ops Q ({ dst := some d, op := .alloc T, type := ty, pos := pos, after := after, guard := g } :: rest) a w := by
 obtain ⟨inf, hinf, hzero, hsize, hby⟩ := htb.i hti
 refine stp hf (v := .pointer (some ⟨w.heap.size, 0, none⟩)) (w' := w.alloc (.cells cs.toArray T)) hg ?_ (K _ _ (bx_new w h1) (ext_alloc w _) (by simp) (hf.put hd _))
 simp only [execOp, Instr.alloc, zeroValue, typeInfo, Sem.run_bind, run_program, Result.andThen, hinf, hzero, Sem.run_pure, newVar, hcs, newRow, run_newObj_alloc]
def subV (tb : Tb) (T : Nat) (cs : List Value) (o : Nat) : Option Value :=
 match asc tb.und T with
 | some d => (match isAg d with
  | true => (match asc tb.info T with
   | some i => (match Nat.ble (o + i.2.1) cs.length with
    | true => some (.agg ((cs.drop o).take i.2.1).toArray)
    | false => none)
   | none => none)
  | false => cs[o]?)
 | none => none
theorem CellsAt.cell {h : SH} (hl : LeH h (hp w)) {b o : Nat} {cs : List Value} (H : CellsAt h ⟨b, o, none⟩ cs) {j : Nat} {u : Value} (hj : cs[j]? = some u) : w.cell? ⟨b, o + j, none⟩ = some u := cellH_cell hl (H.2 j u hj)
theorem isAg_row (d : TypeDesc) : isAg d = d.isRow := by cases d <;> rfl
theorem run_ldC (htb : TbOk P tb) {T : Nat} {h : SH} {b o : Nat} {cs : List Value} (hc : CellsAt h ⟨b, o, none⟩ cs) {w : World} (hl : LeH h (hp w)) {off : Nat} {v : Value} (hv : subV tb T cs off = some v) :
    (Instr.loadAt T (.pointer (some ⟨b, o + off, none⟩))).run P w = .ok v w := by
 unfold subV at hv
 split at hv
 · rename_i d hu
   split at hv
   · rename_i hag
     split at hv
     · rename_i i hi
       split at hv
       · rename_i hle
         simp only [Option.some.injEq] at hv; subst hv
         obtain ⟨z, s, bb⟩ := i
         obtain ⟨inf, hinf, _, hs, _⟩ := htb.i hi
         have hle' : off + s <= cs.length := Nat.le_of_ble_eq_true hle
         refine run_loadAt_mid w b (o + off) T ((cs.drop off).take s) d ?_ (htb.u hu) (by rw [<- isAg_row]; exact hag) ?_
         · intro j u hj
           have hj2 : j < s := by
            rcases Nat.lt_or_ge j s with h' | h'
            · exact h'
            · rw [List.getElem?_take_eq_none h'] at hj; cases hj
           rw [List.getElem?_take_of_lt hj2, List.getElem?_drop] at hj
           have := hc.cell hl hj
           rw [Nat.add_assoc]; exact this
         · rw [hinf, Option.map_some, hs, List.length_take, List.length_drop]; congr 1; omega
       · simp at hv
     · simp at hv
   · rename_i hag
     have h2 := hc.cell hl hv
     unfold Instr.loadAt Instr.sureAddr loadVar isAgg
     simp only [Sem.run_bind, Sem.run_pure, Result.andThen, asc_und htb hu]
     cases d <;> simp [isAg] at hag <;> simp [h2]
 · simp at hv
def spl : List Value -> Nat -> List Value -> List Value
 | cs, _, [] => cs
 | cs, o, u :: us => spl (cs.set o u) (o + 1) us
theorem spl_length : ∀ (us cs : List Value) (o : Nat), (spl cs o us).length = cs.length
 | [], _, _ => rfl
 | u :: us, cs, o => by rw [spl, spl_length us, List.length_set]
theorem setCells_any : ∀ (us : List Value) (cur : Array Value) (o : Nat) {w : World} {b : Nat} {T : TypeId} {fz : Nat × Nat}, w.heap[b]? = some (.cells cur T fz) ->
    (w.setCells b o us).heap[b]? = some (.cells (spl cur.toList o us).toArray T fz) /\ (∀ k, k ≠ b -> (w.setCells b o us).heap[k]? = w.heap[k]?) /\ (w.setCells b o us).heap.size = w.heap.size /\
     (w.setCells b o us).os = w.os /\ (w.setCells b o us).tape = w.tape /\ (w.setCells b o us).output = w.output
 | [], cur, _, _, _, _, _, h => ⟨h, fun _ _ => rfl, rfl, rfl, rfl, rfl⟩
 | u :: us, cur, o, w, b, T, fz, h => by
  have h1 : (w.setCell ⟨b, o, none⟩ u).heap[b]? = some (.cells (cur.setIfInBounds o u) T fz) := by
   simp only [World.setCell, Array.getElem?_modify, if_true, h, Option.map_some]
   simp
  have h2 : ∀ k, k ≠ b -> (w.setCell ⟨b, o, none⟩ u).heap[k]? = w.heap[k]? := by
   intro k hk
   simp only [World.setCell, Array.getElem?_modify, if_neg (Ne.symm hk)]
  obtain ⟨a1, a2, a3, a4, a5, a6⟩ := setCells_any us (cur.setIfInBounds o u) (o + 1) h1
  have hs : (w.setCell ⟨b, o, none⟩ u).heap.size = w.heap.size := by simp [World.setCell]
  refine ⟨?_, fun k hk => (a2 k hk).trans (h2 k hk), a3.trans hs, a4, a5, a6⟩
  rw [Array.toList_setIfInBounds] at a1
  exact a1
theorem setCells_box (us cs : List Value) (o : Nat) {w : World} {b : Nat} {T : TypeId} (h : w.heap[b]? = some (.cells cs.toArray T (0, 0))) :
    (w.setCells b o us).heap[b]? = some (.cells (spl cs o us).toArray T (0, 0)) /\ (∀ k, k ≠ b -> (w.setCells b o us).heap[k]? = w.heap[k]?) /\ (w.setCells b o us).heap.size = w.heap.size /\
     (w.setCells b o us).os = w.os /\ (w.setCells b o us).tape = w.tape /\ (w.setCells b o us).output = w.output := setCells_any us cs.toArray o h
theorem spl_zero : ∀ (us cs : List Value), us.length <= cs.length -> spl cs 0 us = us ++ cs.drop us.length
 | [], cs, _ => rfl
 | u :: us, c :: cs, h => by
  have key : ∀ (us : List Value) (cs : List Value) (c : Value) (o : Nat), spl (c :: cs) (o + 1) us = c :: spl cs o us := by
   intro us
   induction us with
   | nil => intro cs c o; rfl
   | cons v us ih => intro cs c o; simp only [spl, List.set_cons_succ]; exact ih _ _ _
  simp only [spl, List.set_cons_zero]
  rw [key, spl_zero us cs (by simpa using h)]
  rfl
theorem spl_mid : ∀ (l : List Value) (n : Nat) (us : List Value), n + us.length <= l.length -> spl l n us = l.take n ++ (us ++ l.drop (n + us.length))
 | l, 0, us, h => by rw [spl_zero us l (by omega), List.take_zero, List.nil_append, Nat.zero_add]
 | [], n + 1, us, h => by simp at h
 | c :: l, n + 1, us, h => by
  have key : ∀ (us : List Value) (cs : List Value) (c : Value) (o : Nat), spl (c :: cs) (o + 1) us = c :: spl cs o us := by
   intro us
   induction us with
   | nil => intro cs c o; rfl
   | cons v us ih => intro cs c o; simp only [spl, List.set_cons_succ]; exact ih _ _ _
  rw [key, spl_mid l n us (by simp at h; omega), List.take_succ_cons, List.cons_append, show n + 1 + us.length = (n + us.length) + 1 by omega, List.drop_succ_cons]
theorem stB (htb : TbOk P tb) {T s b0 : Nat} {zv : Value} (hti : asc tb.info T = some (zv, s, b0)) {B b : Nat} {T' : TypeId} {cs : List Value} (H : Bx w B b T' cs) (off : Nat) (us cs' : List Value) {x y : Operand} {v : Value} (hus : v.cells = us.toArray) (hn : us.length = s) (h1 : allOne us = true)
    (hle : Nat.ble (off + s) cs.length = true) (hcs : spl cs off us = cs') (h2 : allOne cs' = true) {g : Option (Nat × Bool)} {pos : String} {after : Array Edge} {ty : TypeId} (hf : Fr N L a) (hg : grd ops L g = some true)
    (hx : evO L x = some (.pointer (some ⟨b, off, none⟩))) (hy : evO L y = some v)
    (K : ∀ w' a', Bx w' B b T' cs' -> w.grownBy w' (bv b).ownBlock -> w'.heap.size = w.heap.size -> Fr N L a' -> wpList P ops Q rest a' w') :
    wpList P ops Q ({ dst := none, op := .store T x y, type := ty, pos := pos, after := after, guard := g } :: rest) a w := by
 obtain ⟨inf, hinf, _, hsize, _⟩ := htb.i hti
 have hle' : off + s <= cs.length := Nat.le_of_ble_eq_true hle
 have hcell : ∀ j, j < s -> (w.cell? ⟨b, off + j, none⟩).isSome = true /\ w.frozen? ⟨b, off + j, none⟩ = false := by
  intro j hj
  have h3 : off + j < cs.length := by omega
  constructor
  · have h4 := CellsAt.cell (w := w) (LeH.refl _) H.cells (List.getElem?_eq_getElem h3)
    rw [Nat.zero_add] at h4
    rw [h4]; rfl
  · unfold World.frozen?
    simp [H.obj]
 have hrun : (Instr.storeAt T (.pointer (some ⟨b, off, none⟩)) v).run P w = .ok () (w.setCells b off us) := by
  have h3 := run_storeCells_cells (P := P) b off us 0 w (fun j hj => by simpa using (hcell j (by omega)).1) (fun j hj => by simpa using (hcell j (by omega)).2) (allOne_ok h1)
  simp only [Nat.add_zero] at h3
  unfold Instr.storeAt Instr.sureAddr storeVar
  simp only [Sem.run_bind, Sem.run_pure, Result.andThen, run_sizeOf w hinf, cellsOf_of' hinf hsize, hus]
  simp only [List.size_toArray, hn, ne_eq, not_true_eq_false, if_false, h3]
 obtain ⟨a1, a2, a3, a4, a5, a6⟩ := setCells_box us cs off H.obj
 refine stpS hf (w' := w.setCells b off us) hg ?_ (K _ _ ⟨H.base, by rw [a1, hcs], h2⟩ ⟨a4, a5, a6, Nat.le_of_eq a3.symm, fun k hk hne => a2 k (by simpa [Value.ownBlock] using hne)⟩ a3 (hf.put_none _))
 simp only [execOp, evO_ok hf hx, evO_ok hf hy, Sem.run_bind, hrun, Result.andThen, Sem.run_pure]
end mem
theorem _root_.Go.World.grownBy.rfl0 (w : World) (row : Option Nat) : w.grownBy w row := ⟨rfl, rfl, rfl, Nat.le_refl _, fun _ _ _ => rfl⟩
section arr
variable {P : Program} {tb : Tb} {ops : Array Oper} {Q : Exit -> Act -> World -> Prop} {N : Nat} {L : List (Nat × Value)} {a : Act} {w : World} {rest : List Oper} {o : Oper} {d : Nat}
theorem run_ixA (htb : TbOk P tb) {T e n : Nat} (hu : asc tb.und T = some (.array n e)) {D : TypeDesc} (hue : asc tb.und e = some D) (hD : isAg D = false) {z : Value} {b : Nat} (hti : asc tb.info e = some (z, 1, b)) {α : Type} [Inhabited α] (enc : α -> Value) {xs : List α} (hn : xs.length = n) {k : IntKind} {i : Int} (hb : 0 <= i /\ i < n) (w : World) :
    (Instr.index T (.agg (xs.map enc).toArray) (.int k i)).run P w = .ok (enc (gt xs i)) w := by
 obtain ⟨inf, hinf, _, hs, _⟩ := htb.i hti
 have hlt : i.toNat < xs.length := by omega
 have hp : (part e (xs.map enc).toArray (i.toNat * 1)).run P w = .ok (enc (gt xs i)) w := by
  refine partT_ok htb ?_ w
  unfold partT
  simp only [hue, hD, Nat.mul_one]
  unfold gt
  rw [List.getD_eq_getElem?_getD, List.getElem?_eq_getElem hlt]
  simp [hlt]
 unfold Instr.index asIntOf
 simp only [Sem.run_bind, Sem.run_pure, asc_und htb hu, Result.andThen]
 rw [if_pos hb]
 simp only [Sem.run_bind, run_sizeOf w hinf, cellsOf_of' hinf hs, Result.andThen, hp]
end arr
end Dm

namespace Dm
open Go Go.RowKit
def RA {α : Type} (h F : SH) (t : Ty α) (v : Value) (xs : List α) : Prop :=
 ∃ (ao : Option Addr) (cap : Nat) (cs : List Value), v = .slice ao xs.length cap /\ xs.length <= cap /\ Reps t F xs cs /\
  ∀ j u, cs[j]? = some u -> ∃ b o, ao = some ⟨b, o, none⟩ /\ cellH h b (o + j) = some u
theorem RO.ra {α : Type} {F h : SH} {t : Ty α} {v : Value} {xs : List α} (H : RO F t v xs) (hl : LeH F h) : RA h F t v xs := by
 obtain ⟨ao, cap, cs, h1, h2, h3, h4⟩ := H
 exact ⟨ao, cap, cs, h1, h2, h3, fun j u hj => let ⟨b, o, e1, e2⟩ := h4 j u hj; ⟨b, o, e1, cellH_mono hl e2⟩⟩
theorem RA.shape {α : Type} {F h : SH} {t : Ty α} {v : Value} {xs : List α} (H : RA h F t v xs) : ∃ ao cap, v = .slice ao xs.length cap := let ⟨ao, cap, _, h1, _⟩ := H; ⟨ao, cap, h1⟩
inductive Th : Type 1 where
 | ro {α : Type} (t : Ty α) (v : Value) (xs : List α)
 | row {α : Type} (e : TypeId) (t : Ty α) (v : Value) (xs : List α)
 | box (b : Nat) (T : TypeId) (cs : List Value)
 | cel (b o : Nat) (cs : List Value)
 | srow (e : TypeId) (v : Value) (xs : List Int)
 | mp {κ β : Type} (ek : κ -> Value) (ev : β -> Value) (r : Nat) (kvs : List (κ × β))
 | mq {κ β : Type} (ek : κ -> Value) (ev : β -> Value) (r : Nat) (kvs : List (κ × β))
def Th.blk : Th -> Option Nat
 | .ro .. => none
 | .row _ _ v _ => v.ownBlock
 | .box b _ _ => some b
 | .cel .. => none
 | .srow _ v _ => v.ownBlock
 | .mp _ _ r _ => some r
 | .mq .. => none
def Th.per : Th -> Bool
 | .ro .. => true
 | .row .. => false
 | .box .. => false
 | .cel .. => true
 | .srow .. => false
 | .mp .. => false
 | .mq .. => true
def rowO (e : TypeId) (s : Nat) (v : Value) (n : Nat) (cs : List Value) (o : Option Obj) : Prop :=
 cs.length = n * s /\ ((v = .slice none 0 0 /\ n = 0) \/
  ∃ g cap cur, v = .slice (some ⟨g, 0, none⟩) n cap /\ o = some (.cells cur e (0, 0)) /\ n <= cap /\ cap <= maxLen /\ cur.size = cap * s /\ cur.toList.take (n * s) = cs)
def Th.ok : Th -> Option Obj -> SH -> Prop
 | .ro t v xs, _, F => RO F t v xs
 | .row e t v xs, o, F => ∃ cs, rowO e t.size v xs.length cs o /\ Reps t F xs cs
 | .box _ T cs, o, _ => o = some (.cells cs.toArray T (0, 0)) /\ allOne cs = true
 | .cel b o cs, _, F => CellsAt F ⟨b, o, none⟩ cs
 | .srow e v xs, o, _ => ∃ g cap cur fz, v = .slice (some ⟨g, 0, none⟩) xs.length cap /\ o = some (.cells cur e fz) /\ xs.length <= cap /\ cap <= maxLen /\ cur.size = cap /\ cur.toList.take xs.length = xs.map (Value.int .u8) /\ (fz.2 <= fz.1 \/ cur.size <= fz.1)
 | .mp ek ev _ kvs, o, _ => ∃ es clock, o = some (.map es clock) /\ es.toList.map (fun e => (e.key, e.val)) = kvs.map fun p => (ek p.1, ev p.2)
 | .mq ek ev r kvs, _, F => ∃ es clock, F r = some (.map es clock) /\ es.toList.map (fun e => (e.key, e.val)) = kvs.map fun p => (ek p.1, ev p.2)
def Th.Fl : Th -> Prop
 | .ro .. => False
 | .row _ t _ _ => Flat t
 | .box .. => True
 | .cel .. => False
 | .srow .. => True
 | .mp .. => True
 | .mq .. => False
def Fls : List Th -> Prop
 | [] => True
 | T :: Ts => T.Fl /\ Fls Ts
def Th.lend : Th -> Th
 | .ro t v xs => .ro t v xs
 | .row _ t v xs => .ro t v xs
 | .box b _ cs => .cel b 0 cs
 | .cel b o cs => .cel b o cs
 | .srow _ v xs => .ro (tI .u8) v xs
 | .mp ek ev r kvs => .mq ek ev r kvs
 | .mq ek ev r kvs => .mq ek ev r kvs
def Th.obj (T : Th) (w : World) : Option Obj := T.blk.bind fun k => w.heap[k]?
def blks (Ts : List Th) (k : Nat) : Prop := ∃ (i : Nat) (T : Th), Ts[i]? = some T /\ T.blk = some k
theorem Th.ok_mono {T : Th} {o : Option Obj} {F F' : SH} (hl : LeH F F') (h : T.ok o F) : T.ok o F' := by
 cases T with
 | ro t v xs => exact RO.mono hl h
 | row e t v xs => obtain ⟨cs, h1, h2⟩ := h; exact ⟨cs, h1, h2.mono hl⟩
 | box b T cs => exact h
 | cel b o cs => exact CellsAt.mono hl h
 | srow e v xs => exact h
 | mp ek ev r kvs => exact h
 | mq ek ev r kvs => obtain ⟨es, c, h1, h2⟩ := h; exact ⟨es, c, hl _ _ h1, h2⟩
theorem Th.ok_flat {T : Th} (hf : T.Fl) {o : Option Obj} {F F' : SH} (h : T.ok o F) : T.ok o F' := by
 cases T with
 | ro t v xs => exact hf.elim
 | row e t v xs => obtain ⟨cs, h1, h2⟩ := h; exact ⟨cs, h1, h2.flat hf⟩
 | box b T cs => exact h
 | cel b o cs => exact hf.elim
 | srow e v xs => exact h
 | mp ek ev r kvs => exact h
 | mq ek ev r kvs => exact hf.elim
theorem Th.per_blk {T : Th} (h : T.per = true) : T.blk = none := by cases T <;> first | rfl | cases h
theorem Th.lend_per (T : Th) : T.lend.per = true := by cases T <;> rfl
theorem Fls.get : ∀ {Ts : List Th}, Fls Ts -> ∀ (i : Nat) T, Ts[i]? = some T -> T.Fl
 | [], _, i, T, h => by simp at h
 | U :: Us, hf, 0, T, h => by have : U = T := by simpa using h
                              exact this ▸ hf.1
 | U :: Us, hf, i + 1, T, h => Fls.get hf.2 i T (by simpa using h)
theorem ints_RO {H : SH} {g cap : Nat} {cur : Array Value} {e : TypeId} {fz : Nat × Nat} {xs : List Int} (hH : H g = some (.cells cur e fz)) (hc : xs.length <= cap) (ht : cur.toList.take xs.length = xs.map (Value.int .u8)) : RO H (tI .u8) (.slice (some ⟨g, 0, none⟩) xs.length cap) xs := by
 have hrep : ∀ ys : List Int, Reps (tI .u8) H ys (ys.map (Value.int .u8)) := fun ys => by
  induction ys with
  | nil => exact rfl
  | cons y ys ih => exact ⟨[.int .u8 y], ys.map (Value.int .u8), rfl, rfl, ih⟩
 refine ⟨_, cap, xs.map (Value.int .u8), rfl, hc, hrep xs, fun j u hj => ⟨g, 0, rfl, ?_⟩⟩
 unfold cellH
 rw [hH]
 simp only [Nat.zero_add]
 rw [<- ht] at hj
 have hj2 : j < xs.length := by
  rcases Nat.lt_or_ge j xs.length with h' | h'
  · exact h'
  · rw [List.getElem?_take_eq_none h'] at hj; cases hj
 rw [List.getElem?_take_of_lt hj2] at hj
 simpa using hj
structure Sep (w0 : World) (F0 : SH) (R : Nat -> Prop) (w : World) (F : SH) (Ts : List Th) : Prop where
 os : w.os = w0.os
 tape : w.tape = w0.tape
 output : w.output = w0.output
 size : w0.heap.size <= w.heap.size
 keep : ∀ k, k < w0.heap.size -> ¬ R k -> w.heap[k]? = w0.heap[k]?
 leF : LeH F0 F
 newF : ∀ k, F0 k = none -> F k ≠ none -> w0.heap.size <= k \/ R k
 le : LeH F (hp w)
 ok : ∀ (i : Nat) T, Ts[i]? = some T -> T.ok (T.obj w) F
 out : ∀ (i : Nat) T k, Ts[i]? = some T -> T.blk = some k -> F k = none /\ k < w.heap.size /\ (w0.heap.size <= k \/ R k)
 dj : ∀ (i j : Nat) T U k, i ≠ j -> Ts[i]? = some T -> Ts[j]? = some U -> T.blk = some k -> U.blk = some k -> False
section sep
variable {w0 w w' : World} {F0 F F' : SH} {R : Nat -> Prop} {Ts : List Th}
theorem obj_same {T : Th} (h : ∀ k, T.blk = some k -> w'.heap[k]? = w.heap[k]?) : T.obj w' = T.obj w := by
 unfold Th.obj
 cases e : T.blk with
 | none => rfl
 | some k => exact h k e
theorem Sep.ext (hs : Sep w0 F0 R w F Ts) (hx : Ext w w') : Sep w0 F0 R w' F Ts where
 os := hx.os.trans hs.os
 tape := hx.tape.trans hs.tape
 output := hx.output.trans hs.output
 size := Nat.le_trans hs.size hx.size
 keep := fun k hk hr => (hx.block k (Nat.lt_of_lt_of_le hk hs.size)).trans (hs.keep k hk hr)
 leF := hs.leF
 newF := hs.newF
 le := hs.le.trans hx.le
 ok := fun i T h => by rw [obj_same fun k hk => hx.block k (hs.out i T k h hk).2.1]; exact hs.ok i T h
 out := fun i T k h hk => let ⟨a, b, c⟩ := hs.out i T k h hk; ⟨a, Nat.lt_of_lt_of_le b hx.size, c⟩
 dj := hs.dj
theorem Sep.ex (hs : Sep w0 F0 R w F Ts) (hR : ∀ k, ¬ R k) : Ext w0 w := ⟨hs.os, hs.tape, hs.output, hs.size, fun k hk => hs.keep k hk (hR k)⟩
theorem Sep.cons (hs : Sep w0 F0 R w F Ts) {T : Th} (h : T.ok (T.obj w) F) (ho : ∀ k, T.blk = some k -> F k = none /\ k < w.heap.size /\ (w0.heap.size <= k \/ R k))
    (hd : ∀ (i : Nat) U k, Ts[i]? = some U -> T.blk = some k -> U.blk = some k -> False) : Sep w0 F0 R w F (T :: Ts) :=
 { hs with
   ok := fun i U hU => by
    cases i with
    | zero => have : T = U := by simpa using hU
              subst this; exact h
    | succ i => exact hs.ok i U (by simpa using hU)
   out := fun i U k hU hk => by
    cases i with
    | zero => have : T = U := by simpa using hU
              subst this; exact ho k hk
    | succ i => exact hs.out i U k (by simpa using hU) hk
   dj := fun i j U V k hij hU hV hu hv => by
    cases i with
    | zero =>
     have : T = U := by simpa using hU
     subst this
     cases j with
     | zero => exact hij rfl
     | succ j => exact hd j V k (by simpa using hV) hu hv
    | succ i =>
     cases j with
     | zero =>
      have : T = V := by simpa using hV
      subst this
      exact hd i U k (by simpa using hU) hv hu
     | succ j => exact hs.dj i j U V k (by omega) (by simpa using hU) (by simpa using hV) hu hv }
theorem Sep.addP (hs : Sep w0 F0 R w F Ts) {T : Th} (hp' : T.per = true) (h : T.ok none F) : Sep w0 F0 R w F (T :: Ts) := by
 have hb := Th.per_blk hp'
 exact hs.cons (by unfold Th.obj; rw [hb]; exact h) (fun k hk => by rw [hb] at hk; cases hk) (fun i U k _ hk => by rw [hb] at hk; cases hk)
theorem Sep.addRo (hs : Sep w0 F0 R w F Ts) {α : Type} {t : Ty α} {v : Value} {xs : List α} (h : RO F t v xs) : Sep w0 F0 R w F (.ro t v xs :: Ts) := hs.addP rfl h
theorem Sep.addCel (hs : Sep w0 F0 R w F Ts) {b o : Nat} {cs : List Value} (h : CellsAt F ⟨b, o, none⟩ cs) : Sep w0 F0 R w F (.cel b o cs :: Ts) := hs.addP rfl h
theorem Sep.addNew (hs : Sep w0 F0 R w F Ts) (hx : Ext w w') {T : Th} (h : T.ok (T.obj w') F) (hn : ∀ k, T.blk = some k -> w.heap.size <= k /\ k < w'.heap.size) : Sep w0 F0 R w' F (T :: Ts) :=
 (hs.ext hx).cons h (fun k hk => ⟨LeH_none hs.le (hn k hk).1, (hn k hk).2, .inl (Nat.le_trans hs.size (hn k hk).1)⟩) (fun i U k hU hk hk' => by
  have h1 := (hs.out i U k hU hk').2.1
  have h2 := (hn k hk).1
  omega)
theorem Sep.addNil (hs : Sep w0 F0 R w F Ts) {α : Type} (e : TypeId) (t : Ty α) : Sep w0 F0 R w F (.row e t (.slice none 0 0) [] :: Ts) :=
 hs.addNew (Ext.rfl' w) ⟨[], ⟨by simp, .inl ⟨rfl, rfl⟩⟩, rfl⟩ (fun k hk => by simp [Th.blk, Value.ownBlock] at hk)
theorem own_at {α : Type} {B : Nat} {e : TypeId} {t : Ty α} {v : Value} {xs : List α} (h : Own w B F e t v xs) : (Th.row e t v xs).ok ((Th.row e t v xs).obj w) F := by
 obtain ⟨cs, ⟨h1, h2⟩, h3, _⟩ := h
 refine ⟨cs, ⟨h1, ?_⟩, h3⟩
 rcases h2 with h2 | ⟨g, cap, cur, rfl, _, hh, a, b, c, d⟩
 · exact .inl h2
 · exact .inr ⟨g, cap, cur, rfl, hh, a, b, c, d⟩
theorem at_own {α : Type} {e : TypeId} {t : Ty α} {v : Value} {xs : List α} (h : (Th.row e t v xs).ok ((Th.row e t v xs).obj w) F) (ho : ∀ k, v.ownBlock = some k -> F k = none) : Own w 0 F e t v xs := by
 obtain ⟨cs, ⟨h1, h2⟩, h3⟩ := h
 refine ⟨cs, ⟨h1, ?_⟩, h3, ho⟩
 rcases h2 with h2 | ⟨g, cap, cur, rfl, hh, a, b, c, d⟩
 · exact .inl h2
 · exact .inr ⟨g, cap, cur, rfl, Nat.zero_le _, hh, a, b, c, d⟩
theorem Sep.own (hs : Sep w0 F0 R w F Ts) (i : Nat) {α : Type} {e : TypeId} {t : Ty α} {v : Value} {xs : List α} (h : Ts[i]? = some (.row e t v xs)) : Own w 0 F e t v xs :=
 at_own (hs.ok i _ h) fun k hk => (hs.out i _ k h hk).1
theorem Sep.ro (hs : Sep w0 F0 R w F Ts) (i : Nat) {α : Type} {t : Ty α} {v : Value} {xs : List α} (h : Ts[i]? = some (.ro t v xs)) : RO F t v xs := hs.ok i _ h
theorem Sep.cel (hs : Sep w0 F0 R w F Ts) (i : Nat) {b o : Nat} {cs : List Value} (h : Ts[i]? = some (.cel b o cs)) : CellsAt F ⟨b, o, none⟩ cs := hs.ok i _ h
theorem Sep.bx (hs : Sep w0 F0 R w F Ts) (i : Nat) {b : Nat} {T : TypeId} {cs : List Value} (h : Ts[i]? = some (.box b T cs)) : Bx w 0 b T cs :=
 let h2 := hs.ok i _ h; ⟨Nat.zero_le _, h2.1, h2.2⟩
theorem Own.ra {α : Type} {B : Nat} {e : TypeId} {t : Ty α} {v : Value} {xs : List α} (H : Own w B F e t v xs) : RA (hp w) F t v xs := by
 obtain ⟨cs, ho, hr, hn⟩ := H
 have ho2 := ho
 obtain ⟨h1, h2⟩ := ho2
 rcases h2 with ⟨rfl, h0⟩ | ⟨g, cap, cur, rfl, hg, hh, hc, hm, hs, ht⟩
 · have : xs = [] := List.eq_nil_of_length_eq_zero h0
   subst this
   exact ⟨none, 0, [], rfl, Nat.le_refl _, rfl, fun j u hj => by simp at hj⟩
 · refine ⟨_, cap, cs, rfl, hc, hr, fun j u hj => ⟨g, 0, rfl, ?_⟩⟩
   unfold cellH hp
   rw [hh]
   simp only [Nat.zero_add]
   have hj2 : j < xs.length * t.size := by
    rw [<- h1]
    rcases Nat.lt_or_ge j cs.length with h' | h'
    · exact h'
    · rw [List.getElem?_eq_none h'] at hj; cases hj
   rw [<- ht, List.getElem?_take_of_lt hj2] at hj
   simpa using hj
theorem Sep.raW (hs : Sep w0 F0 R w F Ts) (i : Nat) {α : Type} {e : TypeId} {t : Ty α} {v : Value} {xs : List α} (h : Ts[i]? = some (.row e t v xs)) : RA (hp w) F t v xs := (hs.own i h).ra
theorem Sep.raR (hs : Sep w0 F0 R w F Ts) (i : Nat) {α : Type} {t : Ty α} {v : Value} {xs : List α} (h : Ts[i]? = some (.ro t v xs)) : RA (hp w) F t v xs := (hs.ro i h).ra hs.le
theorem Sep.raS (hs : Sep w0 F0 R w F Ts) (i : Nat) {e : TypeId} {v : Value} {xs : List Int} (h : Ts[i]? = some (.srow e v xs)) : RA (hp w) F (tI .u8) v xs := by
 obtain ⟨g, cap, cur, fz, rfl, ho, hc, _, _, ht, _⟩ := hs.ok i _ h
 have h4 : w.heap[g]? = some (.cells cur e fz) := ho
 obtain ⟨ao, cp, cs, h1, h2, h3, h5⟩ := ints_RO (H := hp w) (cur := cur) (e := e) (fz := fz) h4 hc ht
 exact ⟨ao, cp, cs, h1, h2, h3.flat (flat_I _), h5⟩
theorem Sep.raN {α : Type} (hs : Sep w0 F0 R w F Ts) (t : Ty α) : RA (hp w) F t (.slice none 0 0) [] := (RO.nil F t).ra hs.le
theorem Sep.cbx (hs : Sep w0 F0 R w F Ts) (i : Nat) {b : Nat} {T : TypeId} {cs : List Value} (h : Ts[i]? = some (.box b T cs)) : CellsAt (hp w) ⟨b, 0, none⟩ cs := (hs.bx i h).cells
theorem Sep.ccel (hs : Sep w0 F0 R w F Ts) (i : Nat) {b o : Nat} {cs : List Value} (h : Ts[i]? = some (.cel b o cs)) : CellsAt (hp w) ⟨b, o, none⟩ cs := (hs.cel i h).mono hs.le
theorem get_set {Ts : List Th} {i j : Nat} {T U : Th} (h : (Ts.set i T)[j]? = some U) : (i = j /\ U = T) \/ (i ≠ j /\ Ts[j]? = some U) := by
 rw [List.getElem?_set] at h
 split at h
 · rename_i e
   split at h
   · exact .inl ⟨e, by simpa using h.symm⟩
   · cases h
 · exact .inr ⟨‹_›, h⟩
theorem Sep.upd (hs : Sep w0 F0 R w F Ts) (i : Nat) {T T' : Th} (hT : Ts[i]? = some T) {row : Option Nat} (hrow : row = T.blk) (hg : w.grownBy w' row) (h : T'.ok (T'.obj w') F)
    (hl : ∀ k, T'.blk = some k -> k < w'.heap.size /\ (T.blk = some k \/ w.heap.size <= k)) : Sep w0 F0 R w' F (Ts.set i T') := by
 subst hrow
 have hsame : ∀ (j : Nat) U, j ≠ i -> Ts[j]? = some U -> ∀ k, U.blk = some k -> w'.heap[k]? = w.heap[k]? := fun j U hj hU k hk =>
  hg.block k (hs.out j U k hU hk).2.1 fun e => hs.dj j i U T k hj hU hT hk e.symm
 refine ⟨hg.os.trans hs.os, hg.tape.trans hs.tape, hg.output.trans hs.output, Nat.le_trans hs.size hg.size, fun k hk hr => ?_, hs.leF, hs.newF, fun k o hk => ?_, fun j U hU => ?_, fun j U k hU hk => ?_, fun j l U V k hjl hU hV hu hv => ?_⟩
 · refine (hg.block k (Nat.lt_of_lt_of_le hk hs.size) fun e => ?_).trans (hs.keep k hk hr)
   rcases (hs.out i T k hT e.symm).2.2 with h' | h'
   · omega
   · exact hr h'
 · have h1 := hs.le k o hk
   have : w'.heap[k]? = w.heap[k]? := hg.block k (hp_lt h1) fun e => by rw [(hs.out i T k hT e.symm).1] at hk; cases hk
   exact this.trans h1
 · rcases get_set hU with ⟨_, rfl⟩ | ⟨hij, hU⟩
   · exact h
   · rw [obj_same (hsame j U (Ne.symm hij) hU)]; exact hs.ok j U hU
 · rcases get_set hU with ⟨_, rfl⟩ | ⟨hij, hU⟩
   · obtain ⟨h1, h2⟩ := hl k hk
     rcases h2 with h2 | h2
     · have := hs.out i T k hT h2; exact ⟨this.1, h1, this.2.2⟩
     · exact ⟨LeH_none hs.le h2, h1, .inl (Nat.le_trans hs.size h2)⟩
   · have := hs.out j U k hU hk; exact ⟨this.1, Nat.lt_of_lt_of_le this.2.1 hg.size, this.2.2⟩
 · have key : ∀ (m : Nat) (W : Th), m ≠ i -> Ts[m]? = some W -> W.blk = some k -> T'.blk = some k -> False := fun m W hm hW hw ht => by
    rcases (hl k ht).2 with h2 | h2
    · exact hs.dj m i W T k hm hW hT hw h2
    · have := (hs.out m W k hW hw).2.1; omega
   rcases get_set hU with ⟨e1, rfl⟩ | ⟨h1, hU'⟩
   · rcases get_set hV with ⟨e2, rfl⟩ | ⟨h2, hV'⟩
     · exact hjl (e1.symm.trans e2)
     · exact key l V (Ne.symm h2) hV' hv hu
   · rcases get_set hV with ⟨e2, rfl⟩ | ⟨h2, hV'⟩
     · exact key j U (Ne.symm h1) hU' hu hv
     · exact hs.dj j l U V k hjl hU' hV' hu hv
theorem Sep.updRow (hs : Sep w0 F0 R w F Ts) (i : Nat) {α β : Type} {e e' : TypeId} {t : Ty α} {t' : Ty β} {v v' : Value} {xs : List α} {ys : List β} (hT : Ts[i]? = some (.row e t v xs)) {B : Nat} (ho : Own w' B F e' t' v' ys) (hg : w.grownBy w' v.ownBlock)
    (hl : ∀ k, v'.ownBlock = some k -> v.ownBlock = some k \/ w.heap.size <= k) : Sep w0 F0 R w' F (Ts.set i (.row e' t' v' ys)) :=
 hs.upd i hT rfl hg (own_at ho) fun k hk => ⟨(ho.lt k hk).2, hl k hk⟩
theorem Sep.updBox (hs : Sep w0 F0 R w F Ts) (i : Nat) {b : Nat} {T : TypeId} {cs cs' : List Value} (hT : Ts[i]? = some (.box b T cs)) {B : Nat} (ho : Bx w' B b T cs') (hg : w.grownBy w' (bv b).ownBlock) : Sep w0 F0 R w' F (Ts.set i (.box b T cs')) :=
 hs.upd i hT rfl hg ⟨ho.obj, ho.one⟩ fun k hk => by
  have : b = k := by simpa [Th.blk] using hk
  subst this
  exact ⟨ho.hi, .inl rfl⟩
theorem Sep.newRow (hs : Sep w0 F0 R w F Ts) {α : Type} {e : TypeId} {t : Ty α} {v : Value} {xs : List α} (ho : Own w' w.heap.size F e t v xs) (hx : Ext w w') : Sep w0 F0 R w' F (.row e t v xs :: Ts) :=
 hs.addNew hx (own_at ho) ho.lt
theorem Sep.newBox (hs : Sep w0 F0 R w F Ts) {b : Nat} {T : TypeId} {cs : List Value} (ho : Bx w' w.heap.size b T cs) (hx : Ext w w') : Sep w0 F0 R w' F (.box b T cs :: Ts) :=
 hs.addNew hx ⟨ho.obj, ho.one⟩ fun k hk => by
  have : b = k := by simpa [Th.blk] using hk
  subst this
  exact ⟨ho.base, ho.hi⟩
open Classical in
noncomputable def frzF (F : SH) (w : World) (b : Option Nat) : SH := fun k => if b = some k then hp w k else F k
theorem Sep.frz (hs : Sep w0 F0 R w F Ts) (i : Nat) {T : Th} (hT : Ts[i]? = some T) : ∃ F', LeH F F' /\ Sep w0 F0 R w F' (Ts.set i T.lend) := by
 have hle : LeH F (frzF F w T.blk) := fun k o hk => by
  unfold frzF
  rw [if_neg fun e => by rw [(hs.out i T k hT e).1] at hk; cases hk]; exact hk
 refine ⟨frzF F w T.blk, hle, hs.os, hs.tape, hs.output, hs.size, hs.keep, hs.leF.trans hle, fun k h0 h1 => ?_, fun k o hk => ?_, fun j U hU => ?_, fun j U k hU hk => ?_, fun j l U V k hjl hU hV hu hv => ?_⟩
 · unfold frzF at h1
   split at h1
   · exact (hs.out i T k hT ‹_›).2.2
   · exact hs.newF k h0 h1
 · unfold frzF at hk
   split at hk
   · exact hk
   · exact hs.le k o hk
 · rcases get_set hU with ⟨_, rfl⟩ | ⟨hij, hU⟩
   · have h1 := hs.ok i T hT
     cases T with
     | ro t v xs => exact RO.mono hle h1
     | cel b o cs => exact CellsAt.mono hle h1
     | mq ek ev r kvs => obtain ⟨es, c, h2, h3⟩ := h1; exact ⟨es, c, hle _ _ h2, h3⟩
     | mp ek ev r kvs =>
      obtain ⟨es, c, h2, h3⟩ := h1
      refine ⟨es, c, ?_, h3⟩
      have h4 : w.heap[r]? = some (.map es c) := h2
      unfold frzF
      simp only [Th.blk, if_true, hp, h4]
     | srow e v xs =>
      obtain ⟨g, cap, cur, fz, rfl, ho, hc, _, _, ht, _⟩ := h1
      have h4 : w.heap[g]? = some (.cells cur e fz) := ho
      refine ints_RO (cur := cur) (e := e) (fz := fz) ?_ hc ht
      unfold frzF
      simp only [Th.blk, Value.ownBlock, if_true, hp, h4]
     | box b T cs =>
      refine ⟨rfl, fun j u hj => ?_⟩
      have h2 : w.heap[b]? = some (.cells cs.toArray T (0, 0)) := h1.1
      unfold cellH frzF
      simp only [Th.blk, if_true, hp, h2]
      simpa using hj
     | row e t v xs =>
      obtain ⟨cs, ⟨hl, hr⟩, hrep⟩ := h1
      rcases hr with ⟨rfl, h0⟩ | ⟨g, cap, cur, rfl, hh, hc, hm, hsz, ht⟩
      · have : xs = [] := List.eq_nil_of_length_eq_zero h0
        subst this
        exact RO.nil _ _
      · refine ⟨_, cap, cs, rfl, hc, hrep.mono hle, fun j u hj => ⟨g, 0, rfl, ?_⟩⟩
        have h2 : w.heap[g]? = some (.cells cur e (0, 0)) := hh
        unfold cellH frzF
        simp only [Th.blk, Value.ownBlock, if_true, hp, h2, Nat.zero_add]
        have hj2 : j < xs.length * t.size := by
         rw [<- hl]
         rcases Nat.lt_or_ge j cs.length with h' | h'
         · exact h'
         · rw [List.getElem?_eq_none h'] at hj; cases hj
        rw [<- ht, List.getElem?_take_of_lt hj2] at hj
        simpa using hj
   · exact Th.ok_mono hle (hs.ok j U hU)
 · rcases get_set hU with ⟨_, rfl⟩ | ⟨hij, hU⟩
   · rw [Th.per_blk T.lend_per] at hk; cases hk
   · have h1 := hs.out j U k hU hk
     refine ⟨?_, h1.2⟩
     unfold frzF
     rw [if_neg fun e => hs.dj j i U T k (Ne.symm hij) hU hT hk e]; exact h1.1
 · rcases get_set hU with ⟨_, rfl⟩ | ⟨h1, hU'⟩
   · rw [Th.per_blk T.lend_per] at hu; cases hu
   · rcases get_set hV with ⟨_, rfl⟩ | ⟨h2, hV'⟩
     · rw [Th.per_blk T.lend_per] at hv; cases hv
     · exact hs.dj j l U V k hjl hU' hV' hu hv
def pick (Ts : List Th) : List Nat -> Option (List Th)
 | [] => some []
 | i :: is => match Ts[i]? with
  | none => none
  | some T => match pick Ts is with
   | none => none
   | some r => some (T :: r)
def memB (i : Nat) : List Nat -> Bool
 | [] => false
 | j :: js => match Nat.beq i j with
  | true => true
  | false => memB i js
def perAt (Ts : List Th) (i : Nat) : Bool := match Ts[i]? with
 | some T => T.per
 | none => true
def once (Ts : List Th) : List Nat -> Bool
 | [] => true
 | i :: is => match perAt Ts i with
  | true => once Ts is
  | false => match memB i is with
   | true => false
   | false => once Ts is
def apartB (Ts : List Th) (ir : List Nat) : List Nat -> Bool
 | [] => true
 | i :: is => match perAt Ts i with
  | true => apartB Ts ir is
  | false => match memB i ir with
   | true => false
   | false => apartB Ts ir is
theorem memB_of {i : Nat} : ∀ {l : List Nat} {j : Nat}, l[j]? = some i -> memB i l = true
 | [], j, h => by simp at h
 | x :: xs, 0, h => by
  have : x = i := by simpa using h
  simp [memB, this]
 | x :: xs, j + 1, h => by
  simp only [memB]
  split
  · rfl
  · exact memB_of (j := j) (by simpa using h)
theorem pick_get : ∀ {is : List Nat} {Tp : List Th}, pick Ts is = some Tp -> ∀ (j : Nat) T, Tp[j]? = some T -> ∃ i, is[j]? = some i /\ Ts[i]? = some T
 | [], Tp, h, j, T, hj => by simp only [pick, Option.some.injEq] at h; subst h; simp at hj
 | i :: is, Tp, h, j, T, hj => by
  simp only [pick] at h
  split at h
  · simp at h
  · rename_i U hU
    split at h
    · simp at h
    · rename_i r hr
      simp only [Option.some.injEq] at h; subst h
      cases j with
      | zero => have : U = T := by simpa using hj
                exact ⟨i, rfl, this ▸ hU⟩
      | succ j => obtain ⟨q, h1, h2⟩ := pick_get hr j T (by simpa using hj); exact ⟨q, by simpa using h1, h2⟩
theorem perAt_of {i : Nat} {T : Th} (h : Ts[i]? = some T) : perAt Ts i = T.per := by unfold perAt; rw [h]
theorem once_ok : ∀ {is : List Nat}, once Ts is = true -> ∀ (a b : Nat) i T, a ≠ b -> is[a]? = some i -> is[b]? = some i -> Ts[i]? = some T -> T.per = true
 | [], _, a, b, i, T, _, h, _, _ => by simp at h
 | x :: xs, h, a, b, i, T, hab, ha, hb, hT => by
  simp only [once] at h
  split at h
  · rename_i hp'
    cases a with
    | zero => have : x = i := by simpa using ha
              subst this; rw [<- perAt_of hT]; exact hp'
    | succ a => cases b with
     | zero => have : x = i := by simpa using hb
               subst this; rw [<- perAt_of hT]; exact hp'
     | succ b => exact once_ok h a b i T (by omega) (by simpa using ha) (by simpa using hb) hT
  · split at h
    · cases h
    · rename_i hm
      cases a with
      | zero => cases b with
       | zero => exact absurd rfl hab
       | succ b =>
        have : x = i := by simpa using ha
        subst this
        rw [memB_of (j := b) (by simpa using hb)] at hm; cases hm
      | succ a => cases b with
       | zero =>
        have : x = i := by simpa using hb
        subst this
        rw [memB_of (j := a) (by simpa using ha)] at hm; cases hm
       | succ b => exact once_ok h a b i T (by omega) (by simpa using ha) (by simpa using hb) hT
theorem apartB_ok {ir : List Nat} : ∀ {is : List Nat}, apartB Ts ir is = true -> ∀ (a b : Nat) i T, is[a]? = some i -> ir[b]? = some i -> Ts[i]? = some T -> T.per = true
 | [], _, a, b, i, T, h, _, _ => by simp at h
 | x :: xs, h, a, b, i, T, ha, hb, hT => by
  simp only [apartB] at h
  split at h
  · rename_i hp'
    cases a with
    | zero => have : x = i := by simpa using ha
              subst this; rw [<- perAt_of hT]; exact hp'
    | succ a => exact apartB_ok h a b i T (by simpa using ha) hb hT
  · split at h
    · cases h
    · rename_i hm
      cases a with
      | zero => have : x = i := by simpa using ha
                subst this; rw [memB_of hb] at hm; cases hm
      | succ a => exact apartB_ok h a b i T (by simpa using ha) hb hT
theorem Sep.sel (hs : Sep w0 F0 R w F Ts) (is : List Nat) {Tp : List Th} (h : pick Ts is = some Tp) (ho : once Ts is = true) : Sep w0 F0 R w F Tp :=
 { hs with
   ok := fun j T hj => by obtain ⟨i, _, h2⟩ := pick_get h j T hj; exact hs.ok i T h2
   out := fun j T k hj hk => by obtain ⟨i, _, h2⟩ := pick_get h j T hj; exact hs.out i T k h2 hk
   dj := fun j l T U k hjl hj hl ht hu => by
    obtain ⟨a, a1, a2⟩ := pick_get h j T hj
    obtain ⟨b, b1, b2⟩ := pick_get h l U hl
    by_cases hab : a = b
    · subst hab
      rw [Th.per_blk (once_ok ho j l a T hjl a1 b1 a2)] at ht; cases ht
    · exact hs.dj a b T U k hab a2 b2 ht hu }
theorem Sep.start (w : World) (F : SH) (hF : LeH F (hp w)) : Sep w F (blks []) w F [] where
 os := rfl
 tape := rfl
 output := rfl
 size := Nat.le_refl _
 keep := fun _ _ _ => rfl
 leF := LeH.refl _
 newF := fun k h h' => absurd h h'
 le := hF
 ok := fun i T h => by simp at h
 out := fun i T k h => by simp at h
 dj := fun i j T U k _ h => by simp at h
theorem Sep.enter (hs : Sep w0 F0 R w F Ts) (ip : List Nat) {Tp : List Th} (h : pick Ts ip = some Tp) (ho : once Ts ip = true) : Sep w F (blks Tp) w F Tp :=
 let h1 := hs.sel ip h ho
 { os := rfl, tape := rfl, output := rfl, size := Nat.le_refl _, keep := fun _ _ _ => rfl, leF := LeH.refl _, newF := fun _ h h' => absurd h h', le := hs.le, ok := h1.ok, dj := h1.dj,
   out := fun i T k hT hk => ⟨(h1.out i T k hT hk).1, (h1.out i T k hT hk).2.1, .inr ⟨i, T, hT, hk⟩⟩ }
theorem get_app {As Bs : List Th} {i : Nat} {T : Th} (h : (As ++ Bs)[i]? = some T) : As[i]? = some T \/ (As.length <= i /\ Bs[i - As.length]? = some T) := by
 rcases Nat.lt_or_ge i As.length with h' | h'
 · rw [List.getElem?_append_left h'] at h; exact .inl h
 · rw [List.getElem?_append_right h'] at h; exact .inr ⟨h', h⟩
theorem Sep.join {Tres Tr : List Th} {F1 : SH} (hs : Sep w0 F0 R w F Ts) {S : Nat -> Prop} (hS : ∀ k, S k -> blks Ts k)
    (hos : w'.os = w.os) (htape : w'.tape = w.tape) (hout : w'.output = w.output) (hsz : w.heap.size <= w'.heap.size) (hkeep : ∀ k, k < w.heap.size -> ¬ S k -> w'.heap[k]? = w.heap[k]?)
    (hle1 : LeH F F1) (hnew : ∀ k, F k = none -> F1 k ≠ none -> w.heap.size <= k \/ S k) (hle : LeH F1 (hp w'))
    (hok : ∀ (i : Nat) T, Tres[i]? = some T -> T.ok (T.obj w') F1) (ho : ∀ (i : Nat) T k, Tres[i]? = some T -> T.blk = some k -> F1 k = none /\ k < w'.heap.size /\ (w.heap.size <= k \/ S k))
    (hdj : ∀ (i j : Nat) T U k, i ≠ j -> Tres[i]? = some T -> Tres[j]? = some U -> T.blk = some k -> U.blk = some k -> False)
    (hr : Sep w0 F0 R w F Tr) (hrS : ∀ k, blks Tr k -> ¬ S k) : Sep w0 F0 R w' F1 (Tres ++ Tr) := by
 have hSR : ∀ k, S k -> w0.heap.size <= k \/ R k := fun k hk => by obtain ⟨i, T, h1, h2⟩ := hS k hk; exact (hs.out i T k h1 h2).2.2
 refine ⟨hos.trans hs.os, htape.trans hs.tape, hout.trans hs.output, Nat.le_trans hs.size hsz, fun k hk hR => ?_, hs.leF.trans hle1, fun k h0 h1 => ?_, hle, fun i T hT => ?_, fun i T k hT hk => ?_, fun i j T U k hij hT hU ht hu => ?_⟩
 · refine (hkeep k (Nat.lt_of_lt_of_le hk hs.size) fun hk' => ?_).trans (hs.keep k hk hR)
   rcases hSR k hk' with h | h
   · omega
   · exact hR h
 · by_cases hF : F k = none
   · rcases hnew k hF h1 with h | h
     · exact .inl (Nat.le_trans hs.size h)
     · exact hSR k h
   · exact hs.newF k h0 hF
 · rcases get_app hT with h | ⟨_, h⟩
   · exact hok i T h
   · rw [obj_same fun k hk => hkeep k (hr.out _ T k h hk).2.1 (hrS k ⟨_, T, h, hk⟩)]
     exact Th.ok_mono hle1 (hr.ok _ T h)
 · rcases get_app hT with h | ⟨_, h⟩
   · obtain ⟨h1, h2, h3⟩ := ho i T k h hk
     refine ⟨h1, h2, ?_⟩
     rcases h3 with h3 | h3
     · exact .inl (Nat.le_trans hs.size h3)
     · exact hSR k h3
   · obtain ⟨h1, h2, h3⟩ := hr.out _ T k h hk
     refine ⟨?_, Nat.lt_of_lt_of_le h2 hsz, h3⟩
     cases e : F1 k with
     | none => rfl
     | some o =>
      rcases hnew k h1 (by rw [e]; simp) with h' | h'
      · omega
      · exact absurd h' (hrS k ⟨_, T, h, hk⟩)
 · have cross : ∀ (a b : Nat) (A B : Th), Tres[a]? = some A -> Tr[b]? = some B -> A.blk = some k -> B.blk = some k -> False := fun a b A B hA hB ha hb => by
    rcases (ho a A k hA ha).2.2 with h' | h'
    · have := (hr.out b B k hB hb).2.1; omega
    · exact hrS k ⟨b, B, hB, hb⟩ h'
   rcases get_app hT with h | ⟨e1, h⟩
   · rcases get_app hU with h' | ⟨_, h'⟩
     · exact hdj i j T U k hij h h' ht hu
     · exact cross _ _ T U h h' ht hu
   · rcases get_app hU with h' | ⟨e2, h'⟩
     · exact cross _ _ U T h' h hu ht
     · exact hr.dj _ _ T U k (by omega) h h' ht hu
theorem blks_pick {is : List Nat} {Tp : List Th} (h : pick Ts is = some Tp) {k : Nat} (hk : blks Tp k) : blks Ts k := by
 obtain ⟨j, T, h1, h2⟩ := hk
 obtain ⟨i, _, h3⟩ := pick_get h j T h1
 exact ⟨i, T, h3, h2⟩
theorem blks_apart (hs : Sep w0 F0 R w F Ts) {ip ir : List Nat} {Tp Tr : List Th} (h1 : pick Ts ip = some Tp) (h2 : pick Ts ir = some Tr) (ha : apartB Ts ir ip = true) : ∀ k, blks Tr k -> ¬ blks Tp k := by
 rintro k ⟨b, U, hb, hu⟩ ⟨a, T, hA, ht⟩
 obtain ⟨i, i1, i2⟩ := pick_get h1 a T hA
 obtain ⟨j, j1, j2⟩ := pick_get h2 b U hb
 by_cases hij : i = j
 · subst hij
   rw [Th.per_blk (apartB_ok ha a b i T i1 j1 i2)] at ht; cases ht
 · exact hs.dj i j T U k hij i2 j2 ht hu
theorem Sep.back (hs : Sep w0 F0 R w F Ts) (ip ir : List Nat) {Tp Tr Tres : List Th} {F1 : SH} (h1 : pick Ts ip = some Tp) (h2 : pick Ts ir = some Tr) (ha : apartB Ts ir ip = true) (ho : once Ts ir = true)
    (hc : Sep w F (blks Tp) w' F1 Tres) : Sep w0 F0 R w' F1 (Tres ++ Tr) :=
 hs.join (fun _ hk => blks_pick h1 hk) hc.os hc.tape hc.output hc.size hc.keep hc.leF hc.newF hc.le hc.ok hc.out hc.dj (hs.sel ir h2 ho) (blks_apart hs h1 h2 ha)
open Classical in
noncomputable def lendF (w : World) (Tp : List Th) : SH := fun k => if blks Tp k then none else hp w k
theorem lend_ok {T : Th} {H : SH} (hF : LeH F H) (hb : ∀ k, T.blk = some k -> H k = w.heap[k]?) (h : T.ok (T.obj w) F) : T.lend.ok none H := by
 cases T with
 | ro t v xs => exact RO.mono hF h
 | cel b o cs => exact CellsAt.mono hF h
 | mq ek ev r kvs => obtain ⟨es, c, h2, h3⟩ := h; exact ⟨es, c, hF _ _ h2, h3⟩
 | mp ek ev r kvs =>
  obtain ⟨es, c, h2, h3⟩ := h
  refine ⟨es, c, ?_, h3⟩
  have h4 : w.heap[r]? = some (.map es c) := h2
  rw [hb r rfl, h4]
 | srow e v xs =>
  obtain ⟨g, cap, cur, fz, rfl, ho, hc, _, _, ht, _⟩ := h
  have h4 : w.heap[g]? = some (.cells cur e fz) := ho
  refine ints_RO (cur := cur) (e := e) (fz := fz) ?_ hc ht
  rw [hb g rfl, h4]
 | box b T cs =>
  refine ⟨rfl, fun j u hj => ?_⟩
  have h2 : w.heap[b]? = some (.cells cs.toArray T (0, 0)) := h.1
  unfold cellH
  rw [hb b rfl, h2]
  simpa using hj
 | row e t v xs =>
  obtain ⟨cs, ⟨hl, hr⟩, hrep⟩ := h
  rcases hr with ⟨rfl, h0⟩ | ⟨g, cap, cur, rfl, hh, hc, hm, hsz, ht⟩
  · have : xs = [] := List.eq_nil_of_length_eq_zero h0
    subst this
    exact RO.nil _ _
  · refine ⟨_, cap, cs, rfl, hc, hrep.mono hF, fun j u hj => ⟨g, 0, rfl, ?_⟩⟩
    have h2 : w.heap[g]? = some (.cells cur e (0, 0)) := hh
    unfold cellH
    rw [hb g rfl, h2, Nat.zero_add]
    have hj2 : j < xs.length * t.size := by
     rw [<- hl]
     rcases Nat.lt_or_ge j cs.length with h' | h'
     · exact h'
     · rw [List.getElem?_eq_none h'] at hj; cases hj
    rw [<- ht, List.getElem?_take_of_lt hj2] at hj
    simpa using hj
theorem LeH_lend (hs : Sep w0 F0 R w F Ts) {ip : List Nat} {Tp : List Th} (h1 : pick Ts ip = some Tp) : LeH F (lendF w Tp) := fun k o hk => by
 unfold lendF
 rw [if_neg]
 · exact hs.le k o hk
 · intro h
   obtain ⟨i, T, a, b⟩ := blks_pick h1 h
   rw [(hs.out i T k a b).1] at hk; cases hk
theorem lend_le (w : World) (Tp : List Th) : LeH (lendF w Tp) (hp w) := fun k o hk => by
 unfold lendF at hk; split at hk
 · cases hk
 · exact hk
theorem Sep.lend (hs : Sep w0 F0 R w F Ts) (il ip : List Nat) {Tl Tp Ta : List Th} (hl : pick Ts il = some Tl) (h1 : pick Ts ip = some Tp) (ha : apartB Ts ip il = true) (ho : once Ts ip = true) (hTa : Tl.map Th.lend ++ Tp = Ta) :
    Sep w (lendF w Tp) (blks Ta) w (lendF w Tp) Ta := by
 subst hTa
 have hp1 := hs.sel ip h1 ho
 have hper : ∀ (j : Nat) T, (Tl.map Th.lend)[j]? = some T -> T.blk = none := fun j T h => by
  rw [List.getElem?_map] at h
  cases e : Tl[j]? with
  | none => rw [e] at h; cases h
  | some U => rw [e] at h; simp only [Option.map_some, Option.some.injEq] at h; subst h; exact Th.per_blk U.lend_per
 have hlenb : ∀ k, blks Tl k -> ¬ blks Tp k := fun k hk hk' => by
  obtain ⟨b, U, hb, hu⟩ := hk
  obtain ⟨a, T, hA, ht⟩ := hk'
  obtain ⟨i, i1, i2⟩ := pick_get h1 a T hA
  obtain ⟨j, j1, j2⟩ := pick_get hl b U hb
  by_cases hij : i = j
  · subst hij
    rw [Th.per_blk (apartB_ok ha b a i U j1 i1 j2)] at hu; cases hu
  · exact hs.dj i j T U k hij i2 j2 ht hu
 refine ⟨rfl, rfl, rfl, Nat.le_refl _, fun _ _ _ => rfl, LeH.refl _, fun k h h' => absurd h h', lend_le w Tp, fun i T hT => ?_, fun i T k hT hk => ?_, fun i j T U k hij hT hU ht hu => ?_⟩
 · rcases get_app hT with h | ⟨_, h⟩
   · have hb := hper i T h
     have ho : T.obj w = none := by unfold Th.obj; rw [hb]; rfl
     rw [ho]
     rw [List.getElem?_map] at h
     cases e : Tl[i]? with
     | none => rw [e] at h; cases h
     | some U =>
      rw [e] at h; simp only [Option.map_some, Option.some.injEq] at h; subst h
      obtain ⟨q, _, hq⟩ := pick_get hl i U e
      refine lend_ok (LeH_lend hs h1) (fun k hk => ?_) (hs.ok q U hq)
      unfold lendF
      rw [if_neg (hlenb k ⟨i, U, e, hk⟩)]; rfl
   · exact Th.ok_mono (LeH_lend hs h1) (hp1.ok _ T h)
 · rcases get_app hT with h | ⟨_, h⟩
   · rw [hper i T h] at hk; cases hk
   · refine ⟨?_, (hp1.out _ T k h hk).2.1, .inr ⟨i, T, hT, hk⟩⟩
     unfold lendF
     rw [if_pos ⟨_, T, h, hk⟩]
 · rcases get_app hT with h | ⟨e1, h⟩
   · rw [hper i T h] at ht; cases ht
   · rcases get_app hU with h' | ⟨e2, h'⟩
     · rw [hper j U h'] at hu; cases hu
     · exact hp1.dj _ _ T U k (by omega) h h' ht hu
theorem blks_lend {Tl Tp : List Th} {k : Nat} (h : blks (Tl.map Th.lend ++ Tp) k) : blks Tp k := by
 obtain ⟨i, T, hT, hk⟩ := h
 rcases get_app hT with h | ⟨_, h⟩
 · rw [List.getElem?_map] at h
   cases e : Tl[i]? with
   | none => rw [e] at h; cases h
   | some U => rw [e] at h; simp only [Option.map_some, Option.some.injEq] at h; subst h; rw [Th.per_blk U.lend_per] at hk; cases hk
 · exact ⟨_, T, h, hk⟩
theorem Sep.backL (hs : Sep w0 F0 R w F Ts) (il ip ir : List Nat) {Tl Tp Ta Tr Tres : List Th} {F1 : SH} (_hl : pick Ts il = some Tl) (h1 : pick Ts ip = some Tp) (hTa : Tl.map Th.lend ++ Tp = Ta) (h2 : pick Ts ir = some Tr) (ha : apartB Ts ir ip = true) (ho : once Ts ir = true)
    (hc : Sep w (lendF w Tp) (blks Ta) w' F1 Tres) (hfl : Fls Tres) : Sep w0 F0 R w' F (Tres ++ Tr) := by
 subst hTa
 have hb : ∀ k, ¬ blks Tp k -> ¬ blks (Tl.map Th.lend ++ Tp) k := fun k h h' => h (blks_lend h')
 have hout : ∀ (i : Nat) T k, Tres[i]? = some T -> T.blk = some k -> F k = none /\ k < w'.heap.size /\ (w.heap.size <= k \/ blks Tp k) := fun i T k hT hk => by
  obtain ⟨_, h4, h5⟩ := hc.out i T k hT hk
  have h6 : w.heap.size <= k \/ blks Tp k := h5.imp id blks_lend
  refine ⟨?_, h4, h6⟩
  rcases h6 with h6 | h6
  · exact LeH_none hs.le h6
  · obtain ⟨j, U, a, b⟩ := blks_pick h1 h6
    exact (hs.out j U k a b).1
 refine hs.join (S := blks Tp) (fun k hk => blks_pick h1 hk) hc.os hc.tape hc.output hc.size (fun k hk h => hc.keep k hk (hb k h)) (LeH.refl _) (fun k h h' => absurd h h') (fun k o hk => ?_) (fun i T hT => Th.ok_flat (hfl.get i T hT) (hc.ok i T hT)) hout hc.dj (hs.sel ir h2 ho) (blks_apart hs h1 h2 ha)
 have h3 := hs.le k o hk
 have h4 : ¬ blks Tp k := fun h => by
  obtain ⟨j, U, a, b⟩ := blks_pick h1 h
  rw [(hs.out j U k a b).1] at hk; cases hk
 exact (hc.keep k (hp_lt h3) (hb k h4)).trans h3
def pers : List Th -> Bool
 | [] => true
 | T :: Ts => match T.per with
  | true => pers Ts
  | false => false
theorem pers_blks : ∀ {Ts : List Th}, pers Ts = true -> ∀ k, ¬ blks Ts k
 | [], _, k, ⟨i, T, h, _⟩ => by simp at h
 | T :: Ts, hp', k, ⟨i, U, h, hk⟩ => by
  simp only [pers] at hp'
  split at hp'
  · rename_i e
    cases i with
    | zero => have : T = U := by simpa using h
              subst this; rw [Th.per_blk e] at hk; cases hk
    | succ i => exact pers_blks hp' k ⟨i, U, by simpa using h, hk⟩
  · cases hp'
open Classical in
variable {wr wf : World}
end sep
end Dm

namespace Dm
open Go Go.RowKit
section rul
variable {P : Program} {tb : Tb} {ops : Array Oper} {Q : Exit -> Act -> World -> Prop} {N : Nat} {L : List (Nat × Value)} {a : Act} {w : World} {rest : List Oper} {o : Oper} {d : Nat}
theorem RA.at {α : Type} {t : Ty α} {h F : SH} {v : Value} {xs : List α} (hs : 0 < t.size) (H : RA h F t v xs) {i : Nat} {x : α} (hx : xs[i]? = some x) :
    ∃ b o cap, v = .slice (some ⟨b, o, none⟩) xs.length cap /\ ∃ c, CellsAt h ⟨b, o + i * t.size, none⟩ c /\ t.rep F x c := by
 obtain ⟨ao, cap, cs, h1, h2, h3, h4⟩ := H
 have hr := Reps.at i h3 hx
 have hlen := h3.length
 have hi : i < xs.length := by
  rcases Nat.lt_or_ge i xs.length with h' | h'
  · exact h'
  · rw [List.getElem?_eq_none h'] at hx; cases hx
 have hpos : i * t.size < cs.length := by rw [hlen]; exact Nat.mul_lt_mul_of_pos_right hi hs
 obtain ⟨b, o, e1, _⟩ := h4 (i * t.size) _ (List.getElem?_eq_getElem hpos)
 subst e1
 refine ⟨b, o, cap, h1, _, ⟨rfl, fun j u hj => ?_⟩, hr⟩
 have hj2 : j < t.size := by
  rcases Nat.lt_or_ge j t.size with h' | h'
  · exact h'
  · rw [List.getElem?_take_eq_none h'] at hj; cases hj
 rw [List.getElem?_take_of_lt hj2, List.getElem?_drop] at hj
 obtain ⟨b', o', e1, e2⟩ := h4 _ _ hj
 simp only [Option.some.injEq, Addr.mk.injEq] at e1
 obtain ⟨rfl, rfl, _⟩ := e1
 simpa [Nat.add_assoc] using e2
theorem run_apR (htb : TbOk P tb) {T e s b : Nat} {zv : Value} (hu : asc tb.und T = some (.slice e)) (hti : asc tb.info e = some (zv, s, b)) (hs : 0 < s) (hz : zv.cells.size = s) (hb1 : 0 < b) {α : Type} {t : Ty α} (ht : t.size = s) {h : SH} {B : Nat} {v : Value} {xs ys : List α} {ao : Option Addr} {cap n : Nat}
    (hown : Own w B h e t v xs) (hB : B <= w.heap.size) (hh : LeH h (hp w)) (hro : RA (hp w) h t (.slice ao n cap) ys) (hbd : (xs.length + ys.length) * b <= 140737488355328) (ty : TypeId) :
    ∃ v' w', (Builtin.append_ #[T, T] ty #[v, .slice ao n cap]).run P w = .ok v' w' /\ Own w' B h e t v' (xs ++ ys) /\ w.grownBy w' v.ownBlock /\ (∀ k, v'.ownBlock = some k -> v.ownBlock = some k \/ w.heap.size <= k) := by
 obtain ⟨inf, hinf, hzero, hsz, hby⟩ := htb.i hti
 obtain ⟨cs, hor, hr, hn⟩ := hown
 obtain ⟨ao', cap', ds, e1, hc2, hr2, hcell⟩ := hro
 simp only [Value.slice.injEq] at e1
 obtain ⟨rfl, rfl, rfl⟩ := e1
 have hlen := hr2.length
 cases ao with
 | none =>
  have hds : ds = [] := by
   cases ds with
   | nil => rfl
   | cons u r => obtain ⟨_, _, h1, _⟩ := hcell 0 u rfl; cases h1
  have hys : ys = [] := by
   rw [hds, ht] at hlen
   have : ys.length = 0 := by
    rcases Nat.eq_zero_or_pos ys.length with h' | h'
    · exact h'
    · have := Nat.mul_pos h' hs; simp at hlen; omega
   exact List.eq_nil_of_length_eq_zero this
  subst hys
  refine ⟨v, w, ?_, ⟨cs, by simpa using hor, by simpa using hr, hn⟩, ⟨rfl, rfl, rfl, Nat.le_refl _, fun _ _ _ => rfl⟩, fun k hk => .inl hk⟩
  have hu' := htb.u hu
  rcases hor.2 with ⟨rfl, h0⟩ | ⟨g, cp, cur, rfl, _, _, hcp, _⟩
  · simp [Builtin.append_, run_underlying hu', Go.sizeOf, typeInfo, hinf, Builtin.lenOf, Builtin.firstCells]
  · simp [Builtin.append_, run_underlying hu', Go.sizeOf, typeInfo, hinf, Builtin.lenOf, Builtin.firstCells, hcp, storeCells]
 | some p =>
  have hcells : ∀ (j : Nat) (u : Value), ds[j]? = some u -> w.cell? (p.add j) = some u := by
   intro j u hj
   obtain ⟨bl, o, h1, h2⟩ := hcell j u hj
   simp only [Option.some.injEq] at h1; subst h1
   rw [Addr.add_lit]; exact cellH_cell (LeH.refl _) h2
  have hle : (xs.length + ys.length) <= maxLen := by
   have : (xs.length + ys.length) * 1 <= (xs.length + ys.length) * b := Nat.mul_le_mul_left _ hb1
   unfold maxLen; omega
  obtain ⟨v', w', hrun, hor', hgr, hnil⟩ := run_append_own (P := P) w B T ty e inf zv s b (htb.u hu) hinf hzero hsz hby hz hs v xs.length cs (by rw [ht] at hor; exact hor) p ys.length cap ds (by rw [hlen, ht]) hcells (fun u hu => hr2.one u hu) hle hbd hB
  have hloc : ∀ k, v'.ownBlock = some k -> v.ownBlock = some k \/ w.heap.size <= k := by
   intro k hk
   rcases hor.2 with ⟨rfl, h0⟩ | ⟨g, cp, cur, rfl, _, hg, hcp, _, hcs, _⟩
   · rcases Nat.eq_zero_or_pos ys.length with hm | hm
     · rw [hnil.2 ⟨rfl, hm⟩] at hk; simp [Value.ownBlock] at hk
     · have h1 : xs.length + ys.length = ys.length := by omega
       rw [h1] at hbd hle
       have h2 := run_append_nil (P := P) w T ty e inf zv (htb.u hu) hinf hzero p ys.length cap ds (by rw [hlen, ht, hsz]) hcells hm (by unfold maxLen at hle; omega) (by rw [hby]; omega)
       rw [hrun] at h2
       simp only [Result.ok.injEq] at h2
       rw [h2.1] at hk; simp only [Value.ownBlock, Option.some.injEq] at hk
       exact .inr (by omega)
   · by_cases hroom : xs.length + ys.length <= cp
     · have h2 := run_append_room (P := P) w T ty e inf (htb.u hu) hinf g xs.length cp cur hg p ys.length cap ds (by rw [hlen, ht, hsz]) hcells (fun u hu => hr2.one u hu) hroom
        (by rw [hlen, hsz, hcs, ht, <- Nat.add_mul]; exact Nat.mul_le_mul_right _ hroom)
       rw [hrun] at h2
       simp only [Result.ok.injEq] at h2
       rw [h2.1] at hk
       exact .inl hk
     · have h2 := run_append_grow (P := P) w T ty e inf zv (htb.u hu) hinf hzero ⟨g, 0, none⟩ xs.length cp cs (by rw [hor.1, ht, hsz]) (hor.cells (g := g) rfl) p ys.length cap ds (by rw [hlen, ht, hsz]) hcells (by omega) (by unfold maxLen at hle; omega) (growslice_fits (by omega) (by rw [hby]; exact hbd))
       rw [hrun] at h2
       simp only [Result.ok.injEq] at h2
       rw [h2.1] at hk; simp only [Value.ownBlock, Option.some.injEq] at hk
       exact .inr (by omega)
  refine ⟨v', w', hrun, ⟨cs ++ ds, ?_, hr.append hr2, fun k hk => ?_⟩, hgr, hloc⟩
  · rw [List.length_append, ht]; exact hor'
  · rcases hloc k hk with h' | h'
    · exact hn k h'
    · exact LeH_none hh h'
theorem apR (htb : TbOk P tb) {T e s b : Nat} {zv : Value} (hu : asc tb.und T = some (.slice e)) (hti : asc tb.info e = some (zv, s, b)) (hs : Nat.blt 0 s = true) (hz : zv.cells.size = s) (hb1 : Nat.blt 0 b = true) {α : Type} {t : Ty α} (ht : t.size = s) {F : SH} {v : Value} {xs ys : List α} {ao : Option Addr} {cap n : Nat}
    (hF : LeH F (hp w)) (hown : Own w 0 F e t v xs) (hro : RA (hp w) F t (.slice ao n cap) ys) (hbd : (xs.length + ys.length) * b <= 140737488355328)
    {x y : Operand} {g : Option (Nat × Bool)} {pos : String} {after : Array Edge} {ty : TypeId} (hf : Fr N L a) (hd : Nat.blt d N = true) (hg : grd ops L g = some true) (hx : evO L x = some v) (hy : evO L y = some (.slice ao n cap))
    (K : ∀ ao' cap' w' a', Own w' 0 F e t (.slice ao' (xs ++ ys).length cap') (xs ++ ys) -> w.grownBy w' v.ownBlock -> (∀ k, (Value.slice ao' (xs ++ ys).length cap').ownBlock = some k -> v.ownBlock = some k \/ w.heap.size <= k) -> Fr N ((d, .slice ao' (xs ++ ys).length cap') :: er d L) a' -> wpList P ops Q rest a' w') :
    wpList P ops Q ({ dst := some d, op := .call { callee := .builtin .append, args := #[x, y], argTypes := #[T, T] }, type := ty, pos := pos, after := after, guard := g } :: rest) a w := by
 obtain ⟨v', w', hrun, hown', hgr, hloc⟩ := run_apR htb hu hti (Nat.le_of_ble_eq_true hs) hz (Nat.le_of_ble_eq_true hb1) ht hown (Nat.zero_le _) hF hro hbd ty
 obtain ⟨ao', cap', e1⟩ := hown'.shape
 subst e1
 refine stp hf (v := .slice ao' (xs ++ ys).length cap') (w' := w') hg ?_ (K ao' cap' w' _ hown' hgr hloc (hf.put hd _))
 refine exec_builtin (A := [x, y]) (vs := [v, .slice ao n cap]) hf (by simp only [evL, hx, hy]) fun consts => ?_
 simp only [builtin, Sem.run_bind, hrun, Result.andThen, Sem.run_pure]
theorem Reps.setE {α : Type} {t : Ty α} {h : SH} {y : α} {c' : List Value} (hy : t.rep h y c') : ∀ {xs : List α} {cs : List Value} (i : Nat), i < xs.length -> Reps t h xs cs -> Reps t h (xs.set i y) (cs.take (i * t.size) ++ (c' ++ cs.drop ((i + 1) * t.size)))
 | [], cs, i, hi, _ => by simp at hi
 | x :: xs, cs, 0, _, ⟨c, r, e, hc, hr⟩ => by
  have h1 := t.len hc
  refine ⟨c', r, ?_, hy, hr⟩
  rw [e, Nat.zero_mul, List.take_zero, List.nil_append, Nat.zero_add, Nat.one_mul, <- h1, List.drop_left]
 | x :: xs, cs, i + 1, hi, ⟨c, r, e, hc, hr⟩ => by
  have h1 := t.len hc
  refine ⟨c, r.take (i * t.size) ++ (c' ++ r.drop ((i + 1) * t.size)), ?_, hc, Reps.setE hy i (by simpa using hi) hr⟩
  have e1 : (i + 1) * t.size = c.length + i * t.size := by rw [h1, Nat.add_mul, Nat.one_mul, Nat.add_comm]
  have e2 : (i + 1 + 1) * t.size = c.length + (i + 1) * t.size := by rw [h1, Nat.add_mul (i + 1), Nat.one_mul, Nat.add_comm]
  rw [e, e2, List.drop_length_add_append, e1, List.take_length_add_append, List.append_assoc]
theorem spl_app (us : List Value) : ∀ (xs ys : List Value) (o : Nat), spl (xs ++ ys) (xs.length + o) us = xs ++ spl ys o us := by
 induction us with
 | nil => intro xs ys o; rfl
 | cons u us ih =>
  intro xs ys o
  simp only [spl]
  rw [List.set_append_right _ _ (by omega), show xs.length + o - xs.length = o by omega, Nat.add_assoc, ih]
theorem spl_left (us : List Value) : ∀ (ys zs : List Value) (o : Nat), o + us.length <= ys.length -> spl (ys ++ zs) o us = spl ys o us ++ zs := by
 induction us with
 | nil => intro ys zs o _; rfl
 | cons u us ih =>
  intro ys zs o h
  simp only [List.length_cons] at h
  simp only [spl]
  rw [List.set_append_left _ _ (by omega), ih _ _ _ (by rw [List.length_set]; omega)]
theorem setCells_row : ∀ (us : List Value) (cur : Array Value) (o : Nat) {w : World} {b : Nat} {T : TypeId}, w.heap[b]? = some (.cells cur T (0, 0)) ->
    (w.setCells b o us).heap[b]? = some (.cells (spl cur.toList o us).toArray T (0, 0)) /\ (∀ k, k ≠ b -> (w.setCells b o us).heap[k]? = w.heap[k]?) /\ (w.setCells b o us).heap.size = w.heap.size /\
     (w.setCells b o us).os = w.os /\ (w.setCells b o us).tape = w.tape /\ (w.setCells b o us).output = w.output := fun us cur o w b T h => setCells_box us cur.toList o (by simpa using h)
def OwnF (v : Value) (s : Nat) (n : Int) (off : Nat) (p : Addr) : Prop := ∃ g len cap, v = .slice (some ⟨g, 0, none⟩) len cap /\ p = ⟨g, n.toNat * s + off, none⟩
theorem stW (htb : TbOk P tb) {T s' b : Nat} {zv : Value} (hti : asc tb.info T = some (zv, s', b)) {e : TypeId} {α : Type} [Inhabited α] {t : Ty α} {s : Nat} (ht : t.size = s) {F : SH} {v : Value} {xs : List α} (hown : Own w 0 F e t v xs) {n : Int} (hn : 0 <= n /\ n < xs.length) {pb po : Nat} (off : Nat) (hp' : OwnF v s n 0 ⟨pb, po, none⟩)
    (us : List Value) {z : α} (hz : ∀ c, t.rep F (gt xs n) c -> t.rep F z (spl c off us)) {u : Value} (hus : u.cells = us.toArray) (hul : us.length = s') (h1 : allOne us = true) (hoff : Nat.ble (off + s') s = true)
    {x y : Operand} {g : Option (Nat × Bool)} {pos : String} {after : Array Edge} {ty : TypeId} (hf : Fr N L a) (hg : grd ops L g = some true)
    (hx : evO L x = some (.pointer (some ⟨pb, po + off, none⟩))) (hy : evO L y = some u)
    (K : ∀ w' a', Own w' 0 F e t v (xs.set n.toNat z) -> w.grownBy w' v.ownBlock -> Fr N L a' -> wpList P ops Q rest a' w') :
    wpList P ops Q ({ dst := none, op := .store T x y, type := ty, pos := pos, after := after, guard := g } :: rest) a w := by
 obtain ⟨inf, hinf, hzero, hsize, hby⟩ := htb.i hti
 obtain ⟨gb, len, cap, hv, hpe⟩ := hp'
 simp only [Addr.mk.injEq, and_true] at hpe
 obtain ⟨rfl, rfl⟩ := hpe
 obtain ⟨cs, hor, hr, hnn⟩ := hown
 have hor2 := hor
 obtain ⟨hl0, hor'⟩ := hor2
 have hoff' : off + s' <= s := Nat.le_of_ble_eq_true hoff
 obtain ⟨m, rfl⟩ := Int.eq_ofNat_of_zero_le hn.1
 have hm : m < xs.length := by omega
 simp only [Int.toNat_natCast] at *
 rcases hor' with ⟨e1, h0⟩ | ⟨g2, cp, cur, e1, hB, hh, hc, hmx, hsz, htk⟩
 · omega
 subst hv
 simp only [Value.slice.injEq, Option.some.injEq, Addr.mk.injEq, and_true] at e1
 obtain ⟨rfl, rfl, rfl⟩ := e1
 rw [ht] at hsz htk hl0
 have hms : (m + 1) * s <= xs.length * s := Nat.mul_le_mul_right _ hm
 have hms' : (m + 1) * s = m * s + s := by rw [Nat.add_mul, Nat.one_mul]
 have hxc : xs.length * s <= cap * s := Nat.mul_le_mul_right _ hc
 have hcl : cur.toList.length = cap * s := by rw [Array.length_toList, hsz]
 have hcell : ∀ j, j < s' -> (w.cell? ⟨pb, m * s + off + j, none⟩).isSome = true /\ w.frozen? ⟨pb, m * s + off + j, none⟩ = false := by
  intro j hj
  constructor
  · unfold World.cell?
    have : m * s + off + j < cur.size := by rw [hsz]; omega
    simp [hh, this]
  · unfold World.frozen?
    simp [hh]
 have hrun : (Instr.storeAt T (.pointer (some ⟨pb, m * s + 0 + off, none⟩)) u).run P w = .ok () (w.setCells pb (m * s + off) us) := by
  have h3 := run_storeCells_cells (P := P) pb (m * s + off) us 0 w (fun j hj => by simpa using (hcell j (by omega)).1) (fun j hj => by simpa using (hcell j (by omega)).2) (allOne_ok h1)
  simp only [Nat.add_zero] at h3
  unfold Instr.storeAt Instr.sureAddr storeVar
  simp only [Sem.run_bind, Sem.run_pure, Result.andThen, run_sizeOf w hinf, cellsOf_of' hinf hsize, hus, Nat.add_zero]
  simp only [List.size_toArray, hul, ne_eq, not_true_eq_false, if_false, h3]
 obtain ⟨a1, a2, a3, a4, a5, a6⟩ := setCells_row us cur (m * s + off) hh
 have hgt : xs[m]? = some (gt xs (m : Int)) := by
  have := gt_at (xs := xs) (n := (m : Int)) (by omega) (by omega)
  simpa using this
 have hrm := Reps.at m hr hgt
 rw [ht] at hrm
 have hnew := Reps.setE (hz _ hrm) m hm hr
 rw [ht] at hnew
 have hcut : cs.length = xs.length * s := hl0
 have hmid : ((cs.drop (m * s)).take s).length = s := by rw [List.length_take, List.length_drop]; omega
 have hcs : spl cs (m * s + off) us = cs.take (m * s) ++ (spl ((cs.drop (m * s)).take s) off us ++ cs.drop ((m + 1) * s)) := by
  have e2 : cs = cs.take (m * s) ++ ((cs.drop (m * s)).take s ++ cs.drop ((m + 1) * s)) := by
   have : (cs.drop (m * s)).drop s = cs.drop ((m + 1) * s) := by rw [List.drop_drop, hms']
   rw [<- this, List.take_append_drop, List.take_append_drop]
  have e3 : (cs.take (m * s)).length = m * s := by rw [List.length_take]; omega
  conv => lhs; rw [e2]
  rw [show m * s + off = (cs.take (m * s)).length + off by rw [e3], spl_app, spl_left us _ _ off (by rw [hmid, hul]; exact hoff')]
 refine stpS hf (w' := w.setCells pb (m * s + off) us) hg ?_ (K _ _ ⟨spl cs (m * s + off) us, ⟨?_, .inr ⟨pb, cap, (spl cur.toList (m * s + off) us).toArray, ?_, Nat.zero_le _, a1, ?_, hmx, ?_, ?_⟩⟩, ?_, hnn⟩ ⟨a4, a5, a6, Nat.le_of_eq a3.symm, fun k hk hne => a2 k (by simpa [Value.ownBlock] using hne)⟩ (hf.put_none _))
 · simp only [execOp, evO_ok hf hx, evO_ok hf hy, Sem.run_bind, hrun, Result.andThen, Sem.run_pure]
 · rw [spl_length, List.length_set, hcut, ht]
 · rw [List.length_set]
 · rw [List.length_set]; exact hc
 · rw [List.size_toArray, spl_length, hcl, ht]
 · rw [List.length_set, ht, <- htk]
   have e4 : cur.toList = cur.toList.take (xs.length * s) ++ cur.toList.drop (xs.length * s) := (List.take_append_drop _ _).symm
   have e5 : (cur.toList.take (xs.length * s)).length = xs.length * s := by rw [List.length_take, hcl]; omega
   conv => lhs; arg 2; rw [List.toList_toArray, e4]
   rw [spl_left us _ _ _ (by rw [e5, hul]; omega), List.take_append_of_le_length (by rw [spl_length, e5]; exact Nat.le_refl _), List.take_of_length_le (by rw [spl_length, e5]; exact Nat.le_refl _)]
 · rw [hcs]; exact hnew
theorem b2sR (htb : TbOk P tb) {src dst e : Nat} (h1 : asc tb.und src = some (.slice e)) (h2 : asc tb.und e = some (.int .u8)) (h3 : asc tb.und dst = some .string) {F : SH} {v : Value} {xs : List Int} (hra : RA (hp w) F (tI .u8) v xs)
    {x : Operand} {g : Option (Nat × Bool)} {pos : String} {after : Array Edge} {ty : TypeId} (hf : Fr N L a) (hd : Nat.blt d N = true) (hg : grd ops L g = some true) (hx : evO L x = some v) (K : ∀ a', Fr N ((d, strV (toStr xs)) :: er d L) a' -> wpList P ops Q rest a' w) :
    wpList P ops Q ({ dst := some d, op := .convert src dst x, type := ty, pos := pos, after := after, guard := g } :: rest) a w :=
 b2s htb h1 h2 h3 (hro := by
  obtain ⟨ao, cap, cs, e1, e2, e3, e4⟩ := hra
  exact (⟨ao, cap, cs, e1, e2, e3.flat (flat_I _), e4⟩ : RO (hp w) (tI .u8) v xs)) (LeH.refl _) hf hd hg hx K
theorem bsR (htb : TbOk P tb) {T e s b : Nat} {zv : Value} (hu : asc tb.und T = some (.slice e)) (hti : asc tb.info e = some (zv, s, b)) (hs : Nat.blt 0 s = true) {α : Type} {t : Ty α} {n : Nat} {ps : List (Nat × Operand)} {vs : List (Nat × Value)} {cells : Array Value} (xs : List α) {F : SH} (hF : LeH F (hp w))
    {g : Option (Nat × Bool)} {pos : String} {after : Array Edge} {ty : TypeId} (hf : Fr N L a) (hd : Nat.blt d N = true) (hg : grd ops L g = some true) (hps : evP L ps = some vs) (hsz : Nat.ble (n * s) 16777216 = true) (hc : litCells s n zv vs = some cells)
    (hr : Reps t F xs cells.toList) (hlen : xs.length = n) (K : ∀ w' a', Own w' w.heap.size F e t (.slice (some ⟨w.heap.size, 0, none⟩) xs.length xs.length) xs -> Ext w w' -> Fr N ((d, .slice (some ⟨w.heap.size, 0, none⟩) xs.length xs.length) :: er d L) a' -> wpList P ops Q rest a' w') :
    wpList P ops Q ({ dst := some d, op := .buildSlice T n ps.toArray, type := ty, pos := pos, after := after, guard := g } :: rest) a w := by
 obtain ⟨inf, hinf, hzero, hsize, hby⟩ := htb.i hti
 have hsz' : n * s <= 16777216 := Nat.le_of_ble_eq_true hsz
 have hown := own_new (w := w) (e := e) hr (LeH_none hF (Nat.le_refl _)) (by
  rw [hlen]
  have : n * 1 <= n * s := Nat.mul_le_mul_left _ (Nat.le_of_ble_eq_true hs)
  unfold maxLen; omega)
 refine stp hf (v := .slice (some ⟨w.heap.size, 0, none⟩) xs.length xs.length) (w' := w.alloc (.cells cells e)) hg ?_ (K _ _ hown ((Below.refl _ _).alloc (Nat.le_refl _) _) (hf.put hd _))
 have hparts : ps.toArray.map (fun (p : Nat × Operand) => (p.1, a.eval p.2)) = vs.toArray := by rw [List.map_toArray, evP_ok hf hps]
 have hrun : (Instr.buildSlice T n vs.toArray).run P w = .ok (.slice (some ⟨w.heap.size, 0, none⟩) n n) (w.alloc (.cells cells e)) := by
  unfold Instr.buildSlice
  simp only [Sem.run_bind, asc_und htb hu, Result.andThen, run_sizeOf w hinf, cellsOf_of hinf hsize]
  rw [if_neg (by omega)]
  unfold litCells at hc
  by_cases h0 : n * s = 0
  · have e0 : ∀ f : Nat -> Value, (Array.range 0).map f = #[] := fun f => by simp
    simp only [h0, if_true]
    rw [h0] at hc
    simp only [e0] at hc ⊢
    simp only [hc, newRow, Sem.run_bind, run_newObj_alloc, Result.andThen, Sem.run_pure]
  · simp only [h0, if_false, zeroValue, typeInfo, Sem.run_bind, run_program, Result.andThen, hinf, hzero, Sem.run_pure]
    simp only [hc, newRow, Sem.run_bind, run_newObj_alloc, Result.andThen, Sem.run_pure]
 simp only [execOp, hparts, Sem.run_bind, hrun, Result.andThen, Sem.run_pure, hlen]
theorem made_any {zc : Array Value} (_ : 0 < zc.size) (n : Nat) : (madeCells zc (n * zc.size)).toList = (List.replicate n zc.toList).flatten := by
 induction n with
 | zero => simp [madeCells]
 | succ n ih =>
  rw [List.replicate_succ', List.flatten_append, <- ih]
  unfold madeCells
  simp only [Array.toList_map, Array.toList_range, List.flatten_cons, List.flatten_nil, List.append_nil]
  rw [Nat.add_mul, Nat.one_mul, List.range_add, List.map_append, List.map_map]
  congr 1
  refine List.ext_getElem (by simp) fun i h1 h2 => ?_
  have hi : i < zc.size := by simpa using h2
  simp only [List.getElem_map, List.getElem_range, Function.comp_apply]
  rw [Nat.mul_comm n, Nat.mul_add_mod, Nat.mod_eq_of_lt hi]
  simp [hi]
theorem mkR (htb : TbOk P tb) {T e s b : Nat} {zv : Value} (hu : asc tb.und T = some (.slice e)) (hti : asc tb.info e = some (zv, s, b)) (hs : Nat.blt 0 s = true) (hb1 : Nat.blt 0 b = true) {α : Type} {t : Ty α} (ht : t.size = s) (hzs : zv.cells.size = s) (z : α) {F : SH} (hF : LeH F (hp w)) (hz : t.rep F z zv.cells.toList) {x y : Operand} {k k' : IntKind} {n : Int}
    (hn : 0 <= n /\ n * b <= 281474976710656) {g : Option (Nat × Bool)} {pos : String} {after : Array Edge} {ty : TypeId} (hf : Fr N L a) (hd : Nat.blt d N = true) (hg : grd ops L g = some true) (hx : evO L x = some (.int k n)) (hy : evO L y = some (.int k' n))
    (K : ∀ w' a', Own w' w.heap.size F e t (.slice (some ⟨w.heap.size, 0, none⟩) (List.replicate n.toNat z).length n.toNat) (List.replicate n.toNat z) -> Ext w w' -> Fr N ((d, .slice (some ⟨w.heap.size, 0, none⟩) (List.replicate n.toNat z).length n.toNat) :: er d L) a' -> wpList P ops Q rest a' w') :
    wpList P ops Q ({ dst := some d, op := .makeSlice T x y, type := ty, pos := pos, after := after, guard := g } :: rest) a w := by
 obtain ⟨inf, hinf, hzero, hsize, hby⟩ := htb.i hti
 obtain ⟨m, rfl⟩ := Int.eq_ofNat_of_zero_le hn.1
 have hb1' : 0 < b := Nat.le_of_ble_eq_true hb1
 have hs' : 0 < s := Nat.le_of_ble_eq_true hs
 have h48 : b * m <= 281474976710656 := by
  have h2 := hn.2
  have h3 : ((m * b : Nat) : Int) <= 281474976710656 := by push_cast; exact h2
  rw [Nat.mul_comm]; omega
 have hm : m <= maxLen := by
  have : 1 * m <= b * m := Nat.mul_le_mul_right _ hb1'
  unfold maxLen; omega
 obtain ⟨w', hrun, hor, hgr⟩ := run_make_full (P := P) w w.heap.size T e inf zv s (htb.u hu) hinf hzero hsize k k' m (by rw [hby]; exact h48) hm (Nat.le_refl _)
 have hrl : (List.replicate m z).length = m := List.length_replicate
 have hlt : w.heap.size < w'.heap.size := (hor.lt _ rfl).2
 have hown : Own w' w.heap.size F e t (.slice (some ⟨w.heap.size, 0, none⟩) (List.replicate m z).length m) (List.replicate m z) := by
  rw [hrl]
  refine ⟨(madeCells zv.cells (m * s)).toList, by rw [hrl, ht]; exact hor, ?_, fun k hk => ?_⟩
  · rw [<- hzs, made_any (by omega)]; exact reps_rep hz m
  · simp only [Value.ownBlock, Option.some.injEq] at hk; rw [<- hk]; exact LeH_none hF (Nat.le_refl _)
 refine stp hf (v := .slice (some ⟨w.heap.size, 0, none⟩) m m) (w' := w') hg ?_ ?_
 · simp only [execOp, evO_ok hf hx, evO_ok hf hy, Sem.run_bind, hrun, Result.andThen, Sem.run_pure]
 · refine K w' _ (by simpa using hown) (ext_of_grown hgr) ?_
   simp only [Int.toNat_natCast, hrl]
   exact hf.put hd _
section calls
variable {f : Nat} {A : List Operand} {vs caps : List Value} {T : Value -> World -> Prop} {c : Operand}
theorem exec_callV (hent : Ent P f) (hf : Fr N L a) (hA : evL L A = some vs) (hc : evO L c = some (.func (.func f) #[] caps.toArray)) {dst : Option Tmp} {ty : TypeId} {at_ : Array TypeId} {pos : String} {after : Array Edge} {g : Option (Nat × Bool)} :
    (execOp a.eval { dst := dst, op := .call { callee := .value c, args := A.toArray, argTypes := at_ }, type := ty, pos := pos, after := after, guard := g }).run P w = .ok (.enter f (vs ++ caps).toArray) w := by
 simp only [execOp, resolve, List.map_toArray, evL_ok hf hA, evO_ok hf hc, Deferred.ofValue]
 simp only [Sem.run_bind, Sem.run_pure, Result.andThen, invoke]
 simp only [List.append_toArray, List.nil_append]
 exact run_enter hent _ _
theorem clV (hent : Ent P f) {g : Option (Nat × Bool)} {at_ : Array TypeId} {pos : String} {after : Array Edge} {ty : TypeId} (hf : Fr N L a) (hd : Nat.blt d N = true) (hg : grd ops L g = some true) (hA : evL L A = some vs) (hc : evO L c = some (.func (.func f) #[] caps.toArray))
    (hcall : Calls P f (vs ++ caps).toArray w (Gives T)) (k : ∀ v w' a', T v w' -> Fr N ((d, v) :: er d L) a' -> wpList P ops Q rest a' w') :
    wpList P ops Q ({ dst := some d, op := .call { callee := .value c, args := A.toArray, argTypes := at_ }, type := ty, pos := pos, after := after, guard := g } :: rest) a w := by
 unfold wpList
 rw [if_pos (grd_ok hf hg)]
 refine Or.inl ?_
 unfold Oper.wp
 rw [exec_callV hent hf hA hc]
 simp only [Oper.upon]
 refine hcall.mono fun e w' ⟨v, he, ht⟩ => ?_
 subst he
 exact k v w' _ ht (hf.put hd v)
theorem clVN (hent : Ent P f) {g : Option (Nat × Bool)} {at_ : Array TypeId} {pos : String} {after : Array Edge} {ty : TypeId} (hf : Fr N L a) (hg : grd ops L g = some true) (hA : evL L A = some vs) (hc : evO L c = some (.func (.func f) #[] caps.toArray))
    (hcall : Calls P f (vs ++ caps).toArray w (Gives T)) (k : ∀ v w' a', T v w' -> Fr N L a' -> wpList P ops Q rest a' w') :
    wpList P ops Q ({ dst := none, op := .call { callee := .value c, args := A.toArray, argTypes := at_ }, type := ty, pos := pos, after := after, guard := g } :: rest) a w := by
 unfold wpList
 rw [if_pos (grd_ok hf hg)]
 refine Or.inl ?_
 unfold Oper.wp
 rw [exec_callV hent hf hA hc]
 simp only [Oper.upon]
 refine hcall.mono fun e w' ⟨v, he, ht⟩ => ?_
 subst he
 exact k v w' _ ht (hf.put_none _)
end calls
theorem Gives.mono {e : Ending} {w : World} {T T' : Value -> World -> Prop} (h : ∀ v, T v w -> T' v w) (g : Gives T e w) : Gives T' e w := let ⟨v, a, b⟩ := g; ⟨v, a, h v b⟩
end rul
end Dm

namespace Dm
open Go Go.RowKit
open IntKind (u64 i64 u8 u32)
theorem allOne_map {α : Type} {enc : α -> Value} (h : ∀ x, (enc x).oneCell' = true) : ∀ xs : List α, allOne (List.map enc xs) = true
 | [] => rfl
 | x :: xs => by simp only [List.map_cons, allOne, h x]; exact allOne_map h xs
def tSl {α : Type} (t : Ty α) : Ty (List α) where
 size := 1
 rep := fun F x c => ∃ (ao : Option Addr) (cp : Nat), c = [.slice ao x.length cp] /\ RO F t (.slice ao x.length cp) x
 mono := by
  rintro F F' x c hl ⟨ao, cp, rfl, h⟩
  exact ⟨ao, cp, rfl, h.mono hl⟩
 len := by
  rintro F x c ⟨ao, cp, rfl, _⟩
  rfl
 one := by
  rintro F x c ⟨ao, cp, rfl, _⟩
  exact allOne_ok rfl
section ops
variable {P : Program} {tb : Tb} {ops : Array Oper} {Q : Exit -> Act -> World -> Prop} {N : Nat} {L : List (Nat × Value)} {a : Act} {w : World} {rest : List Oper} {o : Oper} {d : Nat}
theorem ap_core {e s : Nat} (_ : 0 < s) {zc : Array Value} (hzs : zc.size = s) {α : Type} {t : Ty α} (ht : t.size = s) {F : SH} {v : Value} {xs ys : List α} {news : List Value} (hF : LeH F (hp w)) (hown : Own w 0 F e t v xs) (hrep : Reps t F ys news) (hmax : xs.length + ys.length <= maxLen)
    {run : Value -> Result Value} (H0 : ys.length = 0 -> run (.slice none 0 0) = .ok (.slice none 0 0) w)
    (H1 : 0 < ys.length -> run (.slice none 0 0) = .ok (.slice (some ⟨w.heap.size, 0, none⟩) ys.length (grownCap w ys.length 0 e)) (w.drew.alloc (.cells (news.toArray ++ Builtin.zeroCells zc (grownCap w ys.length 0 e - ys.length)) e)))
    (H2 : ∀ g cap cur, w.heap[g]? = some (.cells cur e (0, 0)) -> xs.length + ys.length <= cap -> xs.length * s + news.length <= cur.size ->
     run (.slice (some ⟨g, 0, none⟩) xs.length cap) = .ok (.slice (some ⟨g, 0, none⟩) (xs.length + ys.length) cap) (w.setRow g (cur.toList.take (xs.length * s) ++ news ++ cur.toList.drop (xs.length * s + news.length)).toArray))
    (H3 : ∀ (g cap : Nat) (olds : List Value), olds.length = xs.length * s -> (∀ j u, olds[j]? = some u -> w.cell? ((⟨g, 0, none⟩ : Addr).add j) = some u) -> xs.length <= cap -> cap < xs.length + ys.length ->
     run (.slice (some ⟨g, 0, none⟩) xs.length cap) = .ok (.slice (some ⟨w.heap.size, 0, none⟩) (xs.length + ys.length) (grownCap w (xs.length + ys.length) cap e))
      (w.drew.alloc (.cells (olds.toArray ++ news.toArray ++ Builtin.zeroCells zc (grownCap w (xs.length + ys.length) cap e - (xs.length + ys.length))) e))) :
    ∃ v' w', run v = .ok v' w' /\ Own w' 0 F e t v' (xs ++ ys) /\ w.grownBy w' v.ownBlock /\ (∀ k, v'.ownBlock = some k -> v.ownBlock = some k \/ w.heap.size <= k) := by
 obtain ⟨cs, hor, hr, hn⟩ := hown
 have hnl := hrep.length
 rw [ht] at hnl
 obtain ⟨hl, hor'⟩ := hor
 rw [ht] at hl
 have hlen : (cs ++ news).length = (xs ++ ys).length * s := by rw [List.length_append, hl, hnl, List.length_append, Nat.add_mul]
 have grown : ∀ (cap : Nat) (row : Option Nat),
     Own (w.drew.alloc (.cells (cs.toArray ++ news.toArray ++ Builtin.zeroCells zc (grownCap w (xs.length + ys.length) cap e - (xs.length + ys.length))) e)) 0 F e t
      (.slice (some ⟨w.heap.size, 0, none⟩) (xs.length + ys.length) (grownCap w (xs.length + ys.length) cap e)) (xs ++ ys) /\
     w.grownBy (w.drew.alloc (.cells (cs.toArray ++ news.toArray ++ Builtin.zeroCells zc (grownCap w (xs.length + ys.length) cap e - (xs.length + ys.length))) e)) row := by
  intro cap row
  have hge := grownCap_ge w (xs.length + ys.length) cap e
  have hcm := grownCap_le_maxLen w (xs.length + ys.length) cap e hmax
  refine ⟨⟨cs ++ news, ⟨by rw [ht]; exact hlen, .inr ⟨w.heap.size, _, _, by rw [List.length_append], Nat.zero_le _, heap_alloc_new w.drew _, by rw [List.length_append]; exact hge, hcm, ?_, ?_⟩⟩, hr.append hrep, fun k hk => ?_⟩, ⟨rfl, rfl, rfl, by simp, fun k hk _ => Go.heap_alloc_old w.drew _ hk⟩⟩
  · rw [ht]
    simp only [Array.size_append, List.size_toArray, size_zeroCells, hzs, hl, hnl, <- Nat.add_mul]
    congr 1
    omega
  · simp only [Array.toList_append]
    rw [ht, <- hlen]
    exact List.take_left
  · simp only [Value.ownBlock, Option.some.injEq] at hk
    rw [<- hk]; exact LeH_none hF (Nat.le_refl _)
 rcases hor' with ⟨rfl, h0⟩ | ⟨g, cap, cur, rfl, hbg, hg, hnc, hcm, hcs, htake⟩
 · have hx : xs = [] := List.eq_nil_of_length_eq_zero h0
   subst hx
   have hcs : cs = [] := hr
   subst hcs
   rcases Nat.eq_zero_or_pos ys.length with hy | hy
   · have : ys = [] := List.eq_nil_of_length_eq_zero hy
     subst this
     exact ⟨_, _, H0 rfl, ⟨[], World.ownsRow_nil _ _ _ _, rfl, hn⟩, ⟨rfl, rfl, rfl, Nat.le_refl _, fun _ _ _ => rfl⟩, fun k hk => .inl hk⟩
   · have h := grown 0 (Value.ownBlock (.slice none 0 0))
     simp only [List.length_nil, Nat.zero_add, List.nil_append, Array.empty_append] at h ⊢
     exact ⟨_, _, H1 hy, h.1, h.2, fun k hk => .inr (by simp only [Value.ownBlock, Option.some.injEq] at hk; omega)⟩
 · rw [ht] at hcs htake
   by_cases hroom : xs.length + ys.length <= cap
   · have hfit : xs.length * s + news.length <= cur.size := by rw [hnl, hcs, <- Nat.add_mul]; exact Nat.mul_le_mul_right _ hroom
     refine ⟨_, _, H2 g cap cur hg hroom hfit, ⟨cs ++ news, ⟨by rw [ht]; exact hlen, .inr ⟨g, cap, _, by rw [List.length_append], hbg, setRow_heap w g cur _ e _ hg, by rw [List.length_append]; exact hroom, hcm, ?_, ?_⟩⟩, hr.append hrep, fun k hk => hn k hk⟩,
      ⟨rfl, rfl, rfl, by simp, fun k _ hk => setRow_other w g k _ (fun e => hk (by simp [Value.ownBlock, e]))⟩, fun k hk => .inl hk⟩
     · simp only [List.size_toArray, List.length_append, List.length_take, List.length_drop, Array.length_toList, ht]
       rw [<- hcs]; omega
     · rw [ht, htake, <- hlen]
       exact List.take_left
   · have holds : ∀ j u, cs[j]? = some u -> w.cell? ((⟨g, 0, none⟩ : Addr).add j) = some u := by
      have : w.ownsRow 0 e s (.slice (some ⟨g, 0, none⟩) xs.length cap) xs.length cs := ⟨hl, .inr ⟨g, cap, cur, rfl, hbg, hg, hnc, hcm, hcs, htake⟩⟩
      exact this.cells (g := g) rfl
     have h := grown cap (Value.ownBlock (.slice (some ⟨g, 0, none⟩) xs.length cap))
     exact ⟨_, _, H3 g cap cs hl holds hnc (by omega), h.1, h.2, fun k hk => .inr (by simp only [Value.ownBlock, Option.some.injEq] at hk; omega)⟩
theorem apX {T U e : Nat} {α : Type} {t : Ty α} {F : SH} {v u : Value} {xs ys : List α} (hr : ∀ ty, ∃ v' w', (Builtin.append_ #[T, U] ty #[v, u]).run P w = .ok v' w' /\ Own w' 0 F e t v' (xs ++ ys) /\ w.grownBy w' v.ownBlock /\ (∀ k, v'.ownBlock = some k -> v.ownBlock = some k \/ w.heap.size <= k))
    {x y : Operand} {g : Option (Nat × Bool)} {pos : String} {after : Array Edge} {ty : TypeId} (hf : Fr N L a) (hd : Nat.blt d N = true) (hg : grd ops L g = some true) (hx : evO L x = some v) (hy : evO L y = some u)
    (K : ∀ ao' cap' w' a', Own w' 0 F e t (.slice ao' (xs ++ ys).length cap') (xs ++ ys) -> w.grownBy w' v.ownBlock -> (∀ k, (Value.slice ao' (xs ++ ys).length cap').ownBlock = some k -> v.ownBlock = some k \/ w.heap.size <= k) -> Fr N ((d, .slice ao' (xs ++ ys).length cap') :: er d L) a' -> wpList P ops Q rest a' w') :
    wpList P ops Q ({ dst := some d, op := .call { callee := .builtin .append, args := #[x, y], argTypes := #[T, U] }, type := ty, pos := pos, after := after, guard := g } :: rest) a w := by
 obtain ⟨v', w', hrun, hown', hgr, hloc⟩ := hr ty
 obtain ⟨ao', cap', e1⟩ := hown'.shape
 subst e1
 refine stp hf (v := .slice ao' (xs ++ ys).length cap') (w' := w') hg ?_ (K ao' cap' w' _ hown' hgr hloc (hf.put hd _))
 refine exec_builtin (A := [x, y]) (vs := [v, u]) hf (by simp only [evL, hx, hy]) fun consts => ?_
 simp only [builtin, Sem.run_bind, hrun, Result.andThen, Sem.run_pure]
theorem strCells_of (l : List UInt8) : Lib.strCells ⟨l.toArray⟩ = (ofStr l).map (Value.int .u8) := by
 simp [Lib.strCells, ofStr]
theorem reps_ints {k : IntKind} {F : SH} : ∀ (xs : List Int), Reps (tI k) F xs (xs.map (Value.int k))
 | [] => rfl
 | x :: xs => ⟨[.int k x], xs.map (Value.int k), rfl, rfl, reps_ints xs⟩
theorem apS (htb : TbOk P tb) {T U e : Nat} (hu : asc tb.und T = some (.slice e)) (hs : asc tb.und U = some .string) (hti : asc tb.info e = some (.int .u8 0, 1, 1)) {F : SH} {v : Value} {xs : List Int} {y : List UInt8} (hF : LeH F (hp w)) (hown : Own w 0 F e (tI .u8) v xs) (hbd : xs.length + y.length <= 140737488355328)
    {x yo : Operand} {g : Option (Nat × Bool)} {pos : String} {after : Array Edge} {ty : TypeId} (hf : Fr N L a) (hd : Nat.blt d N = true) (hg : grd ops L g = some true) (hx : evO L x = some v) (hy : evO L yo = some (strV y))
    (K : ∀ ao' cap' w' a', Own w' 0 F e (tI .u8) (.slice ao' (xs ++ ofStr y).length cap') (xs ++ ofStr y) -> w.grownBy w' v.ownBlock -> (∀ k, (Value.slice ao' (xs ++ ofStr y).length cap').ownBlock = some k -> v.ownBlock = some k \/ w.heap.size <= k) -> Fr N ((d, .slice ao' (xs ++ ofStr y).length cap') :: er d L) a' -> wpList P ops Q rest a' w') :
    wpList P ops Q ({ dst := some d, op := .call { callee := .builtin .append, args := #[x, yo], argTypes := #[T, U] }, type := ty, pos := pos, after := after, guard := g } :: rest) a w := by
 obtain ⟨inf, hinf, hzero, hsz, hby⟩ := htb.i hti
 have hn : (⟨y.toArray⟩ : ByteArray).size = y.length := rfl
 have hn2 : (ofStr y).length = y.length := by simp [ofStr]
 refine apX (fun ty => ?_) hf hd hg hx hy K
 refine ap_core (run := fun v => (Builtin.append_ #[T, U] ty #[v, strV y]).run P w) (s := 1) (zc := (Value.int .u8 0).cells) (by omega) rfl rfl hF hown (reps_ints (ofStr y)) (by have := hn2; simp only [maxLen]; omega) (fun h0 => ?_) (fun h0 => ?_) (fun g cap cur hgg hroom hfit => ?_) (fun g cap olds hl holds hnc hc => ?_)
 · have hy0 : y = [] := List.eq_nil_of_length_eq_zero (by rw [<- hn2]; exact h0)
   subst hy0
   rw [show strV [] = .string ByteArray.empty from rfl]
   simp [Builtin.append_, run_underlying (htb.u hu), run_underlying (htb.u hs), Go.sizeOf, typeInfo, hinf, Builtin.lenOf, Builtin.firstCells]
 · rw [hn2] at h0 ⊢
   have hr := run_append_nil_string (P := P) w T U ty e inf (.int .u8 0) (htb.u hu) (htb.u hs) hinf hzero ⟨y.toArray⟩ (by rw [hn]; exact h0) (by rw [hn]; omega) (by rw [hby, hn]; omega)
   rw [hn] at hr
   have e1 : ((⟨y.toArray⟩ : ByteArray).data.map fun b => Value.int .u8 b.toNat) = ((ofStr y).map (Value.int .u8)).toArray := by
    apply Array.ext'
    simp [ofStr]
   rw [e1] at hr
   exact hr
 · rw [hn2] at hroom ⊢
   have hlm : ((ofStr y).map (Value.int .u8)).length = y.length := by rw [List.length_map, hn2]
   have hr := Lib.run_append_room_string (P := P) w T U ty e inf (htb.u hu) (htb.u hs) hinf hsz g xs.length cap cur hgg ⟨y.toArray⟩ (by rw [hn]; exact hroom) (by rw [hn]; rw [hlm] at hfit; omega)
   rw [hn, strCells_of] at hr
   rw [hlm, Nat.mul_one]
   exact hr
 · rw [hn2] at hc ⊢
   have hr := Lib.run_append_grow_string (P := P) w T U ty e inf (.int .u8 0) (htb.u hu) (htb.u hs) hinf hzero ⟨g, 0, none⟩ xs.length cap olds (by rw [hl, hsz]) holds ⟨y.toArray⟩ (by rw [hn]; exact hc) (by rw [hn]; omega) (by rw [hby, hn]; exact growslice_fits (by omega) (by omega))
   rw [hn, strCells_of] at hr
   exact hr
theorem zeroCells_made (zc : Array Value) (n : Nat) : Builtin.zeroCells zc n = madeCells zc (n * zc.size) := rfl
theorem apZ (htb : TbOk P tb) {T U e s b : Nat} {k : IntKind} {zv : Value} (hu : asc tb.und T = some (.slice e)) (hq : asc tb.und U = some (.int k)) (hti : asc tb.info e = some (zv, s, b)) (hs : Nat.blt 0 s = true) (hzs : zv.cells.size = s) (hb1 : Nat.blt 0 b = true) {α : Type} {t : Ty α} (ht : t.size = s) {F : SH} {v : Value} {xs : List α} (hF : LeH F (hp w)) (hown : Own w 0 F e t v xs) {n : Int} (z : α) (hz : t.rep F z zv.cells.toList) (hone : (zv.cells.toList.all Value.oneCell') = true) {kq : IntKind} (hbd : (0 : Int) <= n /\ (xs.length + n.toNat) * b <= 140737488355328)
    {x yo : Operand} {g : Option (Nat × Bool)} {pos : String} {after : Array Edge} {ty : TypeId} (hf : Fr N L a) (hd : Nat.blt d N = true) (hg : grd ops L g = some true) (hx : evO L x = some v) (hy : evO L yo = some (.int kq n))
    (K : ∀ ao' cap' w' a', Own w' 0 F e t (.slice ao' (xs ++ List.replicate n.toNat z).length cap') (xs ++ List.replicate n.toNat z) -> w.grownBy w' v.ownBlock -> (∀ k, (Value.slice ao' (xs ++ List.replicate n.toNat z).length cap').ownBlock = some k -> v.ownBlock = some k \/ w.heap.size <= k) -> Fr N ((d, .slice ao' (xs ++ List.replicate n.toNat z).length cap') :: er d L) a' -> wpList P ops Q rest a' w') :
    wpList P ops Q ({ dst := some d, op := .call { callee := .builtin .append, args := #[x, yo], argTypes := #[T, U] }, type := ty, pos := pos, after := after, guard := g } :: rest) a w := by
 obtain ⟨inf, hinf, hzero, hsz, hby⟩ := htb.i hti
 obtain ⟨m, rfl⟩ := Int.eq_ofNat_of_zero_le hbd.1
 have hs' : 0 < s := Nat.le_of_ble_eq_true hs
 have hb' : 0 < b := Nat.le_of_ble_eq_true hb1
 have hbd2 := hbd.2
 simp only [Int.toNat_natCast] at hbd2 K ⊢
 have hlr : (List.replicate m z).length = m := List.length_replicate
 have hxm : xs.length + m <= (xs.length + m) * b := Nat.le_mul_of_pos_right _ hb'
 have hmb : m * b <= (xs.length + m) * b := Nat.mul_le_mul_right _ (by omega)
 have hzc : (Builtin.zeroCells zv.cells m) = ((List.replicate m zv.cells.toList).flatten).toArray := by
  rw [zeroCells_made]
  apply Array.ext'
  rw [made_any (by omega), List.toList_toArray]
 have hfl : ((List.replicate m zv.cells.toList).flatten).length = m * s := by
  have := (reps_rep hz m).length
  rw [this, hlr, ht]
 refine apX (fun ty => ?_) hf hd hg hx hy K
 refine ap_core (run := fun v => (Builtin.append_ #[T, U] ty #[v, .int kq m]).run P w) hs' hzs ht hF hown (reps_rep hz m) (by rw [hlr]; unfold maxLen; omega) (fun h0 => ?_) (fun h0 => ?_) (fun g cap cur hgg hroom hfit => ?_) (fun g cap olds hl holds hnc hc => ?_)
 · rw [hlr] at h0; subst h0
   have hw : i64.wrap 0 = 0 := by decide
   simp [Builtin.append_, run_underlying (htb.u hu), run_underlying (htb.u hq), Go.sizeOf, typeInfo, hinf, asInt, asIntOf, hw]
 · rw [hlr] at h0 ⊢
   have hr := Lib.run_append_nil_zeros (P := P) w T U ty e inf zv kq k (htb.u hu) (htb.u hq) hinf hzero m h0 (by rw [hsz]; exact hs') (by omega) (by rw [hby]; omega)
   rw [hzc] at hr
   exact hr
 · rw [hlr] at hroom ⊢
   rw [hfl] at hfit ⊢
   have hw : i64.wrap (m : Int) = m := by rw [IntKind.wrap_i64]; omega
   have hneg : ¬ ((m : Int) < 0) := by omega
   have h48i : ¬ (281474976710656 < (m : Int) * (inf.bytes : Int)) := by rw [hby, <- Int.natCast_mul]; omega
   have hst := run_storeCells_at P g (xs.length * s) e ((List.replicate m zv.cells.toList).flatten) 0 cur w hgg (by rw [hfl]; simpa using hfit) (fun u hu => by
    obtain ⟨l, hl, hu⟩ := List.mem_flatten.1 hu
    rw [(List.mem_replicate.1 hl).2] at hu
    exact List.all_eq_true.1 hone u hu)
   simp only [Nat.add_zero, hfl] at hst
   by_cases hm0 : m = 0
   · subst hm0
     have hw0 : i64.wrap 0 = 0 := by decide
     simp only [List.replicate_zero, List.flatten_nil, Nat.zero_mul, Nat.add_zero, List.append_nil] at hst ⊢
     rw [Nat.add_zero] at hroom
     simp [Builtin.append_, run_underlying (htb.u hu), run_underlying (htb.u hq), Go.sizeOf, typeInfo, hinf, hsz, asInt, asIntOf, hw0, hroom, Addr.add_lit, hst]
   · have hns : ¬ (m * s = 0) := Nat.mul_ne_zero hm0 (by omega)
     simp [Builtin.append_, run_underlying (htb.u hu), run_underlying (htb.u hq), Go.sizeOf, typeInfo, zeroValue, hinf, hzero, hsz, asInt, asIntOf, hw, hneg, h48i, hroom, hns, hzc, Addr.add_lit, hst]
 · rw [hlr] at hc ⊢
   by_cases hm0 : m = 0
   · exfalso; omega
   · have hr := Lib.run_append_grow_zeros (P := P) w T U ty e inf zv kq k (htb.u hu) (htb.u hq) hinf hzero (some ⟨g, 0, none⟩) xs.length cap olds
      (run_firstCells_some (P := P) w.drew inf.size xs.length ⟨g, 0, none⟩ xs.length cap olds (by rw [hl, hsz]) (by simpa using holds)) m (by omega) (by rw [hsz]; exact hs') hc (by omega) (by rw [hby]; omega) (by rw [hby]; exact growslice_fits (by omega) hbd2)
     rw [hzc] at hr
     exact hr
theorem run_addS {p q : List UInt8} (h : p.length + q.length <= 9223372036854775807) (t : TypeId) (w : World) : (binOp .add t (strV p) (strV q)).run P w = .ok (strV (p ++ q)) w := by
 simp only [strV, binOp, Op.stringOp]
 have e1 : (⟨p.toArray⟩ : ByteArray).size = p.length := rfl
 have e2 : (⟨q.toArray⟩ : ByteArray).size = q.length := rfl
 have e3 : IntKind.i64.max = 9223372036854775807 := by decide
 rw [if_neg (by rw [e1, e2, e3]; omega)]
 have : (⟨p.toArray⟩ ++ ⟨q.toArray⟩ : ByteArray) = ⟨(p ++ q).toArray⟩ := by
  apply ByteArray.ext
  simp
 rw [this]; rfl
theorem run_ixS (htb : TbOk P tb) {T : Nat} (hu : asc tb.und T = some .string) {p : List UInt8} {k : IntKind} {n : Int} (hn : 0 <= n /\ n < p.length) (w : World) : (Instr.index T (strV p) (.int k n)).run P w = .ok (.int .u8 ((p.getD n.toNat 0).toNat : Int)) w := by
 obtain ⟨m, rfl⟩ := Int.eq_ofNat_of_zero_le hn.1
 have hm : m < p.length := by omega
 have hsz : (⟨p.toArray⟩ : ByteArray).size = p.length := rfl
 have h2 := run_index_string (P := P) w T ⟨p.toArray⟩ k (m : Int) (htb.u hu)
 have hix : (Instr.index T (strV p) (.int k m)) = Instr.index T (.string ⟨p.toArray⟩) (.int k m) := rfl
 rw [hix, h2, dif_pos ⟨by omega, by rw [hsz]; omega⟩]
 have e : (⟨p.toArray⟩ : ByteArray)[(m : Int).toNat]'(by rw [hsz]; omega) = p.getD (m : Int).toNat 0 := by
  show p.toArray[(m : Int).toNat]'_ = _
  simp [hm]
 rw [e]
theorem run_cutS (htb : TbOk P tb) {T : Nat} (hu : asc tb.und T = some .string) {p : List UInt8} {lo hi : Int} (hb : 0 <= lo /\ lo <= hi /\ hi <= p.length) {lv hv : Option Value}
    (h1 : lv = none /\ lo = 0 \/ ∃ k, lv = some (.int k lo)) (h2 : hv = none /\ hi = p.length \/ ∃ k, hv = some (.int k hi)) (w : World) : (Instr.sliceAt T (strV p) lv hv none).run P w = .ok (strV (cutL p lo hi)) w := by
 obtain ⟨b0, b1, b2⟩ := hb
 have hsz : (⟨p.toArray⟩ : ByteArray).size = p.length := rfl
 have hrun : (Instr.sliceBounds false p.length p.length lv hv none).run P w = .ok (lo.toNat, hi.toNat, p.length) w := by
  unfold Instr.sliceBounds
  rcases h2 with ⟨rfl, rfl⟩ | ⟨kh, rfl⟩
  · rcases h1 with ⟨rfl, rfl⟩ | ⟨kl, rfl⟩
    · simp [Sem.run_pure]
    · simp [Result.andThen, run_sliceBound b0 b1]
  · have hh := run_sliceBound (P := P) (k := kh) (i := hi) (y := p.length) (c := .sliceAlen) (by omega) (by omega)
    rcases h1 with ⟨rfl, rfl⟩ | ⟨kl, rfl⟩
    · simp [Result.andThen, hh]
    · have hl := run_sliceBound (P := P) (k := kl) (i := lo) (y := hi.toNat) (c := .sliceB) b0 (by omega)
      simp [Sem.run_bind, Result.andThen, hh, hl]
 have e : (⟨p.toArray⟩ : ByteArray).extract lo.toNat hi.toNat = ⟨(cutL p lo hi).toArray⟩ := by
  apply ByteArray.ext
  apply Array.ext'
  rw [ByteArray.data_extract]
  simp [cutL, List.drop_take]
 unfold Instr.sliceAt Instr.slice
 simp only [strV, Sem.run_bind, asc_und htb hu, Result.andThen, Option.isSome_none, Bool.false_eq_true, if_false, hsz, hrun, e, Sem.run_pure]
end ops
end Dm

namespace Dm
open Go Go.RowKit
theorem Sep.mpO {w0 w : World} {F0 F : SH} {R : Nat -> Prop} {Ts : List Th} (hs : Sep w0 F0 R w F Ts) (i : Nat) {κ β : Type} {ek : κ -> Value} {ev : β -> Value} {r : Nat} {kvs : List (κ × β)} (h : Ts[i]? = some (.mp ek ev r kvs)) :
    ∃ es clock, w.heap[r]? = some (.map es clock) /\ es.toList.map (fun e => (e.key, e.val)) = kvs.map fun p => (ek p.1, ev p.2) := hs.ok i _ h
theorem Sep.newMp {w0 w w' : World} {F0 F : SH} {R : Nat -> Prop} {Ts : List Th} (hs : Sep w0 F0 R w F Ts) {κ β : Type} (ek : κ -> Value) (ev : β -> Value) (hw : w' = w.alloc (.map #[] 0)) (hx : Ext w w') : Sep w0 F0 R w' F (.mp ek ev w.heap.size ([] : List (κ × β)) :: Ts) := by
 subst hw
 refine hs.addNew hx ⟨#[], 0, ?_, rfl⟩ fun k hk => ?_
 · show (w.alloc (.map #[] 0)).heap[w.heap.size]? = _
   exact heap_alloc_new w _
 · simp only [Th.blk, Option.some.injEq] at hk
   subst hk; simp
theorem Sep.updMp {w0 w w' : World} {F0 F : SH} {R : Nat -> Prop} {Ts : List Th} (hs : Sep w0 F0 R w F Ts) (i : Nat) {κ β : Type} {ek : κ -> Value} {ev : β -> Value} {r : Nat} {kvs kvs' : List (κ × β)} (h : Ts[i]? = some (.mp ek ev r kvs)) (hg : w.grownBy w' (some r))
    (ho : ∃ es clock, w'.heap[r]? = some (.map es clock) /\ es.toList.map (fun e => (e.key, e.val)) = kvs'.map fun p => (ek p.1, ev p.2)) : Sep w0 F0 R w' F (Ts.set i (.mp ek ev r kvs')) :=
 hs.upd i h rfl hg ho fun k hk => by
  simp only [Th.blk, Option.some.injEq] at hk
  subst hk
  obtain ⟨es, c, h1, _⟩ := ho
  exact ⟨hp_lt (w := w') h1, .inl rfl⟩
section more
variable {P : Program} {tb : Tb} {ops : Array Oper} {Q : Exit -> Act -> World -> Prop} {N : Nat} {L : List (Nat × Value)} {a : Act} {w : World} {rest : List Oper} {o : Oper} {d : Nat}
theorem mkm {T : Nat} {g : Option (Nat × Bool)} {pos : String} {after : Array Edge} {ty : TypeId} (hf : Fr N L a) (hd : Nat.blt d N = true) (hg : grd ops L g = some true)
    (K : ∀ w' a', w' = w.alloc (.map #[] 0) -> Ext w w' -> Fr N ((d, .map (some w.heap.size)) :: er d L) a' -> wpList P ops Q rest a' w') :
    wpList P ops Q ({ dst := some d, op := .makeMap T none, type := ty, pos := pos, after := after, guard := g } :: rest) a w := by
 refine stp hf (v := .map (some w.heap.size)) (w' := w.alloc (.map #[] 0)) hg ?_ (K _ _ rfl (ext_alloc w _) (hf.put hd _))
 simp only [execOp, Option.map_none, Instr.makeMap, Sem.run_bind, Sem.run_pure, run_newObj_alloc, Result.andThen]
theorem find_get {κ β : Type} [BEq κ] {D : TypeDesc} {ek : κ -> Value} {ev : β -> Value} (heq : ∀ x y, Instr.sameNow D (ek x) (ek y) = some (x == y)) (k : κ) : ∀ (es : List MapEntry) (kvs : List (κ × β)) (i : Nat), es.map (fun e => (e.key, e.val)) = kvs.map (fun p => (ek p.1, ev p.2)) ->
    (mpGet kvs k = none /\ Instr.findNow D (ek k) es i = some none /\ mpPut kvs k = fun v => kvs ++ [(k, v)]) \/
    ∃ j b x, mpGet kvs k = some b /\ Instr.findNow D (ek k) es i = some (some (i + j, ev b)) /\ j < kvs.length /\ (mpPut kvs k = fun v => kvs.set j (k, v)) /\ kvs[j]? = some (x, b) /\ (k == x) = true
 | [], [], i, _ => .inl ⟨rfl, rfl, rfl⟩
 | [], _ :: _, i, h => by simp at h
 | _ :: _, [], i, h => by simp at h
 | e :: es, p :: kvs, i, h => by
  simp only [List.map_cons, List.cons.injEq, Prod.mk.injEq] at h
  obtain ⟨⟨h1, h2⟩, h3⟩ := h
  have hs : Instr.sameNow D (ek k) e.key = some (k == p.1) := by rw [h1]; exact heq _ _
  cases hb : (k == p.1) with
  | true =>
   refine .inr ⟨0, p.2, p.1, by simp [mpGet, hb], ?_, by simp, by funext v; simp [mpPut, hb], by simp, hb⟩
   simp [Instr.findNow, hs, hb, h2]
  | false =>
   rcases find_get heq k es kvs (i + 1) h3 with ⟨a1, a2, a3⟩ | ⟨j, b, x, a1, a2, a3, a4, a5, a6⟩
   · refine .inl ⟨by simp [mpGet, hb, a1], by simp [Instr.findNow, hs, hb, a2], ?_⟩
     funext v; simp [mpPut, hb, a3]
   · refine .inr ⟨j + 1, b, x, by simp [mpGet, hb, a1], ?_, by simpa using a3, ?_, by simpa using a5, a6⟩
     · simp [Instr.findNow, hs, hb, a2]; omega
     · funext v; simp [mpPut, hb, a4]
structure KeyOk {κ : Type} [BEq κ] (P : Program) (kt : TypeId) (ek : κ -> Value) (D : TypeDesc) : Prop where
 und : P.underlying kt = some D
 eq : ∀ x y : κ, Instr.sameNow D (ek x) (ek y) = some (x == y)
 chk : ∀ (x : κ) e n w, (Instr.checkKey e (n + 1) kt (ek x)).run P w = .ok () w
 same : ∀ x y : κ, (x == y) = true -> x = y
 stay : ∀ (x : κ) w, (Instr.keyThatStays (ek x) (ek x)).run P w = .ok (ek x) w
theorem key_str (htb : TbOk P tb) {kt : Nat} (h : asc tb.und kt = some .string) : KeyOk P kt strV .string where
 und := htb.u h
 eq := fun x y => by
  simp only [Instr.sameNow, strV]
  congr 1
  rw [Bool.eq_iff_iff, MapKept.bytes_beq]
  simp
 chk := fun x e n w => MapKept.run_checkKey (k := .string ⟨x.toArray⟩) (htb.u h) (by simp [MapKept.IsKey]) e n
 same := fun x y h => by simpa using h
 stay := fun x w => MapKept.run_keyThatStays (d := .string) (k := .string ⟨x.toArray⟩) (by simp [MapKept.IsKey])
theorem key_int (htb : TbOk P tb) {kt : Nat} {k : IntKind} (h : asc tb.und kt = some (.int k)) : KeyOk P kt (Value.int k) (.int k) where
 und := htb.u h
 eq := fun x y => by simp [Instr.sameNow]
 chk := fun x e n w => MapKept.run_checkKey (k := .int k x) (htb.u h) (by simp [MapKept.IsKey]) e n
 same := fun x y h => by simpa using h
 stay := fun x w => MapKept.run_keyThatStays (d := .int k) (k := .int k x) (by simp [MapKept.IsKey])
theorem run_mget (htb : TbOk P tb) {T kt et : Nat} (hu : asc tb.und T = some (.map kt et)) {κ β : Type} [BEq κ] {ek : κ -> Value} {ev : β -> Value} {D : TypeDesc} (hk : KeyOk P kt ek D) {zv : Value} {zb : β} {s b : Nat} (hti : asc tb.info et = some (zv, s, b)) (hz : zv = ev zb) {r : Nat} {kvs : List (κ × β)}
    (hm : ∃ es clock, w.heap[r]? = some (.map es clock) /\ es.toList.map (fun e => (e.key, e.val)) = kvs.map fun p => (ek p.1, ev p.2)) (k : κ) (ok : Bool) :
    (Instr.lookup T (.map (some r)) (ek k) ok).run P w = .ok (if ok then .tuple #[ev ((mpGet kvs k).getD zb), .bool (mpGet kvs k).isSome] else ev ((mpGet kvs k).getD zb)) w := by
 obtain ⟨es, clock, h1, h2⟩ := hm
 obtain ⟨inf, hinf, hzero, _, _⟩ := htb.i hti
 have hc : ∀ e, (Instr.checkKey e 10000 kt (ek k)).run P w = .ok () w := fun e => hk.chk k e 9999 w
 unfold Instr.lookup
 rcases find_get hk.eq k es.toList kvs 0 h2 with ⟨a1, a2, _⟩ | ⟨j, b, x, a1, a2, _⟩
 · simp only [Sem.run_bind, asc_und htb hu, Result.andThen, Sem.run_pure, MapKept.run_getObj_map h1, hc, MapKept.run_findKey hk.und a2, zeroValue, typeInfo, run_program, hinf, hzero, a1]
   cases ok <;> simp [hz]
 · simp only [Sem.run_bind, asc_und htb hu, Result.andThen, Sem.run_pure, MapKept.run_getObj_map h1, hc, MapKept.run_findKey hk.und a2, a1]
   cases ok <;> simp
theorem mget (htb : TbOk P tb) {T kt et : Nat} (hu : asc tb.und T = some (.map kt et)) {κ β : Type} [BEq κ] {ek : κ -> Value} {ev : β -> Value} {D : TypeDesc} (hk : KeyOk P kt ek D) {zv : Value} {zb : β} {s b : Nat} (hti : asc tb.info et = some (zv, s, b)) (hz : zv = ev zb) {r : Nat} {kvs : List (κ × β)}
    (hm : ∃ es clock, w.heap[r]? = some (.map es clock) /\ es.toList.map (fun e => (e.key, e.val)) = kvs.map fun p => (ek p.1, ev p.2)) (k : κ) {v : Value}
    {x y : Operand} {ok : Bool} (hv : (if ok then .tuple #[ev ((mpGet kvs k).getD zb), .bool (mpGet kvs k).isSome] else ev ((mpGet kvs k).getD zb)) = v) {g : Option (Nat × Bool)} {pos : String} {after : Array Edge} {ty : TypeId} (hf : Fr N L a) (hd : Nat.blt d N = true) (hg : grd ops L g = some true) (hx : evO L x = some (.map (some r))) (hy : evO L y = some (ek k))
    (K : ∀ a', Fr N ((d, v) :: er d L) a' -> wpList P ops Q rest a' w) :
    wpList P ops Q ({ dst := some d, op := .lookup T x y ok, type := ty, pos := pos, after := after, guard := g } :: rest) a w := by
 refine stp hf (v := v) hg ?_ (K _ (hf.put hd _))
 simp only [execOp, evO_ok hf hx, evO_ok hf hy, Sem.run_bind, run_mget htb hu hk hti hz hm k ok, hv, Result.andThen, Sem.run_pure]
theorem run_mput (htb : TbOk P tb) {T kt et : Nat} (hu : asc tb.und T = some (.map kt et)) {κ β : Type} [BEq κ] {ek : κ -> Value} {ev : β -> Value} {D : TypeDesc} (hk : KeyOk P kt ek D) {r : Nat} {kvs : List (κ × β)}
    (hm : ∃ es clock, w.heap[r]? = some (.map es clock) /\ es.toList.map (fun e => (e.key, e.val)) = kvs.map fun p => (ek p.1, ev p.2)) (k : κ) (b : β) :
    ∃ w', (Instr.mapUpdate T (.map (some r)) (ek k) (ev b)).run P w = .ok () w' /\ w.grownBy w' (some r) /\ ∃ es clock, w'.heap[r]? = some (.map es clock) /\ es.toList.map (fun e => (e.key, e.val)) = (mpPut kvs k b).map fun p => (ek p.1, ev p.2) := by
 obtain ⟨es, clock, h1, h2⟩ := hm
 have hc : ∀ e, (Instr.checkKey e 10000 kt (ek k)).run P w = .ok () w := fun e => hk.chk k e 9999 w
 have hset : ∀ o' : Obj, w.grownBy { w with heap := w.heap.setIfInBounds r o' } (some r) /\ ({ w with heap := w.heap.setIfInBounds r o' } : World).heap[r]? = some o' := fun o' => by
  have := MapKept.heap_set (o' := o') h1
  exact ⟨⟨rfl, rfl, rfl, by simp, fun q _ hq => this.2 q fun e => hq (by rw [e])⟩, this.1⟩
 unfold Instr.mapUpdate
 rcases find_get hk.eq k es.toList kvs 0 h2 with ⟨a1, a2, a3⟩ | ⟨j, b', x, a1, a2, a3, a4, a5, a6⟩
 · refine ⟨_, by simp only [Sem.run_bind, asc_und htb hu, Result.andThen, MapKept.run_getObj_map h1, hc, MapKept.run_findKey hk.und a2, MapKept.run_setObj_map _ h1]; rfl, (hset _).1, _, _, (hset _).2, ?_⟩
   rw [a3]; simp [h2]
 · have hx : k = x := hk.same _ _ a6
   subst hx
   have he : ∃ e, es[j]? = some e /\ e.key = ek k := by
    have hlen : es.toList.length = kvs.length := by have := congrArg List.length h2; simpa using this
    have hj : j < es.size := by rw [<- Array.length_toList, hlen]; exact a3
    refine ⟨es[j], by simp [hj], ?_⟩
    have h5 := congrArg (fun l => l[j]?) h2
    simp only [List.getElem?_map, a5, Option.map_some] at h5
    have h6 : es.toList[j]? = some es[j] := by simp [hj]
    rw [h6] at h5
    simp at h5
    exact h5.1
   obtain ⟨e, he1, he2⟩ := he
   refine ⟨_, by simp only [Sem.run_bind, asc_und htb hu, Result.andThen, MapKept.run_getObj_map h1, hc, MapKept.run_findKey hk.und a2, Nat.zero_add, he1, Option.map_some, Option.getD_some, he2, hk.stay, MapKept.run_setObj_map _ h1]; rfl, (hset _).1, _, _, (hset _).2, ?_⟩
   rw [a4]
   apply List.ext_getElem?
   intro q
   have h5 := congrArg (fun l => l[q]?) h2
   simp only [List.getElem?_map] at h5
   simp only [List.getElem?_map, Array.getElem?_toList, Array.getElem?_modify, List.getElem?_set]
   by_cases hq : j = q
   · subst hq
     simp [he1, a3]
   · simp only [hq, if_false]
     simpa using h5
theorem mput (htb : TbOk P tb) {T kt et : Nat} (hu : asc tb.und T = some (.map kt et)) {κ β : Type} [BEq κ] {ek : κ -> Value} {ev : β -> Value} {D : TypeDesc} (hk : KeyOk P kt ek D) {r : Nat} {kvs : List (κ × β)}
    (hm : ∃ es clock, w.heap[r]? = some (.map es clock) /\ es.toList.map (fun e => (e.key, e.val)) = kvs.map fun p => (ek p.1, ev p.2)) (k : κ) (b : β)
    {x y z : Operand} {g : Option (Nat × Bool)} {pos : String} {after : Array Edge} {ty : TypeId} (hf : Fr N L a) (hg : grd ops L g = some true) (hx : evO L x = some (.map (some r))) (hy : evO L y = some (ek k)) (hz : evO L z = some (ev b))
    (K : ∀ w' a', w.grownBy w' (some r) -> (∃ es clock, w'.heap[r]? = some (.map es clock) /\ es.toList.map (fun e => (e.key, e.val)) = (mpPut kvs k b).map fun p => (ek p.1, ev p.2)) -> Fr N L a' -> wpList P ops Q rest a' w') :
    wpList P ops Q ({ dst := none, op := .mapUpdate T x y z, type := ty, pos := pos, after := after, guard := g } :: rest) a w := by
 obtain ⟨w', hrun, hgr, ho⟩ := run_mput htb hu hk hm k b
 refine stpS hf (w' := w') hg ?_ (K _ _ hgr ho (hf.put_none _))
 simp only [execOp, evO_ok hf hx, evO_ok hf hy, evO_ok hf hz, Sem.run_bind, hrun, Result.andThen, Sem.run_pure]
theorem mins (htb : TbOk P tb) {T kt et : Nat} (hu : asc tb.und T = some (.map kt et)) {κ β : Type} [BEq κ] {ek : κ -> Value} {ev : β -> Value} {D : TypeDesc} (hk : KeyOk P kt ek D) {r : Nat} {kvs : List (κ × β)}
    (hm : ∃ es clock, w.heap[r]? = some (.map es clock) /\ es.toList.map (fun e => (e.key, e.val)) = kvs.map fun p => (ek p.1, ev p.2)) (k : κ) (b : β)
    {x y z : Operand} {g : Option (Nat × Bool)} {pos : String} {after : Array Edge} {ty : TypeId} (hf : Fr N L a) (hg : grd ops L g = some true) (hx : evO L x = some (.map (some r))) (hy : evO L y = some (ek k)) (hz : evO L z = some (ev b))
    (K : ∀ w' a', w.grownBy w' (some r) -> (∃ es clock, w'.heap[r]? = some (.map es clock) /\ es.toList.map (fun e => (e.key, e.val)) = (mpPut kvs k b).map fun p => (ek p.1, ev p.2)) -> Fr N L a' -> wpList P ops Q rest a' w') :
    wpList P ops Q ({ dst := none, op := .insert T x y z, type := ty, pos := pos, after := after, guard := g } :: rest) a w := by
 obtain ⟨w', hrun, hgr, ho⟩ := run_mput htb hu hk hm k b
 refine stpS hf (w' := w') hg ?_ (K _ _ hgr ho (hf.put_none _))
 simp only [execOp, evO_ok hf hx, evO_ok hf hy, evO_ok hf hz, Sem.run_bind, hrun, Result.andThen, Sem.run_pure]
theorem bytesRow_take (l : List UInt8) (c : Nat) : (bytesRow ⟨l.toArray⟩ c).toList.take (ofStr l).length = (ofStr l).map (Value.int .u8) := by
 have h1 : (bytesRow ⟨l.toArray⟩ c).toList = (ofStr l).map (Value.int .u8) ++ List.replicate (c - l.length) (.int .u8 0) := by
  simp [bytesRow, ofStr]
  rfl
 rw [h1, List.take_append_of_le_length (by simp), List.take_of_length_le (by simp)]
theorem s2b (htb : TbOk P tb) {src dst e : Nat} (h1 : asc tb.und src = some .string) (h2 : asc tb.und dst = some (.slice e)) (h3 : asc tb.und e = some (.int .u8)) {w0 : World} {F0 F : SH} {R : Nat -> Prop} {Ts : List Th} (hs : Sep w0 F0 R w F Ts) {y : List UInt8} (hl : y.length <= 140737488355328)
    {x : Operand} {g : Option (Nat × Bool)} {pos : String} {after : Array Edge} {ty : TypeId} (hf : Fr N L a) (hd : Nat.blt d N = true) (hg : grd ops L g = some true) (hx : evO L x = some (strV y))
    (K : ∀ ao cp w' a', Sep w0 F0 R w' F (.srow e (.slice ao (ofStr y).length cp) (ofStr y) :: Ts) -> Fr N ((d, .slice ao (ofStr y).length cp) :: er d L) a' -> wpList P ops Q rest a' w') :
    wpList P ops Q ({ dst := some d, op := .convert src dst x, type := ty, pos := pos, after := after, guard := g } :: rest) a w := by
 have hn : (ofStr y).length = y.length := by simp [ofStr]
 have hrun := run_bytes_of_string (P := P) w src dst e ⟨y.toArray⟩ (htb.u h1) (htb.u h2) (htb.u h3)
 have hsz : (⟨y.toArray⟩ : ByteArray).size = y.length := rfl
 rw [hsz] at hrun
 have hge := grownCap_ge w y.length 0 e
 have hcm : grownCap w y.length 0 e <= maxLen := grownCap_le_maxLen w _ 0 e (by unfold maxLen; omega)
 have hx2 : Ext w (w.drew.alloc (.cells (bytesRow ⟨y.toArray⟩ (grownCap w y.length 0 e)) e ((bytesRow ⟨y.toArray⟩ (grownCap w y.length 0 e)).size, (bytesRow ⟨y.toArray⟩ (grownCap w y.length 0 e)).size + 1))) :=
  ⟨rfl, rfl, rfl, by simp, fun k hk => Go.heap_alloc_old w.drew _ hk⟩
 have hnew : (w.drew.alloc (.cells (bytesRow ⟨y.toArray⟩ (grownCap w y.length 0 e)) e ((bytesRow ⟨y.toArray⟩ (grownCap w y.length 0 e)).size, (bytesRow ⟨y.toArray⟩ (grownCap w y.length 0 e)).size + 1))).heap[w.heap.size]? =
     some (.cells (bytesRow ⟨y.toArray⟩ (grownCap w y.length 0 e)) e ((bytesRow ⟨y.toArray⟩ (grownCap w y.length 0 e)).size, (bytesRow ⟨y.toArray⟩ (grownCap w y.length 0 e)).size + 1)) := heap_alloc_new w.drew _
 have hbs : (bytesRow ⟨y.toArray⟩ (grownCap w y.length 0 e)).size = grownCap w y.length 0 e := by
  simp [bytesRow]; omega
 refine stp hf (v := .slice (some ⟨w.heap.size, 0, none⟩) (ofStr y).length (grownCap w y.length 0 e)) hg ?_ (K _ _ _ _ (hs.addNew hx2 ?_ ?_) (hf.put hd _))
 · rw [hn]
   simp only [execOp, evO_ok hf hx, strV, Sem.run_bind, hrun, Result.andThen, Sem.run_pure]
 · refine ⟨w.heap.size, _, _, _, rfl, hnew, by rw [hn]; exact hge, hcm, hbs, bytesRow_take y _, .inr (Nat.le_refl _)⟩
 · intro k hk
   simp only [Th.blk, Value.ownBlock, Option.some.injEq] at hk
   subst hk
   simp
theorem apB (htb : TbOk P tb) {T e : Nat} (hu : asc tb.und T = some (.slice e)) (hti : asc tb.info e = some (.int .u8 0, 1, 1)) {w0 : World} {F0 F : SH} {R : Nat -> Prop} {Ts : List Th} (hs : Sep w0 F0 R w F Ts) (i : Nat) {v : Value} {xs ys : List Int} (hT : Ts[i]? = some (.srow e v xs)) {G : SH} {ao : Option Addr} {n cap : Nat} (hro : RA (hp w) G (tI .u8) (.slice ao n cap) ys) (hbd : xs.length + ys.length <= 140737488355328)
    {x yo : Operand} {g : Option (Nat × Bool)} {pos : String} {after : Array Edge} {ty : TypeId} (hf : Fr N L a) (hd : Nat.blt d N = true) (hg : grd ops L g = some true) (hx : evO L x = some v) (hy : evO L yo = some (.slice ao n cap))
    (K : ∀ ao' cp' w' a', Sep w0 F0 R w' F (Ts.set i (.srow e (.slice ao' (xs ++ ys).length cp') (xs ++ ys))) -> Fr N ((d, .slice ao' (xs ++ ys).length cp') :: er d L) a' -> wpList P ops Q rest a' w') :
    wpList P ops Q ({ dst := some d, op := .call { callee := .builtin .append, args := #[x, yo], argTypes := #[T, T] }, type := ty, pos := pos, after := after, guard := g } :: rest) a w := by
 obtain ⟨inf, hinf, hzero, hsz, hby⟩ := htb.i hti
 obtain ⟨gb, cp, cur, fz, rfl, hob, hc1, hc2, hcs, htk, hfz⟩ := hs.ok i _ hT
 have hob2 : w.heap[gb]? = some (.cells cur e fz) := hob
 obtain ⟨ao', cap', ds, e1, hc3, hr3, hcell⟩ := hro
 simp only [Value.slice.injEq] at e1
 obtain ⟨rfl, rfl, rfl⟩ := e1
 have hds : ds = ys.map (Value.int .u8) := by
  clear hcell hc3 hbd hy K
  induction ys generalizing ds with
  | nil => exact hr3
  | cons y ys ih => obtain ⟨c, r, e1, e2, e3⟩ := hr3; rw [e1, show c = _ from e2, ih r e3]; rfl
 have hdl : ds.length = ys.length := by rw [hds, List.length_map]
 have hlen : (xs ++ ys).length = xs.length + ys.length := List.length_append
 have key : ∃ ao2 cp2 w', (Builtin.append_ #[T, T] ty #[.slice (some ⟨gb, 0, none⟩) xs.length cp, .slice ao ys.length cap]).run P w = .ok (.slice ao2 (xs ++ ys).length cp2) w' /\ Sep w0 F0 R w' F (Ts.set i (.srow e (.slice ao2 (xs ++ ys).length cp2) (xs ++ ys))) := by
  have hmapc : (xs ++ ys).map (Value.int .u8) = xs.map (Value.int .u8) ++ ds := by rw [List.map_append, hds]
  cases ao with
  | none =>
   have hd0 : ds = [] := by
    cases ds with
    | nil => rfl
    | cons u r => obtain ⟨_, _, h1, _⟩ := hcell 0 u rfl; cases h1
   have hy0 : ys = [] := List.eq_nil_of_length_eq_zero (by rw [<- hdl, hd0]; rfl)
   subst hy0
   refine ⟨_, cp, w, by simp [Builtin.append_, run_underlying (htb.u hu), Go.sizeOf, typeInfo, hinf, Builtin.lenOf, Builtin.firstCells, hc1, storeCells]; rfl, ?_⟩
   refine (hs.upd i hT rfl (World.grownBy.rfl0 w _) ?_ fun k hk => ?_)
   · rw [List.append_nil]; exact ⟨gb, cp, cur, fz, rfl, hob2, hc1, hc2, hcs, htk, hfz⟩
   · exact ⟨(hs.out i _ k hT hk).2.1, .inl hk⟩
  | some p =>
   have hcells : ∀ (j : Nat) (u : Value), ds[j]? = some u -> w.cell? (p.add j) = some u := by
    intro j u hj
    obtain ⟨bl, o, h1, h2⟩ := hcell j u hj
    simp only [Option.some.injEq] at h1; subst h1
    rw [Addr.add_lit]; exact cellH_cell (LeH.refl _) h2
   by_cases hroom : xs.length + ys.length <= cp
   · have hff := run_firstCells_some (P := P) w inf.size ys.length p ys.length cap ds (by rw [hdl, hsz, Nat.mul_one]) hcells
     have hst := run_storeCells_cells (P := P) gb xs.length ds 0 w (fun j hj => by
         unfold World.cell?
         have : xs.length + j < cur.size := by omega
         simp [hob2, this]) (fun j hj => by
         unfold World.frozen?
         simp only [hob2]
         have : xs.length + j < cur.size := by omega
         simp only [Bool.and_eq_false_iff, decide_eq_false_iff_not]
         omega) (fun u hu => by rw [hds] at hu; obtain ⟨q, _, rfl⟩ := List.mem_map.1 hu; rfl)
     simp only [Nat.add_zero] at hst
     obtain ⟨a1, a2, a3, a4, a5, a6⟩ := setCells_any ds cur xs.length hob2
     refine ⟨some ⟨gb, 0, none⟩, cp, w.setCells gb xs.length ds, ?_, ?_⟩
     · rw [hlen]
       simp [Builtin.append_, run_underlying (htb.u hu), Go.sizeOf, typeInfo, hinf, hsz, Builtin.lenOf, hroom] at hff ⊢
       simp [hff, Addr.add_lit, hst]
     · refine hs.upd i hT rfl ⟨a4, a5, a6, Nat.le_of_eq a3.symm, fun k hk hne => a2 k (by simpa [Th.blk, Value.ownBlock] using hne)⟩ ⟨gb, cp, _, fz, rfl, a1, by rw [hlen]; exact hroom, hc2, ?_, ?_, ?_⟩ fun k hk => ?_
       · simp [spl_length, hcs]
       · rw [hlen, hmapc, List.toList_toArray]
         rw [spl_mid cur.toList xs.length ds (by have hcl : cur.toList.length = cur.size := Array.length_toList; omega), htk, <- List.append_assoc]
         rw [List.take_append_of_le_length (by simp [hdl]), List.take_of_length_le (by simp [hdl])]
       · simpa [spl_length] using hfz
       · simp only [Th.blk, Value.ownBlock, Option.some.injEq] at hk
         subst hk
         exact ⟨by rw [a3]; exact (hs.out i _ gb hT rfl).2.1, .inl rfl⟩
   · have hxc : ∀ j u, (xs.map (Value.int .u8))[j]? = some u -> w.cell? ((⟨gb, 0, none⟩ : Addr).add j) = some u := by
      intro j u hj
      rw [Addr.add_lit]
      unfold World.cell?
      rw [<- htk] at hj
      have hj2 : j < xs.length := by
       rcases Nat.lt_or_ge j xs.length with h' | h'
       · exact h'
       · rw [List.getElem?_take_eq_none h'] at hj; cases hj
      rw [List.getElem?_take_of_lt hj2] at hj
      simpa [hob2] using hj
     have hr := run_append_grow (P := P) w T ty e inf (.int .u8 0) (htb.u hu) hinf hzero ⟨gb, 0, none⟩ xs.length cp (xs.map (Value.int .u8)) (by rw [List.length_map, hsz, Nat.mul_one]) hxc p ys.length cap ds (by rw [hdl, hsz, Nat.mul_one]) hcells (by omega) (by omega) (growslice_fits (by omega) (by rw [hby]; omega))
     have hge := grownCap_ge w (xs.length + ys.length) cp e
     have hcm := grownCap_le_maxLen w (xs.length + ys.length) cp e (by unfold maxLen; omega)
     rw [<- hlen] at hr
     refine ⟨_, _, _, hr, ?_⟩
     refine hs.upd i hT rfl ⟨rfl, rfl, rfl, by simp, fun k hk _ => Go.heap_alloc_old w.drew _ hk⟩ ⟨w.heap.size, _, _, _, rfl, heap_alloc_new w.drew _, by rw [hlen]; exact hge, by rw [hlen]; exact hcm, ?_, ?_, .inl (Nat.le_refl _)⟩ fun k hk => ?_
     · simp only [Array.size_append, List.size_toArray, List.length_map, hdl, size_zeroCells, hlen]
       have : (Value.int IntKind.u8 0).cells.size = 1 := rfl
       rw [this]; omega
     · rw [hlen, hmapc]
       simp only [Array.toList_append]
       rw [List.take_append_of_le_length (by simp [hdl]), List.take_of_length_le (by simp [hdl])]
     · simp only [Th.blk, Value.ownBlock, Option.some.injEq] at hk
       subst hk
       exact ⟨by simp, .inr (Nat.le_refl _)⟩
 obtain ⟨ao2, cp2, w', hrun, hs2⟩ := key
 refine stp hf (v := .slice ao2 (xs ++ ys).length cp2) (w' := w') hg ?_ (K ao2 cp2 w' _ hs2 (hf.put hd _))
 refine exec_builtin (A := [x, yo]) (vs := [.slice (some ⟨gb, 0, none⟩) xs.length cp, .slice ao ys.length cap]) hf (by simp only [evL, hx, hy]) fun consts => ?_
 simp only [builtin, Sem.run_bind, hrun, Result.andThen, Sem.run_pure]
theorem run_ixB (htb : TbOk P tb) {T n e b0 : Nat} {zv : Value} (hu : asc tb.und T = some (.array n e)) (hti : asc tb.info e = some (zv, 1, b0)) {k : IntKind} {i : Int} (hn : 0 <= i /\ i < n) (b : Nat) (w : World) : (Instr.indexAt T (.pointer (some ⟨b, 0, none⟩)) (.int k i)).run P w = .ok (.pointer (some ⟨b, i.toNat, none⟩)) w := by
 obtain ⟨inf, hinf, _, hs, _⟩ := htb.i hti
 unfold Instr.indexAt Instr.sureAddr asIntOf
 simp only [Sem.run_bind, Sem.run_pure, asc_und htb hu, Result.andThen]
 rw [if_pos hn]
 simp only [Sem.run_bind, run_sizeOf w hinf, cellsOf_of hinf hs, Sem.run_pure, Result.andThen, Addr.add_lit, Nat.mul_one, Nat.zero_add]
theorem arrCell {α : Type} [Inhabited α] {enc : α -> Value} {h : SH} {b : Nat} {xs : List α} (hc : CellsAt h ⟨b, 0, none⟩ (List.map enc xs)) {n : Nat} (hl : xs.length = n) {i : Int} (hn : 0 <= i /\ i < n) {po : Nat} (hp' : po = i.toNat) : CellsAt h ⟨b, po, none⟩ [enc (gt xs i)] := by
 subst hp'
 refine ⟨rfl, fun j u hj => ?_⟩
 cases j with
 | succ j => simp at hj
 | zero =>
  have h1 := gt_at (xs := xs) hn.1 (by omega)
  have h2 := hc.2 i.toNat (enc (gt xs i)) (by rw [List.getElem?_map, h1]; rfl)
  have h3 : enc (gt xs i) = u := by simpa using hj
  subst h3
  simpa using h2
theorem spl_one (cs : List Value) (o : Nat) (u : Value) : spl cs o [u] = cs.set o u := rfl
theorem stA (htb : TbOk P tb) {T b0 : Nat} {zv : Value} (hti : asc tb.info T = some (zv, 1, b0)) {α : Type} (enc : α -> Value) (he : ∀ x, (enc x).oneCell' = true) (hec : ∀ x, (enc x).cells = #[enc x]) {B b : Nat} {T' : TypeId} {xs : List α} (H : Bx w B b T' (List.map enc xs)) {n : Nat} (hl : xs.length = n) {i : Int} (hn : 0 <= i /\ i < n) {po : Nat} (hp' : po = i.toNat) (yv : α)
    {x y : Operand} {g : Option (Nat × Bool)} {pos : String} {after : Array Edge} {ty : TypeId} (hf : Fr N L a) (hg : grd ops L g = some true) (hx : evO L x = some (.pointer (some ⟨b, po, none⟩))) (hy : evO L y = some (enc yv))
    (K : ∀ w' a', Bx w' B b T' (List.map enc (xs.set i.toNat yv)) -> w.grownBy w' (bv b).ownBlock -> Fr N L a' -> wpList P ops Q rest a' w') :
    wpList P ops Q ({ dst := none, op := .store T x y, type := ty, pos := pos, after := after, guard := g } :: rest) a w := by
 subst hp'
 obtain ⟨inf, hinf, _, hsize, _⟩ := htb.i hti
 have hlt : i.toNat < (List.map enc xs).length := by rw [List.length_map]; omega
 have hcell : (w.cell? ⟨b, i.toNat, none⟩).isSome = true /\ w.frozen? ⟨b, i.toNat, none⟩ = false := by
  constructor
  · have h4 := CellsAt.cell (w := w) (LeH.refl _) H.cells (List.getElem?_eq_getElem hlt)
    rw [Nat.zero_add] at h4
    rw [h4]; rfl
  · unfold World.frozen?
    simp [H.obj]
 have hrun : (Instr.storeAt T (.pointer (some ⟨b, i.toNat, none⟩)) (enc yv)).run P w = .ok () (w.setCells b i.toNat [enc yv]) := by
  have h3 := run_storeCells_cells (P := P) b i.toNat [enc yv] 0 w (fun j hj => by
   have : j = 0 := by simpa using hj
   subst this; simpa using hcell.1) (fun j hj => by
   have : j = 0 := by simpa using hj
   subst this; simpa using hcell.2) (fun u hu => by
   have : u = enc yv := by simpa using hu
   subst this; exact he yv)
  simp only [Nat.add_zero] at h3
  unfold Instr.storeAt Instr.sureAddr storeVar
  simp only [Sem.run_bind, Sem.run_pure, Result.andThen, run_sizeOf w hinf, cellsOf_of' hinf hsize, hec]
  simp only [List.size_toArray, List.length_cons, List.length_nil, Nat.zero_add, ne_eq, not_true_eq_false, if_false, h3]
 obtain ⟨a1, a2, a3, a4, a5, a6⟩ := setCells_box [enc yv] (List.map enc xs) i.toNat H.obj
 rw [spl_one, <- List.map_set] at a1
 refine stpS hf (w' := w.setCells b i.toNat [enc yv]) hg ?_ (K _ _ ⟨H.base, a1, allOne_map he _⟩ ⟨a4, a5, a6, Nat.le_of_eq a3.symm, fun k hk hne => a2 k (by simpa [Value.ownBlock] using hne)⟩ (hf.put_none _))
 simp only [execOp, evO_ok hf hx, evO_ok hf hy, Sem.run_bind, hrun, Result.andThen, Sem.run_pure]
end more
end Dm

namespace Dm
open Go Go.RowKit
def dstAt (ops : Array Oper) (j : Nat) : Option Nat := match ops[j]? with
 | some o => o.dst
 | none => none
theorem dstAt_spec {ops : Array Oper} {j d : Nat} (h : dstAt ops j = some d) : ∃ o, ops[j]? = some o /\ o.dst = some d := by
 unfold dstAt at h; split at h
 · exact ⟨_, ‹_›, h⟩
 · cases h
section reg
variable {P : Program} {ops : Array Oper} {w0 : World} {N : Nat} {L0 : List (Nat × Value)}
theorem wpList_one {Q Q' : Exit -> Act -> World -> Prop} {K : Act -> World -> Prop} {o : Oper} {a : Act} {w : World} (hQ : ∀ e a w, Q e a w -> e = .normal /\ a.defers = []) (h : wpList P ops Q [o] a w)
    (hK : ∀ v w', Q .normal (a.put o.dst v) w' -> K (a.put o.dst v) w') :
    if Region.wanted o (yielded ops a.tmps) then o.wp P a w K Q' \/ (o.asks P a w /\ LetsOut Q') else K (a.put o.dst undef) w := by
 unfold wpList at h
 split
 · rename_i hw
   rw [if_pos hw] at h
   rcases h with h | ⟨_, a', w', h⟩
   · left
     unfold Oper.wp at *
     generalize he : (execOp a.eval o).run P w = r at *
     cases r with
     | ok n w' =>
      cases n <;> simp only [Oper.upon] at h ⊢
      case value v => exact hK v w' h
      case skip => exact hK undef w' h
      case defer d => have := (hQ _ _ _ h).2; simp [Act.put] at this; cases hd : o.dst <;> simp [hd] at this
      case enter f args =>
       refine Calls.mono h fun e w'' he => ?_
       cases e with
       | returned v => exact hK v w'' he
       | panicked c => cases (hQ _ _ _ he).1
       | outgrown => obtain ⟨a', w3, h3⟩ := he; cases (hQ _ _ _ h3).1
      case row rw args =>
       exact Rows.mono h fun v w'' h' => hK v w'' h'
     | halt x w' =>
      cases x <;> simp only [Oper.upon] at h ⊢
      case panic v => cases (hQ _ _ _ h).1
   · cases (hQ _ _ _ h).1
 · rename_i hw
   rw [if_neg hw] at h
   exact hK undef w h
def cnt (listed : Array Bool) : Nat -> Nat
 | 0 => 0
 | m + 1 => cnt listed m + (if listed.getD m false then 0 else 1)
theorem cnt_none {listed : Array Bool} : ∀ {m : Nat}, (∀ i, i < m -> listed.getD i false = false) -> cnt listed m = m
 | 0, _ => rfl
 | m + 1, h => by simp only [cnt, h m (by omega)]; rw [cnt_none fun i hi => h i (by omega)]; simp
theorem cnt_same {listed : Array Bool} {i : Nat} : ∀ {m : Nat}, m <= i -> cnt (listed.setIfInBounds i true) m = cnt listed m
 | 0, _ => rfl
 | m + 1, h => by simp only [cnt]; rw [cnt_same (by omega), getD_set_ne false (by omega)]
theorem cnt_set {listed : Array Bool} {i : Nat} (hs : i < listed.size) (hu : listed.getD i false = false) : ∀ {m : Nat}, i < m -> cnt (listed.setIfInBounds i true) m + 1 = cnt listed m
 | 0, h => by omega
 | m + 1, h => by
  simp only [cnt]
  by_cases hi : i = m
  · subst hi
    rw [cnt_same (Nat.le_refl _), hu]
    have : (listed.setIfInBounds i true).getD i false = true := by simp [hs]
    rw [this]; simp
  · rw [getD_set_ne false hi]
    have := cnt_set hs hu (m := m) (by omega)
    omega
theorem cnt_zero {listed : Array Bool} : ∀ {m : Nat}, cnt listed m = 0 -> ∀ i, i < m -> listed.getD i false = true
 | 0, _, i, hi => by omega
 | m + 1, h, i, hi => by
  simp only [cnt] at h
  by_cases hm : i = m
  · subst hm
    cases e : listed.getD i false with
    | true => rfl
    | false => rw [e] at h; simp at h
  · exact cnt_zero (m := m) (by omega) i (by omega)
theorem cnt_pos {listed : Array Bool} : ∀ {m : Nat}, 0 < cnt listed m -> ∃ i, i < m /\ listed.getD i false = false /\ ∀ j, j < i -> listed.getD j false = true
 | 0, h => by simp [cnt] at h
 | m + 1, h => by
  by_cases h0 : 0 < cnt listed m
  · obtain ⟨i, h1, h2, h3⟩ := cnt_pos h0
    exact ⟨i, by omega, h2, h3⟩
  · have hz : cnt listed m = 0 := by omega
    refine ⟨m, by omega, ?_, cnt_zero hz⟩
    simp only [cnt, hz] at h
    cases e : listed.getD m false with
    | false => rfl
    | true => rw [e] at h; simp at h
def dstsB (N : Nat) (L0 : List (Nat × Value)) : List Oper -> Bool
 | [] => true
 | o :: os => (match o.dst with
  | none => true
  | some d => Nat.blt d N && L0.all (fun p => !Nat.beq p.1 d) && os.all (fun o' => match o'.dst with
   | none => true
   | some d' => !Nat.beq d' d)) && dstsB N L0 os
def backB (ops : Array Oper) (m : Nat) : Bool :=
 (List.range m).all fun i => match ops[i]? with
  | some o => o.after.all fun e => !Region.binds .any e || Nat.blt e.on i
  | none => true
theorem Fr.put_other {d : Nat} {v : Value} : ∀ {L : List (Nat × Value)} {a : Act}, L.all (fun p => !Nat.beq p.1 d) = true -> Fr N L a -> Fr N L (a.put (some d) v)
 | [], a, _, h => ⟨by simp only [Act.put, Array.size_setIfInBounds]; exact h.1, h.2⟩
 | p :: L, a, hb, h => by
  simp only [List.all_cons, Bool.and_eq_true] at hb
  refine ⟨?_, Fr.put_other hb.2 h.2⟩
  have hne : p.1 ≠ d := fun e => by rw [e] at hb; simp at hb
  simp only [Act.put]
  rw [getD_put_ne _ _ _ _ _ hne]; exact h.1
theorem dstsB_get : ∀ {l : List Oper}, dstsB N L0 l = true -> ∀ (i : Nat) (o : Oper) (d : Nat), l[i]? = some o -> o.dst = some d ->
    d < N /\ L0.all (fun p => !Nat.beq p.1 d) = true /\ ∀ (j : Nat) (o' : Oper), i < j -> l[j]? = some o' -> o'.dst ≠ some d
 | [], _, i, o, d, h, _ => by simp at h
 | o :: os, hB, 0, o', d, h, hd => by
  have : o = o' := by simpa using h
  subst this
  simp only [dstsB, hd, Bool.and_eq_true] at hB
  obtain ⟨⟨⟨h1, h2⟩, h3⟩, _⟩ := hB
  refine ⟨Nat.le_of_ble_eq_true h1, h2, fun j o' hj hj' hd' => ?_⟩
  obtain ⟨j, rfl⟩ : ∃ q, j = q + 1 := ⟨j - 1, by omega⟩
  have hm : o' ∈ os := List.mem_of_getElem? (by simpa using hj')
  have := List.all_eq_true.1 h3 o' hm
  rw [hd'] at this
  simp at this
 | o :: os, hB, i + 1, o', d, h, hd => by
  simp only [dstsB, Bool.and_eq_true] at hB
  obtain ⟨h1, h2, h3⟩ := dstsB_get hB.2 i o' d (by simpa using h) hd
  refine ⟨h1, h2, fun j o2 hj hj' => ?_⟩
  obtain ⟨j, rfl⟩ : ∃ q, j = q + 1 := ⟨j - 1, by omega⟩
  exact h3 j o2 (by omega) (by simpa using hj')
theorem dstsB_ne {l : List Oper} (hB : dstsB N L0 l = true) {i j : Nat} {oi oj : Oper} {d : Nat} (hi : l[i]? = some oi) (hj : l[j]? = some oj) (hd : oi.dst = some d) (hd' : oj.dst = some d) : i = j := by
 rcases Nat.lt_trichotomy i j with h | h | h
 · exact absurd hd' ((dstsB_get hB i oi d hi hd).2.2 j oj h hj)
 · exact h
 · exact absurd hd ((dstsB_get hB j oj d hj hd').2.2 i oi h hi)
def notF (fs : List Nat) (i : Nat) : Bool := !fs.contains i
def freeF (ops : Array Oper) (fs : List Nat) : Bool :=
 fs.all fun p => match ops[p]? with
  | some oi => (List.range ops.size).all fun j => Nat.beq j p || Region.waitsFor .any ops j p || Region.waitsFor .any ops p j || match ops[j]? with
   | some oj => oi.apart ops oj
   | none => true
  | none => false
theorem yields_t {tb : Tb} (htb : TbOk P tb) {L : List (Nat × Value)} {a : Act} {o : Oper} {v : Value} (hf : Fr N L a) (hg : grd ops L o.guard = some true) (h : pureOp tb L o.op = some v) : Yields P ops o v a :=
 .inl ⟨grd_ok hf hg, fun w => pureOp_ok htb hf o h w⟩
end reg
end Dm

namespace Dm
open Go Go.RowKit
section ext
variable {P : Program} {N : Nat} {tb : Tb} {ops : Array Oper} {Q : Exit -> Act -> World -> Prop}
variable {L : List (Nat × Value)} {a : Act} {w : World} {rest : List Oper} {d : Nat}
def LW (c : Code) (P : Program) (Q : Exit -> Act -> World -> Prop) (a : Act) (w : World) : Prop :=
 ∀ (b : Frame) (k : List Item) (cs : List Frame), ∃ e a' w', Q e a' w' /\ Arrives P (lone (b.at a (.code c :: .inLoop c :: k)) cs w) b k cs e a' w'
theorem lpS {c : Code} (h : LW c P Q a w) : (Code.loop c).wp P Q a w := by
 intro b k cs
 obtain ⟨e, a', w', hq, harr⟩ := h b k cs
 exact ⟨e, a', w', hq, .of_steps (.one step_loop) harr⟩
theorem lpU {c : Code} (h : c.wp P (Exit.then (LW c P Q) Q) a w) : LW c P Q a w := by
 intro b k cs
 obtain ⟨e, a₁, w₁, hq, harr⟩ := h b (.inLoop c :: k) cs
 cases e with
 | normal =>
  obtain ⟨e₂, a₂, w₂, hq₂, harr₂⟩ := hq b k cs
  exact ⟨e₂, a₂, w₂, hq₂, .of_steps (Steps.trans harr (.one step_inLoop)) harr₂⟩
 | exit id => exact ⟨_, a₁, w₁, hq, .pass (x := .inLoop c) rfl (fun _ _ => .inl (by simp)) harr⟩
 | goto l => exact ⟨_, a₁, w₁, hq, .pass (x := .inLoop c) rfl (fun _ _ => .inl (by simp)) harr⟩
 | ret => exact ⟨_, a₁, w₁, hq, .pass (x := .inLoop c) rfl (fun _ _ => .inl (by simp)) harr⟩
 | panic ch => exact ⟨_, a₁, w₁, hq, .pass (x := .inLoop c) rfl (fun _ _ => .inl (by simp)) harr⟩
 | outgrown => exact ⟨_, a₁, w₁, hq, .pass (x := .inLoop c) rfl (fun _ _ => .inl (by simp)) harr⟩
section calls
variable {f : Nat} {A : List Operand} {fs vs caps : List Value} {T : Value -> World -> Prop} {c : Operand}
theorem exec_callB (hent : Ent P f) (hf : Fr N L a) (hA : evL L A = some vs) (hc : evO L c = some (.func (.func f) fs.toArray caps.toArray)) {dst : Option Tmp} {ty : TypeId} {at_ : Array TypeId} {pos : String} {after : Array Edge} {g : Option (Nat × Bool)} :
    (execOp a.eval { dst := dst, op := .call { callee := .value c, args := A.toArray, argTypes := at_ }, type := ty, pos := pos, after := after, guard := g }).run P w = .ok (.enter f (fs ++ vs ++ caps).toArray) w := by
 simp only [execOp, resolve, List.map_toArray, evL_ok hf hA, evO_ok hf hc, Deferred.ofValue]
 simp only [Sem.run_bind, Sem.run_pure, Result.andThen, invoke]
 simp only [List.append_toArray]
 exact run_enter hent _ _
theorem clB (hent : Ent P f) {g : Option (Nat × Bool)} {at_ : Array TypeId} {pos : String} {after : Array Edge} {ty : TypeId} (hf : Fr N L a) (hd : Nat.blt d N = true) (hg : grd ops L g = some true) (hA : evL L A = some vs) (hc : evO L c = some (.func (.func f) fs.toArray caps.toArray))
    (hcall : Calls P f (fs ++ vs ++ caps).toArray w (Gives T)) (k : ∀ v w' a', T v w' -> Fr N ((d, v) :: er d L) a' -> wpList P ops Q rest a' w') :
    wpList P ops Q ({ dst := some d, op := .call { callee := .value c, args := A.toArray, argTypes := at_ }, type := ty, pos := pos, after := after, guard := g } :: rest) a w := by
 unfold wpList
 rw [if_pos (grd_ok hf hg)]
 refine Or.inl ?_
 unfold Oper.wp
 rw [exec_callB hent hf hA hc]
 simp only [Oper.upon]
 refine hcall.mono fun e w' ⟨v, he, ht⟩ => ?_
 subst he
 exact k v w' _ ht (hf.put hd v)
end calls
abbrev FnT := Nat × List Value × List Value
def encFn (x : FnT) : Value := .func (.func x.1) x.2.1.toArray x.2.2.toArray
def tFn : Ty FnT := tF 1 (fun x => [encFn x]) (fun _ => rfl) (fun _ u hu => by simp at hu; subst hu; rfl)
theorem flat_Fn : Flat tFn := flat_tF
def encP (b : Nat) : Option Nat -> Value
 | none => .pointer none
 | some o => .pointer (some ⟨b, o, none⟩)
end ext
abbrev FW := Value -> Prop
def Fw (G : FW) (W : World -> Prop) (o : Oper) : Exit -> Act -> World -> Prop := fun e a' w' => e = .normal /\ a'.defers = [] /\ W w' /\ ∀ d, o.dst = some d -> G (a'.tmps.getD d undef)
def gW (Gs : List FW) (i : Nat) : FW := Gs.getD i (fun _ => True)
def upd (bs : Nat -> Bool) (i k : Nat) : Bool := match Nat.beq k i with
 | true => true
 | false => bs k
section regd
variable {P : Program} {ops : Array Oper} {N : Nat} {L0 : List (Nat × Value)}
def pickO (l : List Oper) : List Nat -> List Oper
 | [] => []
 | i :: r => match l[i]? with
  | some o => o :: pickO l r
  | none => pickO l r
def seqD (ops : Array Oper) : List Nat -> Array Bool -> Bool
 | [], listed => (Region.ready .any ops listed).isEmpty
 | k :: r, listed => decide (Region.ready .any ops listed = [k]) && (ops[k]?).isSome && seqD ops r (listed.setIfInBounds k true)
theorem wpAny_seqD {l : List Oper} {Q : Exit -> Act -> World -> Prop} : ∀ (r : List Nat) (listed : Array Bool) (a : Act) (w : World), seqD l.toArray r listed = true -> wpList P l.toArray Q (pickO l r) a w -> wpAny P .any l.toArray Q r.length listed a w
 | [], _, _, _, hB, h => ⟨by simpa [seqD] using hB, h⟩
 | k :: r, listed, a, w, hB, h => by
  simp only [seqD, Bool.and_eq_true, decide_eq_true_eq] at hB
  obtain ⟨⟨h1, h2⟩, h3⟩ := hB
  obtain ⟨o, ho⟩ := Option.isSome_iff_exists.1 h2
  have ho' : l[k]? = some o := by simpa using ho
  refine ⟨fun h4 => (by rw [h1] at h4; cases h4), fun i hi => ?_⟩
  rw [h1] at hi
  have hik : i = k := by simpa using hi
  subst hik
  have hp : pickO l (i :: r) = o :: pickO l r := by simp only [pickO, ho']
  rw [hp] at h
  have hw : wpOp P l.toArray Q i (wpList P l.toArray Q (pickO l r)) a w := by unfold wpOp; simp only [ho]; exact h
  exact wpOp_mono (fun a' w' h' => wpAny_seqD r _ a' w' h3 h') hw
def chainD (ops : Array Oper) : List Nat -> Bool
 | i :: j :: r => Region.waitsFor .any ops j i && chainD ops (j :: r)
 | _ => true
def headD (n m : Nat) (ds : List Nat) : Array Bool := ((List.range n).map fun i => Nat.blt i m || ds.contains i).toArray
theorem chainD_get : ∀ {r : List Nat} {r0 : Nat}, chainD ops (r0 :: r) = true -> ∀ k, k ∈ r -> ∃ j, j ∈ r0 :: r /\ Region.waitsFor .any ops k j = true
 | [], _, _, k, hk => by simp at hk
 | x :: xs, r0, h, k, hk => by
  simp only [chainD, Bool.and_eq_true] at h
  rcases List.mem_cons.1 hk with rfl | hk
  · exact ⟨r0, by simp, h.1⟩
  · obtain ⟨j, hj, hw⟩ := chainD_get h.2 k hk
    exact ⟨j, List.mem_cons_of_mem _ hj, hw⟩
end regd
section regw
variable {P : Program} {N : Nat} {L0 : List (Nat × Value)}
theorem fw_ok {ops : Array Oper} {L : List (Nat × Value)} {G : FW} {W : World -> Prop} {o : Oper} {w' : World} {a' : Act} {d N : Nat} (hd : o.dst = some d) (hf : Fr N L a') (hW : W w') (h : G (a'.tmps.getD d undef)) : wpList P ops (Fw G W o) [] a' w' :=
 ⟨rfl, hf.base.2, hW, fun d' h' => by rw [hd] at h'; cases h'; exact h⟩
theorem fw_no {ops : Array Oper} {L : List (Nat × Value)} {G : FW} {W : World -> Prop} {o : Oper} {w' : World} {a' : Act} {N : Nat} (hd : o.dst = none) (hf : Fr N L a') (hW : W w') : wpList P ops (Fw G W o) [] a' w' :=
 ⟨rfl, hf.base.2, hW, fun d' h' => by rw [hd] at h'; cases h'⟩
def WOb (P : Program) (ops : Array Oper) (N : Nat) (L0 : List (Nat × Value)) (Gs : List FW) (W : (Nat -> Bool) -> World -> Prop) (i : Nat) (o : Oper) (G : FW) : Prop :=
 ∀ bs a w, W bs w -> Fr N L0 a -> (∀ j d, Region.waitsFor .any ops i j = true -> dstAt ops j = some d -> gW Gs j (a.tmps.getD d undef)) -> wpList P ops (Fw G (W (upd bs i)) o) [o] a w
def WObs (P : Program) (ops : Array Oper) (N : Nat) (L0 : List (Nat × Value)) (Gs : List FW) (W : (Nat -> Bool) -> World -> Prop) : Nat -> List Oper -> List FW -> Prop
 | _, [], [] => True
 | k, o :: os, G :: r => WOb P ops N L0 Gs W k o G /\ WObs P ops N L0 Gs W (k + 1) os r
 | _, _, _ => False
theorem WObs.get {ops : Array Oper} {Gs : List FW} {W : (Nat -> Bool) -> World -> Prop} : ∀ {os : List Oper} {r : List FW} {k : Nat}, WObs P ops N L0 Gs W k os r -> ∀ i o, os[i]? = some o -> ∃ G, r[i]? = some G /\ WOb P ops N L0 Gs W (k + i) o G
 | [], _, _, _, i, o, h => by simp at h
 | o :: os, [], _, h, _, _, _ => by simp [WObs] at h
 | o :: os, G :: r, k, h, 0, o', e => by
  have : o = o' := by simpa using e
  subst this
  exact ⟨G, rfl, h.1⟩
 | o :: os, G :: r, k, h, i + 1, o', e => by
  obtain ⟨G', h1, h2⟩ := WObs.get h.2 i o' (by simpa using e)
  exact ⟨G', by simpa using h1, by rw [show k + (i + 1) = k + 1 + i by omega]; exact h2⟩
structure WInv (ops : Array Oper) (N : Nat) (L0 : List (Nat × Value)) (Gs : List FW) (W : (Nat -> Bool) -> World -> Prop) (listed : Array Bool) (a : Act) (w : World) : Prop where
 ok : W (fun k => listed.getD k false) w
 fr : Fr N L0 a
 facts : ∀ i o d, listed.getD i false = true -> ops[i]? = some o -> o.dst = some d -> gW Gs i (a.tmps.getD d undef)
theorem upd_eq {listed : Array Bool} {i : Nat} (hi : i < listed.size) : (fun k => (listed.setIfInBounds i true).getD k false) = upd (fun k => listed.getD k false) i := by
 funext k
 unfold upd
 by_cases h : k = i
 · subst h
   rw [show Nat.beq k k = true from Nat.beq_refl k]
   simp [hi]
 · have hb : Nat.beq k i = false := by
    cases e : Nat.beq k i with
    | false => rfl
    | true => exact absurd (Nat.eq_of_beq_eq_true e) h
   rw [hb]
   exact getD_set_ne false fun e => h e.symm
theorem wpAny_W {l : List Oper} {Gs : List FW} {W : (Nat -> Bool) -> World -> Prop} {Q : Exit -> Act -> World -> Prop} (hdst : dstsB N L0 l = true) (hback : backB l.toArray l.length = true)
    (hob : WObs P l.toArray N L0 Gs W 0 l Gs)
    (ht : ∀ bs a w, (∀ i, i < l.length -> bs i = true) -> W bs w -> Fr N L0 a -> (∀ i o d, i < l.length -> l[i]? = some o -> o.dst = some d -> gW Gs i (a.tmps.getD d undef)) -> Q .normal a w) :
    ∀ (f : Nat) (listed : Array Bool) (a : Act) (w : World), HeadInv .any l.toArray l.length listed -> cnt listed l.length = f -> WInv l.toArray N L0 Gs W listed a w -> wpAny P .any l.toArray Q f listed a w := by
 have hops : ∀ i : Nat, l.toArray[i]? = l[i]? := fun i => by simp
 intro f
 induction f with
 | zero =>
  intro listed a w inv hc hI
  have hall := cnt_zero hc
  refine wpAny_done ?_ (ht _ a w hall hI.ok hI.fr fun i o d hi ho hd => hI.facts i o d (hall i hi) (by rw [hops]; exact ho) hd) 0
  cases hr : Region.ready .any l.toArray listed with
  | nil => rfl
  | cons i r =>
   have hm : i ∈ Region.ready .any l.toArray listed := by rw [hr]; simp
   obtain ⟨hun, o, ho, _⟩ := mem_ready.1 hm
   have hil : i < l.length := (List.getElem?_eq_some_iff.1 (show l[i]? = some o by rw [<- hops]; exact ho)).1
   have h1 := hall i hil
   have h2 := getD_both hun
   rw [h1] at h2; cases h2
 | succ f ih =>
  intro listed a w inv hc hI
  obtain ⟨i0, hi0, hu0, hmin⟩ := cnt_pos (listed := listed) (m := l.length) (by omega)
  have hrdy : i0 ∈ Region.ready .any l.toArray listed := by
   have ho : l.toArray[i0]? = some l[i0] := by rw [hops]; exact List.getElem?_eq_getElem hi0
   refine mem_ready.2 ⟨getD_in (by rw [inv.size]; simpa using hi0) hu0, l[i0], ho, fun e he hb => ?_⟩
   have h1 := List.all_eq_true.1 hback i0 (List.mem_range.2 hi0)
   rw [ho] at h1
   have h2 := (Array.all_eq_true_iff_forall_mem.1 h1) e he
   rw [hb] at h2
   exact hmin _ (Nat.le_of_ble_eq_true h2)
  refine ⟨fun h => (by rw [h] at hrdy; cases hrdy), fun i hi => ?_⟩
  obtain ⟨hun, o, ho, hall⟩ := mem_ready.1 hi
  have hio : l[i]? = some o := by rw [<- hops]; exact ho
  have hil : i < l.length := (List.getElem?_eq_some_iff.1 hio).1
  obtain ⟨G, hG, hOb⟩ := hob.get i o hio
  rw [Nat.zero_add] at hOb
  have hGi : gW Gs i = G := by unfold gW; rw [List.getD_eq_getElem?_getD, hG]; rfl
  have hw := hOb _ a w hI.ok hI.fr (fun j d hwf hdj => by
   obtain ⟨oj, hoj, hdj⟩ := dstAt_spec hdj
   obtain ⟨o', ho', e, he, hb, hon⟩ := Region.waitsFor_spec hwf
   have : o' = o := Option.some.inj (ho'.symm.trans ho)
   subst this
   have hl := hall e he hb
   rw [hon] at hl
   exact hI.facts j oj d hl hoj hdj)
  have hsz : i < listed.size := by rw [inv.size]; simpa using hil
  have key : ∀ v w', Fw G (W (upd (fun k => listed.getD k false) i)) o .normal (a.put o.dst v) w' -> wpAny P .any l.toArray Q f (listed.setIfInBounds i true) (a.put o.dst v) w' := by
   rintro v w' ⟨_, _, hx, hg⟩
   refine ih _ _ _ (inv.set hi hil) (by have := cnt_set hsz (getD_both hun) hil; omega) ⟨by rw [upd_eq hsz]; exact hx, ?_, ?_⟩
   · cases hd : o.dst with
     | none => exact hI.fr
     | some d => exact Fr.put_other (dstsB_get hdst i o d hio hd).2.1 hI.fr
   · intro j oj d hl hoj hdj
     by_cases hij : i = j
     · subst hij
       have : oj = o := Option.some.inj (hoj.symm.trans ho)
       subst this
       rw [hGi]; exact hg d hdj
     · rw [getD_set_ne false hij] at hl
       have h1 := hI.facts j oj d hl hoj hdj
       cases hd : o.dst with
       | none => exact h1
       | some d' =>
        have hne : d ≠ d' := fun e => by
         subst e
         exact hij (dstsB_ne hdst hio (by rw [<- hops]; exact hoj) hd hdj)
        simp only [Act.put]
        rw [getD_put_ne _ _ _ _ _ hne]; exact h1
  unfold wpOp
  simp only [ho]
  exact wpList_one (fun e a w h => ⟨h.1, h.2.1⟩) hw key
theorem regW {id : Nat} {l : List Oper} {a : Act} {w0 : World} {Q : Exit -> Act -> World -> Prop} (Gs : List FW) (W : (Nat -> Bool) -> World -> Prop) (hmx : P.follows .mixedOrders = true) (hf : Fr N L0 a) (hdst : dstsB N L0 l = true) (hback : backB l.toArray l.length = true)
    (hW : W (fun _ => false) { w0 with drawn := w0.drawn + 1 }) (hob : WObs P l.toArray N L0 Gs W 0 l Gs)
    (ht : ∀ bs a w, (∀ i, Nat.blt i l.length = true -> bs i = true) -> W bs w -> Fr N L0 a -> (∀ i d, dstAt l.toArray i = some d -> gW Gs i (a.tmps.getD d undef)) -> Q .normal a w) : (Code.region id l.toArray true).wp P Q a w0 := by
 refine wp_region_any hmx ?_
 have h := wpAny_W (Q := Q) (W := W) hdst hback hob (fun bs a w hb hx hf hd => ht bs a w (fun i hi => hb i (Nat.le_of_ble_eq_true hi)) hx hf fun i d hdi => by
  obtain ⟨o, ho, hdo⟩ := dstAt_spec hdi
  have hio : l[i]? = some o := by simpa using ho
  exact hd i o d (List.getElem?_eq_some_iff.1 hio).1 hio hdo) l.length (Array.replicate l.toArray.size false) a { w0 with drawn := w0.drawn + 1 }
  ⟨by simp, fun j oj _ hl => (by rw [getD_replicate_false] at hl; cases hl), fun t _ ht => getD_in (by simpa using ht) (getD_replicate_false _ _)⟩
  (cnt_none fun i _ => getD_replicate_false _ _) ⟨by
   have : (fun k => (Array.replicate l.toArray.size false).getD k false) = fun _ => false := by funext k; exact getD_replicate_false _ _
   rw [this]; exact hW, hf, fun i o d hl => (by rw [getD_replicate_false] at hl; cases hl)⟩
 simpa using h
end regw
end Dm

namespace Dm
open Go Go.RowKit
structure HV where
 ao : Option Addr
 len : Nat
 cap : Nat
abbrev Env := Nat -> Option HV
def Env.le (E E' : Env) : Prop := ∀ h x, E h = some x -> E' h = some x
theorem Env.le.rfl' (E : Env) : E.le E := fun _ _ e => e
theorem Env.le.tr {E E' E2 : Env} (h : E.le E') (k : E'.le E2) : E.le E2 := fun _ _ e => k _ _ (h _ _ e)
def Env.add (E : Env) (n : Nat) (x : HV) : Env := fun h => if h = n then some x else E h
theorem Env.le_add {E : Env} {n : Nat} {x : HV} (h : E n = none) : E.le (E.add n x) := fun k y e => by
 unfold Env.add
 by_cases hk : k = n
 · subst hk; rw [h] at e; cases e
 · rw [if_neg hk]; exact e
theorem Env.at_add {E : Env} {n : Nat} {x : HV} : (E.add n x) n = some x := if_pos rfl
def mapO {α β : Type} (f : α -> Option β) : List α -> Option (List β)
 | [] => some []
 | x :: xs => match f x with
  | none => none
  | some y => match mapO f xs with
   | none => none
   | some ys => some (y :: ys)
section mapO
variable {α β : Type} {f g : α -> Option β}
theorem mapO_cons {x : α} {xs : List α} {l : List β} (h : mapO f (x :: xs) = some l) : ∃ y ys, f x = some y /\ mapO f xs = some ys /\ l = y :: ys := by
 rw [mapO] at h
 split at h
 · cases h
 · rename_i y hy
   split at h
   · cases h
   · rename_i ys hys
     exact ⟨y, ys, hy, hys, (Option.some.inj h).symm⟩
theorem mapO_mk {x : α} {xs : List α} {y : β} {ys : List β} (h1 : f x = some y) (h2 : mapO f xs = some ys) : mapO f (x :: xs) = some (y :: ys) := by
 rw [mapO, h1, h2]
theorem mapO_mono (h : ∀ x y, f x = some y -> g x = some y) : ∀ {l : List α} {l' : List β}, mapO f l = some l' -> mapO g l = some l'
 | [], l', e => e
 | x :: xs, l', e => by
  obtain ⟨y, ys, h1, h2, rfl⟩ := mapO_cons e
  exact mapO_mk (h _ _ h1) (mapO_mono h h2)
theorem mapO_len : ∀ {l : List α} {l' : List β}, mapO f l = some l' -> l'.length = l.length
 | [], l', e => by cases e; rfl
 | x :: xs, l', e => by
  obtain ⟨y, ys, h1, h2, rfl⟩ := mapO_cons e
  simp [mapO_len h2]
theorem mapO_get : ∀ {l : List α} {l' : List β} {i : Nat} {x : α}, mapO f l = some l' -> l[i]? = some x -> ∃ y, l'[i]? = some y /\ f x = some y
 | [], l', i, x, _, h => by simp at h
 | z :: xs, l', 0, x, e, h => by
  obtain ⟨y, ys, h1, h2, rfl⟩ := mapO_cons e
  have : z = x := by simpa using h
  subst this
  exact ⟨y, by simp, h1⟩
 | z :: xs, l', i + 1, x, e, h => by
  obtain ⟨y, ys, h1, h2, rfl⟩ := mapO_cons e
  obtain ⟨u, h3, h4⟩ := mapO_get h2 (show xs[i]? = some x by simpa using h)
  exact ⟨u, by simpa using h3, h4⟩
theorem mapO_drop : ∀ (n : Nat) {l : List α} {l' : List β}, mapO f l = some l' -> mapO f (l.drop n) = some (l'.drop n)
 | 0, _, _, e => e
 | n + 1, [], l', e => by cases e; rfl
 | n + 1, x :: xs, l', e => by
  obtain ⟨y, ys, h1, h2, rfl⟩ := mapO_cons e
  simpa using mapO_drop n h2
theorem mapO_take : ∀ (n : Nat) {l : List α} {l' : List β}, mapO f l = some l' -> mapO f (l.take n) = some (l'.take n)
 | 0, _, _, _ => by simp [mapO]
 | n + 1, [], l', e => by cases e; rfl
 | n + 1, x :: xs, l', e => by
  obtain ⟨y, ys, h1, h2, rfl⟩ := mapO_cons e
  simpa using mapO_mk h1 (mapO_take n h2)
theorem mapO_app : ∀ {l k : List α} {l' k' : List β}, mapO f l = some l' -> mapO f k = some k' -> mapO f (l ++ k) = some (l' ++ k')
 | [], k, l', k', e, h => by cases e; exact h
 | x :: xs, k, l', k', e, h => by
  obtain ⟨y, ys, h1, h2, rfl⟩ := mapO_cons e
  exact mapO_mk h1 (mapO_app h2 h)
theorem mapO_set : ∀ {l : List α} {l' : List β} (i : Nat) {x : α} {y : β}, mapO f l = some l' -> f x = some y -> mapO f (l.set i x) = some (l'.set i y)
 | [], l', i, x, y, e, _ => by cases e; rfl
 | z :: xs, l', 0, x, y, e, h => by
  obtain ⟨u, ys, h1, h2, rfl⟩ := mapO_cons e
  exact mapO_mk h h2
 | z :: xs, l', i + 1, x, y, e, h => by
  obtain ⟨u, ys, h1, h2, rfl⟩ := mapO_cons e
  exact mapO_mk h1 (mapO_set i h2 h)
theorem mapO_map {γ : Type} {h : γ -> α} {k : γ -> β} (e : ∀ x, f (h x) = some (k x)) : ∀ l : List γ, mapO f (l.map h) = some (l.map k)
 | [] => rfl
 | x :: xs => mapO_mk (e x) (mapO_map e xs)
end mapO
def d0 (E : Env) (v : Value) : Option Value := match v with
 | .slice a n c => (match a with
  | none => (if n = 0 /\ c = 0 then some (.slice none 0 0) else none)
  | some p => (match E p.block with
   | some x => some (.slice x.ao x.len x.cap)
   | none => none))
 | .pointer a => (match a with
  | none => some (.pointer none)
  | some p => (match E p.block with
   | some ⟨some q, _, _⟩ => some (.pointer (some ⟨q.block, q.off + p.off, none⟩))
   | _ => none))
 | .map r => (match r with
  | none => some (.map none)
  | some h => (match E h with
   | some ⟨some q, _, _⟩ => some (.map (some q.block))
   | _ => none))
 | .func _ _ _ => none
 | .agg _ => none
 | .tuple _ => none
 | v => some v
def dF (E : Env) (v : Value) : Option Value := match v with
 | .func f fst cap => (match mapO (d0 E) fst.toList with
  | some a => (match mapO (d0 E) cap.toList with
   | some b => some (.func f a.toArray b.toArray)
   | none => none)
  | none => none)
 | v => d0 E v
def dA (E : Env) (v : Value) : Option Value := match v with
 | .agg cs => (match mapO (dF E) cs.toList with
  | some l => some (.agg l.toArray)
  | none => none)
 | v => dF E v
def dV (E : Env) (v : Value) : Option Value := match v with
 | .tuple vs => (match mapO (dA E) vs.toList with
  | some l => some (.tuple l.toArray)
  | none => none)
 | v => dA E v
section den
variable {E E' : Env}
theorem d0_mono (hE : E.le E') {v u : Value} (h : d0 E v = some u) : d0 E' v = some u := by
 unfold d0 at *
 split at h
 · split at h
   · exact h
   · split at h
     · rename_i x hx; rw [hE _ _ hx]; exact h
     · cases h
 · split at h
   · exact h
   · split at h
     · rename_i q n c hx; rw [hE _ _ hx]; exact h
     · cases h
 · split at h
   · exact h
   · split at h
     · rename_i q n c hx; rw [hE _ _ hx]; exact h
     · cases h
 · cases h
 · cases h
 · cases h
 · exact h
theorem dF_mono (hE : E.le E') {v u : Value} (h : dF E v = some u) : dF E' v = some u := by
 unfold dF at *
 split at h
 · split at h
   · rename_i a ha
     split at h
     · rename_i b hb
       rw [mapO_mono (fun _ _ => d0_mono hE) ha, mapO_mono (fun _ _ => d0_mono hE) hb]; exact h
     · cases h
   · cases h
 · exact d0_mono hE h
theorem dA_mono (hE : E.le E') {v u : Value} (h : dA E v = some u) : dA E' v = some u := by
 unfold dA at *
 split at h
 · split at h
   · rename_i l hl
     rw [mapO_mono (fun _ _ => dF_mono hE) hl]; exact h
   · cases h
 · exact dF_mono hE h
theorem dV_mono (hE : E.le E') {v u : Value} (h : dV E v = some u) : dV E' v = some u := by
 unfold dV at *
 split at h
 · split at h
   · rename_i l hl
     rw [mapO_mono (fun _ _ => dA_mono hE) hl]; exact h
   · cases h
 · exact dA_mono hE h
theorem dF_of0 {v u : Value} (h : d0 E v = some u) : dF E v = some u := by
 unfold dF; split
 · simp [d0] at h
 · exact h
theorem dA_ofF {v u : Value} (h : dF E v = some u) : dA E v = some u := by
 unfold dA; split
 · simp [dF, d0] at h
 · exact h
theorem dV_ofA {v u : Value} (h : dA E v = some u) : dV E v = some u := by
 unfold dV; split
 · simp [dA, dF, d0] at h
 · exact h
theorem dV_ofF {v u : Value} (h : dF E v = some u) : dV E v = some u := dV_ofA (dA_ofF h)
theorem dV_int {k : IntKind} {n : Int} {u : Value} (h : dV E (.int k n) = some u) : u = .int k n := (Option.some.inj h).symm
theorem dV_bool {b : Bool} {u : Value} (h : dV E (.bool b) = some u) : u = .bool b := (Option.some.inj h).symm
theorem dV_str {b : ByteArray} {u : Value} (h : dV E (.string b) = some u) : u = .string b := (Option.some.inj h).symm
theorem dA_agg {cs : Array Value} {u : Value} (h : dA E (.agg cs) = some u) : ∃ ds, u = .agg ds /\ mapO (dF E) cs.toList = some ds.toList := by
 unfold dA at h
 dsimp only at h
 split at h
 · rename_i l hl
   exact ⟨l.toArray, (Option.some.inj h).symm, by simpa using hl⟩
 · cases h
theorem dA_agg_mk {cs ds : Array Value} (h : mapO (dF E) cs.toList = some ds.toList) : dA E (.agg cs) = some (.agg ds) := by
 unfold dA
 simp only [h]
theorem dV_agg {cs : Array Value} {u : Value} (h : dV E (.agg cs) = some u) : ∃ ds, u = .agg ds /\ mapO (dF E) cs.toList = some ds.toList := dA_agg h
theorem dV_agg_mk {cs ds : Array Value} (h : mapO (dF E) cs.toList = some ds.toList) : dV E (.agg cs) = some (.agg ds) := dA_agg_mk h
theorem dV_tuple {vs : Array Value} {u : Value} (h : dV E (.tuple vs) = some u) : ∃ ds, u = .tuple ds /\ mapO (dA E) vs.toList = some ds.toList := by
 unfold dV at h
 dsimp only at h
 split at h
 · rename_i l hl
   exact ⟨l.toArray, (Option.some.inj h).symm, by simpa using hl⟩
 · cases h
theorem dV_tuple_mk {cs ds : Array Value} (h : mapO (dA E) cs.toList = some ds.toList) : dV E (.tuple cs) = some (.tuple ds) := by
 unfold dV
 simp only [h]
theorem dV_ptr {b o : Nat} {sp : Option Nat} {u : Value} (h : dV E (.pointer (some ⟨b, o, sp⟩)) = some u) : ∃ q n c, E b = some ⟨some q, n, c⟩ /\ u = .pointer (some ⟨q.block, q.off + o, none⟩) := by
 simp only [dV, dA, dF, d0] at h
 split at h
 · rename_i q n c hq
   exact ⟨q, n, c, hq, (Option.some.inj h).symm⟩
 · cases h
theorem dV_sl {p : Addr} {n c : Nat} {u : Value} (h : dV E (.slice (some p) n c) = some u) : ∃ x, E p.block = some x /\ u = .slice x.ao x.len x.cap := by
 simp only [dV, dA, dF, d0] at h
 split at h
 · rename_i x hx
   exact ⟨x, hx, (Option.some.inj h).symm⟩
 · cases h
theorem dV_nil {n c : Nat} {u : Value} (h : dV E (.slice none n c) = some u) : n = 0 /\ c = 0 /\ u = .slice none 0 0 := by
 simp only [dV, dA, dF, d0] at h
 split at h
 · rename_i hx
   exact ⟨hx.1, hx.2, (Option.some.inj h).symm⟩
 · cases h
theorem dV_map {r : Nat} {u : Value} (h : dV E (.map (some r)) = some u) : ∃ q n c, E r = some ⟨some q, n, c⟩ /\ u = .map (some q.block) := by
 simp only [dV, dA, dF, d0] at h
 split at h
 · rename_i q n c hq
   exact ⟨q, n, c, hq, (Option.some.inj h).symm⟩
 · cases h
theorem dF_func {f : Fn} {fst cap : Array Value} {u : Value} (h : dF E (.func f fst cap) = some u) : ∃ a b, u = .func f a b /\ mapO (d0 E) fst.toList = some a.toList /\ mapO (d0 E) cap.toList = some b.toList := by
 simp only [dF] at h
 split at h
 · rename_i a ha
   split at h
   · rename_i b hb
     exact ⟨a.toArray, b.toArray, (Option.some.inj h).symm, by simpa using ha, by simpa using hb⟩
   · cases h
 · cases h
theorem dV_func {f : Fn} {fst cap : Array Value} {u : Value} (h : dV E (.func f fst cap) = some u) : ∃ a b, u = .func f a b /\ mapO (d0 E) fst.toList = some a.toList /\ mapO (d0 E) cap.toList = some b.toList := dF_func h
theorem dV_func_mk {f : Fn} {fst cap a b : Array Value} (h1 : mapO (d0 E) fst.toList = some a.toList) (h2 : mapO (d0 E) cap.toList = some b.toList) : dV E (.func f fst cap) = some (.func f a b) := by
 simp only [dV, dA, dF, h1, h2]
theorem dV_cells {v u : Value} (h : dA E v = some u) : mapO (dF E) v.cells.toList = some u.cells.toList := by
 by_cases hv : ∃ cs, v = .agg cs
 · obtain ⟨cs, rfl⟩ := hv
   obtain ⟨ds, rfl, hd⟩ := dA_agg h
   exact hd
 · have h1 : dF E v = some u := by
    unfold dA at h
    split at h
    · exact absurd ⟨_, rfl⟩ hv
    · exact h
   have e1 : v.cells = #[v] := by
    unfold Value.cells; split
    · exact absurd ⟨_, rfl⟩ hv
    · rfl
   have hu : ∀ cs, u ≠ .agg cs := by
    rintro cs rfl
    unfold dF at h1
    split at h1
    · split at h1
      · split at h1 <;> simp at h1
      · simp at h1
    · unfold d0 at h1
      split at h1
      · split at h1
        · split at h1 <;> simp at h1
        · split at h1 <;> simp at h1
      · split at h1
        · simp at h1
        · split at h1 <;> simp at h1
      · split at h1
        · simp at h1
        · split at h1 <;> simp at h1
      · cases h1
      · cases h1
      · cases h1
      · simp only [Option.some.injEq] at h1
        exact hv ⟨cs, h1⟩
   have e2 : u.cells = #[u] := by
    unfold Value.cells; split
    · exact absurd rfl (hu _)
    · rfl
   rw [e1, e2]
   exact mapO_mk h1 rfl
end den
def LR (E : Env) : List (Nat × Value) -> List (Nat × Value) -> Prop
 | [], L' => L' = []
 | p :: L, L' => ∃ u M, L' = (p.1, u) :: M /\ dV E p.2 = some u /\ LR E L M
section lr
variable {E E' : Env}
theorem LR.mono (hE : E.le E') : ∀ {L L' : List (Nat × Value)}, LR E L L' -> LR E' L L'
 | [], _, h => h
 | _ :: _, _, ⟨u, M, h1, h2, h3⟩ => ⟨u, M, h1, dV_mono hE h2, h3.mono hE⟩
theorem LR.look : ∀ {L L' : List (Nat × Value)} {t : Nat} {v : Value}, LR E L L' -> asc L t = some v -> ∃ u, asc L' t = some u /\ dV E v = some u
 | [], _, t, v, _, h => by simp [asc] at h
 | p :: L, _, t, v, ⟨u, M, rfl, h2, h3⟩, h => by
  rw [asc] at h ⊢
  dsimp only
  cases hb : Nat.beq p.1 t with
  | true => simp only [hb] at h ⊢; cases h; exact ⟨u, rfl, h2⟩
  | false => simp only [hb] at h ⊢; exact h3.look h
theorem LR.er (d : Nat) : ∀ {L L' : List (Nat × Value)}, LR E L L' -> LR E (Dm.er d L) (Dm.er d L')
 | [], _, h => by cases h; rfl
 | p :: L, _, ⟨u, M, rfl, h2, h3⟩ => by
  rw [Dm.er, Dm.er]
  dsimp only
  cases hb : Nat.beq p.1 d with
  | true => exact h3.er d
  | false => exact ⟨u, _, rfl, h2, h3.er d⟩
theorem LR.put (d : Nat) {v u : Value} {L L' : List (Nat × Value)} (h : LR E L L') (hv : dV E v = some u) : LR E ((d, v) :: Dm.er d L) ((d, u) :: Dm.er d L') := ⟨u, _, rfl, hv, h.er d⟩
end lr
def erS (d : Nat) : List (Nat × Value) -> Option (List (Nat × Value))
 | [] => some []
 | p :: L => match erS d L with
  | some r => (match Nat.beq p.1 d with
   | true => some r
   | false => some (p :: r))
  | none => none
theorem erS_eq (d : Nat) : ∀ L : List (Nat × Value), erS d L = some (er d L)
 | [] => rfl
 | p :: L => by
  rw [erS, erS_eq d L, Dm.er]
  cases h : Nat.beq p.1 d <;> simp
def plainC (v : Value) : Bool := match v with
 | .bool _ => true
 | .int _ _ => true
 | .string _ => true
 | .slice a n c => (match a with
  | none => Nat.beq n 0 && Nat.beq c 0
  | some _ => false)
 | .pointer a => (match a with
  | none => true
  | some _ => false)
 | .map a => (match a with
  | none => true
  | some _ => false)
 | .nilFunc => true
 | .tuple vs => (match vs.toList with
  | [] => true
  | _ => false)
 | _ => false
theorem plainC_ok (E : Env) {v : Value} (h : plainC v = true) : dV E v = some v := by
 unfold plainC at h
 split at h
 · rfl
 · rfl
 · rfl
 · split at h
   · simp only [Bool.and_eq_true] at h
     have h1 := Nat.eq_of_beq_eq_true h.1
     have h2 := Nat.eq_of_beq_eq_true h.2
     subst h1 h2; rfl
   · cases h
 · split at h
   · rfl
   · cases h
 · split at h
   · rfl
   · cases h
 · rfl
 · rename_i vs
   split at h
   · rename_i he
     have : vs = #[] := by simpa using he
     subst this; rfl
   · cases h
 · cases h
def okO (o : Operand) : Bool := match o with
 | .tmp _ => true
 | .const v => plainC v
 | .global _ => false
 | .func _ => true
def okOs : List Operand -> Bool
 | [] => true
 | o :: os => match okO o with
  | true => okOs os
  | false => false
theorem okOs_cons {o : Operand} {os : List Operand} (h : okOs (o :: os) = true) : okO o = true /\ okOs os = true := by
 rw [okOs] at h
 split at h
 · exact ⟨‹_›, h⟩
 · cases h
section sim
variable {E : Env} {tb : Tb} {L L' : List (Nat × Value)}
theorem evO_rel (hL : LR E L L') {o : Operand} {v : Value} (ho : okO o = true) (h : evO L o = some v) : ∃ u, evO L' o = some u /\ dV E v = some u := by
 cases o with
 | tmp t => exact hL.look h
 | const c =>
  simp only [evO, Option.some.injEq] at h
  subst h
  exact ⟨_, rfl, plainC_ok E ho⟩
 | global g => cases ho
 | func f =>
  simp only [evO, Option.some.injEq] at h
  subst h
  exact ⟨_, rfl, rfl⟩
theorem evL_rel (hL : LR E L L') : ∀ {os : List Operand} {vs : List Value}, okOs os = true -> evL L os = some vs -> ∃ us, evL L' os = some us /\ mapO (dV E) vs = some us
 | [], vs, _, h => by cases h; exact ⟨[], rfl, rfl⟩
 | o :: os, vs, ho, h => by
  obtain ⟨h1, h2⟩ := okOs_cons ho
  rw [evL] at h
  split at h
  · cases h
  · rename_i v hv
    split at h
    · cases h
    · rename_i r hr
      cases h
      obtain ⟨u, e1, e2⟩ := evO_rel hL h1 hv
      obtain ⟨us, e3, e4⟩ := evL_rel hL h2 hr
      exact ⟨u :: us, by rw [evL, e1, e3], mapO_mk e2 e4⟩
end sim
end Dm

namespace Dm
open Go Go.RowKit
def atomV (v : Value) : Bool := match v with
 | .func _ _ _ => false
 | .agg _ => false
 | .tuple _ => false
 | _ => true
def notTup (v : Value) : Bool := match v with
 | .tuple _ => false
 | _ => true
def atomVs : List Value -> Bool
 | [] => true
 | v :: vs => match atomV v with
  | true => atomVs vs
  | false => false
theorem dV_atom {E : Env} {v : Value} (h : atomV v = true) : dV E v = d0 E v := by
 cases v <;> first | rfl | cases h
theorem dV_notTup {E : Env} {v : Value} (h : notTup v = true) : dV E v = dA E v := by
 cases v <;> first | rfl | cases h
theorem mapO_atoms {E : Env} : ∀ {vs us : List Value}, atomVs vs = true -> mapO (dV E) vs = some us -> mapO (d0 E) vs = some us
 | [], us, _, h => h
 | v :: vs, us, ha, h => by
  rw [atomVs] at ha
  split at ha
  · rename_i hv
    obtain ⟨y, ys, h1, h2, rfl⟩ := mapO_cons h
    exact mapO_mk (by rw [<- dV_atom hv]; exact h1) (mapO_atoms ha h2)
  · cases ha
def plainF (v : Value) : Bool := match plainC v with
 | true => atomV v
 | false => false
def plainFs : List Value -> Bool
 | [] => true
 | v :: vs => match plainF v with
  | true => plainFs vs
  | false => false
theorem plainF_ok (E : Env) {v : Value} (h : plainF v = true) : dF E v = some v := by
 unfold plainF at h
 split at h
 · rename_i hp
   have := plainC_ok E hp
   rw [dV_atom h] at this
   exact dF_of0 this
 · cases h
theorem plainFs_ok (E : Env) : ∀ {vs : List Value}, plainFs vs = true -> mapO (dF E) vs = some vs
 | [], _ => rfl
 | v :: vs, h => by
  rw [plainFs] at h
  split at h
  · exact mapO_mk (plainF_ok E ‹_›) (plainFs_ok E h)
  · cases h
section sim
variable {E : Env} {tb : Tb} {L L' : List (Nat × Value)}
theorem partT_rel {t : Nat} {cs ds : Array Value} {off : Nat} {v : Value} (hc : mapO (dF E) cs.toList = some ds.toList) (h : partT tb t cs off = some v) : ∃ u, partT tb t ds off = some u /\ dA E v = some u := by
 unfold partT at *
 split at h
 · split at h
   · split at h
     · rename_i i hi
       cases h
       refine ⟨_, rfl, dA_agg_mk ?_⟩
       simp only [Array.toList_extract, List.extract]
       exact mapO_take _ (mapO_drop _ hc)
     · cases h
   · obtain ⟨u, h1, h2⟩ := mapO_get hc h
     exact ⟨u, h1, dA_ofF h2⟩
 · cases h
theorem eqFs_rel {eqv : Nat -> Value -> Value -> Option Bool} (hv : ∀ (t : Nat) (x y : Value) (r : Bool) (x' y' : Value), eqv t x y = some r -> dA E x = some x' -> dA E y = some y' -> eqv t x' y' = some r) {xs ys xs' ys' : Array Value} (hx : mapO (dF E) xs.toList = some xs'.toList) (hy : mapO (dF E) ys.toList = some ys'.toList) :
    ∀ {fs : List Field} {r : Bool}, eqFs tb eqv xs ys fs = some r -> eqFs tb eqv xs' ys' fs = some r
 | [], r, h => h
 | f :: fs, r, h => by
  unfold eqFs at h ⊢
  split at h
  · cases h
  · split at h
    · rename_i a ha
      split at h
      · rename_i b hb
        split at h
        · rename_i q hq
          obtain ⟨a', ha1, ha2⟩ := partT_rel hx ha
          obtain ⟨b', hb1, hb2⟩ := partT_rel hy hb
          simp only [ha1, hb1, hv _ _ _ _ _ _ hq ha2 hb2]
          split at h
          · exact h
          · split at h
            · rename_i q2 hq2
              simp only [eqFs_rel hv hx hy hq2]; exact h
            · cases h
        · cases h
      · cases h
    · cases h
theorem eqVs_rel : ∀ (d : Nat) {t : Nat} {x y x' y' : Value} {r : Bool}, eqVs tb d t x y = some r -> dA E x = some x' -> dA E y = some y' -> eqVs tb d t x' y' = some r
 | 0, t, x, y, x', y', r, h, _, _ => by simp [eqVs] at h
 | d + 1, t, x, y, x', y', r, h, hx, hy => by
  unfold eqVs at h ⊢
  split at h
  · split at h
    · split at h
      · cases hx; cases hy; exact h
      · cases h
    · cases h
  · split at h
    · split at h
      · cases hx; cases hy; exact h
      · cases h
    · cases h
  · split at h
    · split at h
      · cases hx; cases hy; exact h
      · cases h
    · cases h
  · split at h
    · split at h
      · split at h
        · rename_i xs _ ys hm
          obtain ⟨xs', rfl, h1⟩ := dA_agg hx
          obtain ⟨ys', rfl, h2⟩ := dA_agg hy
          simp only [hm]
          exact eqFs_rel (eqv := eqVs tb d) (fun _ _ _ _ _ _ hq a b => eqVs_rel d hq a b) h1 h2 h
        · cases h
      · cases h
    · cases h
  · cases h
theorem foldset_rel (off : Nat) : ∀ (vs us : List Value) (k : Nat) (cs ds : Array Value), mapO (dF E) vs = some us -> mapO (dF E) cs.toList = some ds.toList ->
    mapO (dF E) ((vs.zipIdx k).foldl (fun cs x => cs.setIfInBounds (off + x.2) x.1) cs).toList = some ((us.zipIdx k).foldl (fun cs x => cs.setIfInBounds (off + x.2) x.1) ds).toList
 | [], us, k, cs, ds, h, hc => by cases h; exact hc
 | v :: vs, us, k, cs, ds, h, hc => by
  obtain ⟨u, us, h1, h2, rfl⟩ := mapO_cons h
  simp only [List.zipIdx_cons, List.foldl_cons]
  refine foldset_rel off vs us (k + 1) _ _ h2 ?_
  simp only [Array.toList_setIfInBounds]
  exact mapO_set _ hc h1
theorem fill_rel {place : Nat -> Option (Nat × Nat)} : ∀ {ps ps' : List (Nat × Value)} {cs ds cs' : Array Value}, mapO (dF E) cs.toList = some ds.toList -> Instr.fill place cs ps = some cs' ->
    (mapO (fun p => (dA E p.2).map fun u => (p.1, u)) ps = some ps') -> ∃ ds', Instr.fill place ds ps' = some ds' /\ mapO (dF E) cs'.toList = some ds'.toList
 | [], ps', cs, ds, cs', hc, h, hp => by
  cases hp
  simp only [Instr.fill, Option.some.injEq] at h
  subst h
  exact ⟨ds, rfl, hc⟩
 | p :: ps, ps', cs, ds, cs', hc, h, hp => by
  obtain ⟨q, qs, h1, h2, rfl⟩ := mapO_cons hp
  obtain ⟨i, v⟩ := p
  dsimp only at h1
  cases hu : dA E v with
  | none => rw [hu] at h1; cases h1
  | some u =>
   rw [hu] at h1
   simp only [Option.map_some, Option.some.injEq] at h1
   subst h1
   have hcl := dV_cells hu
   have e1 : u.cells.size = v.cells.size := by simpa using mapO_len hcl
   have e2 : ds.size = cs.size := by simpa using mapO_len hc
   unfold Instr.fill at h ⊢
   dsimp only at h ⊢
   split at h
   · cases h
   · rename_i off size hpl
     split at h
     · cases h
     · rename_i hno
       rw [e1, e2, if_neg hno]
       refine fill_rel ?_ h h2
       have := foldset_rel off _ _ 0 cs ds hcl hc
       rw [<- Array.foldl_toList, <- Array.foldl_toList, Array.toList_zipIdx, Array.toList_zipIdx]
       exact this
def notTups : List (Nat × Value) -> Bool
 | [] => true
 | p :: ps => match notTup p.2 with
  | true => notTups ps
  | false => false
def pureS (tb : Tb) (L : List (Nat × Value)) (op : Op) : Option Value := match okOs op.operands.toList with
 | true => (match op with
  | .call _ => none
  | .build t parts => (match evP L parts.toList with
   | some ps => (match notTups ps with
    | true => (match asc tb.info t with
     | some i => (match plainFs i.1.cells.toList with
      | true => pureOp tb L (.build t parts)
      | false => none)
     | none => none)
    | false => none)
   | none => none)
  | .makeFunc fn fst cap => (match evL L fst.toList with
   | some fs => (match evL L cap.toList with
    | some cs => (match atomVs fs with
     | true => (match atomVs cs with
      | true => some (.func fn fs.toArray cs.toArray)
      | false => none)
     | false => none)
    | none => none)
   | none => none)
  | op => pureOp tb L op)
 | false => none
theorem evP_rel (hL : LR E L L') : ∀ {ps : List (Nat × Operand)} {vs : List (Nat × Value)}, okOs (ps.map (·.2)) = true -> evP L ps = some vs -> notTups vs = true -> ∃ us, evP L' ps = some us /\ mapO (fun p => (dA E p.2).map fun u => (p.1, u)) vs = some us
 | [], vs, _, h, _ => by cases h; exact ⟨[], rfl, rfl⟩
 | p :: ps, vs, ho, h, hn => by
  obtain ⟨h1, h2⟩ := okOs_cons ho
  rw [evP] at h
  split at h
  · rename_i v hv
    split at h
    · rename_i r hr
      cases h
      rw [notTups] at hn
      split at hn
      · rename_i hn1
        obtain ⟨u, e1, e2⟩ := evO_rel hL h1 hv
        rw [dV_notTup hn1] at e2
        obtain ⟨us, e3, e4⟩ := evP_rel hL h2 hr hn
        exact ⟨(p.1, u) :: us, by rw [evP, e1, e3], mapO_mk (by simp [e2]) e4⟩
      · cases hn
    · cases h
  · cases h
theorem pk_n1 {b : Bool} {x y : Option Value} (h : ∀ p, x ≠ some (.bool p)) : pk b x y = if b then x else y := by
 unfold pk
 split
 · rename_i p; exact absurd rfl (h p)
 · cases b <;> rfl
theorem pk_n2 {b : Bool} {x y : Option Value} (h : ∀ p, y ≠ some (.bool p)) : pk b x y = if b then x else y := by
 unfold pk
 split
 · split
   · rename_i p; exact absurd rfl (h p)
   · cases b <;> rfl
 · cases b <;> rfl
theorem dV_inv_bool {v : Value} {p : Bool} (h : dV E v = some (.bool p)) : v = .bool p := by
 unfold dV at h
 split at h
 · split at h <;> simp at h
 · unfold dA at h
   split at h
   · split at h <;> simp at h
   · unfold dF at h
     split at h
     · split at h
       · split at h <;> simp at h
       · simp at h
     · unfold d0 at h
       split at h
       · split at h
         · split at h <;> simp at h
         · split at h <;> simp at h
       · split at h
         · simp at h
         · split at h <;> simp at h
       · split at h
         · simp at h
         · split at h <;> simp at h
       · cases h
       · cases h
       · cases h
       · simpa using h
def OV (E : Env) (x x' : Option Value) : Prop := (x = none /\ x' = none) \/ ∃ v u, x = some v /\ x' = some u /\ dV E v = some u
theorem OV.nb {x x' : Option Value} (h : OV E x x') (hx : ∀ p, x ≠ some (.bool p)) : ∀ p, x' ≠ some (.bool p) := by
 rintro p rfl
 rcases h with ⟨_, h⟩ | ⟨v, u, rfl, h, hd⟩
 · cases h
 · cases h
   exact hx p (by rw [dV_inv_bool hd])
theorem OV.some {x x' : Option Value} {v : Value} (h : OV E x x') (hx : x = some v) : ∃ u, x' = some u /\ dV E v = some u := by
 subst hx
 rcases h with ⟨h, _⟩ | ⟨v, u, h, h1, h2⟩
 · cases h
 · cases h; exact ⟨u, h1, h2⟩
theorem pk_rel {b : Bool} {x y x' y' : Option Value} {v : Value} (hx : OV E x x') (hy : OV E y y') (h : pk b x y = some v) : ∃ u, pk b x' y' = some u /\ dV E v = some u := by
 by_cases h1 : ∃ p, x = some (.bool p)
 · by_cases h2 : ∃ q, y = some (.bool q)
   · obtain ⟨p, rfl⟩ := h1
     obtain ⟨q, rfl⟩ := h2
     obtain ⟨u1, rfl, f1⟩ := hx.some rfl
     obtain ⟨u2, rfl, f2⟩ := hy.some rfl
     rw [dV_bool f1, dV_bool f2]
     exact ⟨v, h, by simp only [pk, Option.some.injEq] at h; subst h; rfl⟩
   · have h2' : ∀ p, y ≠ some (.bool p) := fun p hp => h2 ⟨p, hp⟩
     rw [pk_n2 h2'] at h
     rw [pk_n2 (hy.nb h2')]
     cases b
     · exact hy.some h
     · exact hx.some h
 · have h1' : ∀ p, x ≠ some (.bool p) := fun p hp => h1 ⟨p, hp⟩
   rw [pk_n1 h1'] at h
   rw [pk_n1 (hx.nb h1')]
   cases b
   · exact hy.some h
   · exact hx.some h
theorem LR.none : ∀ {L L' : List (Nat × Value)} {t : Nat}, LR E L L' -> asc L t = none -> asc L' t = none
 | [], _, t, h, _ => by cases h; rfl
 | p :: L, _, t, ⟨u, M, rfl, h2, h3⟩, h => by
  rw [asc] at h ⊢
  dsimp only
  cases hb : Nat.beq p.1 t with
  | true => simp only [hb] at h; cases h
  | false => simp only [hb] at h ⊢; exact h3.none h
theorem evO_OV (hL : LR E L L') {o : Operand} (ho : okO o = true) : OV E (evO L o) (evO L' o) := by
 cases h : evO L o with
 | some v => obtain ⟨u, h1, h2⟩ := evO_rel hL ho h; exact .inr ⟨v, u, rfl, h1, h2⟩
 | none =>
  refine .inl ⟨rfl, ?_⟩
  cases o with
  | tmp t => exact hL.none h
  | const c => cases h
  | global g => cases h
  | func f => cases h
theorem pureS_rel (hL : LR E L L') {op : Op} {v : Value} (h : pureS tb L op = some v) : ∃ u, pureOp tb L' op = some u /\ dV E v = some u := by
 unfold pureS at h
 split at h
 · rename_i ho
   cases op <;> simp only [pureOp, reduceCtorEq] at h
   case build t parts =>
    split at h
    · rename_i ps hps
      split at h
      · rename_i hn
        split at h
        · rename_i i hi
          split at h
          · rename_i hz
            have ho2 : okOs (parts.toList.map (·.2)) = true := by simpa [Op.operands] using ho
            obtain ⟨ps', e1, e2⟩ := evP_rel hL ho2 hps hn
            simp only [pureOp, hps] at h
            simp only [pureOp, e1]
            split at h
            · rename_i cs hcs
              cases h
              unfold builtT at hcs ⊢
              simp only [hi] at hcs ⊢
              split at hcs
              · split at hcs
                · obtain ⟨ds, h1, h2⟩ := fill_rel (plainFs_ok E hz) hcs e2
                  simp only [h1]
                  exact ⟨_, rfl, dV_agg_mk h2⟩
                · cases hcs
              · split at hcs
                · obtain ⟨ds, h1, h2⟩ := fill_rel (plainFs_ok E hz) hcs e2
                  simp only [h1]
                  exact ⟨_, rfl, dV_agg_mk h2⟩
                · cases hcs
              · cases hcs
            · cases h
          · cases h
        · cases h
      · cases h
    · cases h
   case makeFunc fn fst cap =>
    split at h
    · rename_i fs hfs
      split at h
      · rename_i cs hcs
        split at h
        · rename_i h1
          split at h
          · rename_i h2
            cases h
            have ho2 : okOs (fst.toList ++ cap.toList) = true := by simpa [Op.operands] using ho
            have happ : ∀ {a b : List Operand}, okOs (a ++ b) = true -> okOs a = true /\ okOs b = true := by
             intro a b
             induction a with
             | nil => intro h; exact ⟨rfl, h⟩
             | cons x xs ih =>
              intro h
              obtain ⟨h1, h2⟩ := okOs_cons h
              obtain ⟨h3, h4⟩ := ih h2
              exact ⟨by rw [okOs, h1]; exact h3, h4⟩
            obtain ⟨o1, o2⟩ := happ ho2
            obtain ⟨fs', e1, e2⟩ := evL_rel hL o1 hfs
            obtain ⟨cs', e3, e4⟩ := evL_rel hL o2 hcs
            simp only [pureOp, e1, e3]
            exact ⟨_, rfl, dV_func_mk (by simpa using mapO_atoms h1 e2) (by simpa using mapO_atoms h2 e4)⟩
          · cases h
        · cases h
      · cases h
    · cases h
   case move x => exact evO_rel hL (okOs_cons ho).1 h
   case assign x => exact evO_rel hL (okOs_cons ho).1 h
   case pick c x y =>
    have o1 := (okOs_cons ho).1
    have o2 := (okOs_cons (okOs_cons ho).2).1
    have o3 := (okOs_cons (okOs_cons (okOs_cons ho).2).2).1
    split at h
    · rename_i b hc
      obtain ⟨u, e1, e2⟩ := evO_rel hL o1 hc
      rw [dV_bool e2] at e1
      simp only [pureOp, e1]
      exact pk_rel (evO_OV hL o2) (evO_OV hL o3) h
    · cases h
   case unOp op ty x =>
    have o1 := (okOs_cons ho).1
    split at h
    · rename_i b hc
      obtain ⟨u, e1, e2⟩ := evO_rel hL o1 hc
      rw [dV_bool e2] at e1
      simp only [pureOp, e1]
      refine ⟨v, h, ?_⟩
      split at h
      · cases h; rfl
      · cases h
    · rename_i k n hc
      obtain ⟨u, e1, e2⟩ := evO_rel hL o1 hc
      rw [dV_int e2] at e1
      simp only [pureOp, e1]
      refine ⟨v, h, ?_⟩
      split at h
      · cases h; rfl
      · cases h; rfl
      · cases h
    · cases h
   case binOp op t x y t' =>
    have o1 := (okOs_cons ho).1
    have o2 := (okOs_cons (okOs_cons ho).2).1
    split at h
    · rename_i k n hx
      obtain ⟨u, e1, e2⟩ := evO_rel hL o1 hx
      rw [dV_int e2] at e1
      split at h
      · rename_i k' m hy
        obtain ⟨u', e3, e4⟩ := evO_rel hL o2 hy
        rw [dV_int e4] at e3
        simp only [pureOp, e1, e3]
        refine ⟨v, h, ?_⟩
        unfold intBin at h
        split at h
        · split at h <;> cases h; rfl
        · split at h <;> cases h; rfl
        · split at h
          · cases h
          · split at h <;> (first | (cases h; rfl) | (split at h <;> cases h; rfl) | cases h)
      · cases h
    · rename_i s hx
      obtain ⟨u, e1, e2⟩ := evO_rel hL o1 hx
      rw [dV_str e2] at e1
      split at h
      · rename_i s' hy
        obtain ⟨u', e3, e4⟩ := evO_rel hL o2 hy
        rw [dV_str e4] at e3
        simp only [pureOp, e1, e3]
        refine ⟨v, h, ?_⟩
        unfold strBin at h
        split at h <;> cases h <;> rfl
      · cases h
    · rename_i xs hx
      obtain ⟨u, e1, e2⟩ := evO_rel hL o1 hx
      obtain ⟨xs', rfl, hxs⟩ := dV_agg e2
      split at h
      · rename_i ys hy
        obtain ⟨u', e3, e4⟩ := evO_rel hL o2 hy
        obtain ⟨ys', rfl, hys⟩ := dV_agg e4
        split at h
        · rename_i hm
          split at h
          · rename_i q hq
            have hq' := eqVs_rel 10 hq (dA_agg_mk hxs) (dA_agg_mk hys)
            simp only [pureOp, e1, e3, hm, hq']
            refine ⟨v, h, ?_⟩
            split at h <;> cases h <;> rfl
          · cases h
        · cases h
      · cases h
    · rename_i p hx
      obtain ⟨u, e1, e2⟩ := evO_rel hL o1 hx
      rw [dV_bool e2] at e1
      split at h
      · rename_i q hy
        obtain ⟨u', e3, e4⟩ := evO_rel hL o2 hy
        rw [dV_bool e4] at e3
        simp only [pureOp, e1, e3]
        refine ⟨v, h, ?_⟩
        split at h
        · split at h <;> cases h <;> rfl
        · cases h
      · cases h
    · cases h
   case convert src dst x =>
    have o1 := (okOs_cons ho).1
    split at h
    · rename_i k n hx
      obtain ⟨u, e1, e2⟩ := evO_rel hL o1 hx
      rw [dV_int e2] at e1
      simp only [pureOp, e1]
      refine ⟨v, h, ?_⟩
      split at h
      · split at h
        · cases h; rfl
        · cases h
      · cases h
    · rename_i s hx
      obtain ⟨u, e1, e2⟩ := evO_rel hL o1 hx
      rw [dV_str e2] at e1
      simp only [pureOp, e1]
      refine ⟨v, h, ?_⟩
      split at h
      · split at h
        · cases h; rfl
        · cases h
      · cases h
    · cases h
   case field t x f =>
    have o1 := (okOs_cons ho).1
    split at h
    · rename_i cs hx
      obtain ⟨u, e1, e2⟩ := evO_rel hL o1 hx
      obtain ⟨ds, rfl, hds⟩ := dV_agg e2
      simp only [pureOp, e1]
      split at h
      · split at h
        · obtain ⟨u, h4, h5⟩ := partT_rel hds h
          exact ⟨u, h4, dV_ofA h5⟩
        · cases h
      · cases h
    · cases h
   case fieldAddr t x f =>
    have o1 := (okOs_cons ho).1
    split at h
    · rename_i b o hx
      obtain ⟨u, e1, e2⟩ := evO_rel hL o1 hx
      obtain ⟨q, n, c, hE, rfl⟩ := dV_ptr e2
      simp only [pureOp, e1]
      split at h
      · split at h
        · split at h
          · split at h
            · cases h
            · cases h
              refine ⟨_, rfl, ?_⟩
              simp only [dV, dA, dF, d0, hE, Nat.add_assoc]
          · cases h
        · cases h
      · cases h
    · cases h
   case extract x i =>
    have o1 := (okOs_cons ho).1
    split at h
    · rename_i vs hx
      obtain ⟨u, e1, e2⟩ := evO_rel hL o1 hx
      obtain ⟨ds, rfl, hds⟩ := dV_tuple e2
      simp only [pureOp, e1]
      obtain ⟨u, h4, h5⟩ := mapO_get hds h
      exact ⟨u, h4, dV_ofA h5⟩
    · cases h
 · cases h
end sim
end Dm
