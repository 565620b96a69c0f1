/-
  The words in which the shallow forms of the Go functions are written: wraps and bits of numbers, loops as functions, joins, tests that must hold. No condition.
-/
import GoSem.Core.View
import GoSem.Op.IntArith
namespace Dm
open Go

def shl (k : IntKind) (a y : Int) : Int := k.wrap (a * 2 ^ (min y.toNat k.bits))
def shr (k : IntKind) (a y : Int) : Int := a.fdiv (2 ^ (min y.toNat k.bits))
def band (k : IntKind) (a b : Int) : Int := k.wrap (BitVec.ofInt k.bits a &&& BitVec.ofInt k.bits b).toNat
def bor (k : IntKind) (a b : Int) : Int := k.wrap (BitVec.ofInt k.bits a ||| BitVec.ofInt k.bits b).toNat
def bxor (k : IntKind) (a b : Int) : Int := k.wrap (BitVec.ofInt k.bits a ^^^ BitVec.ofInt k.bits b).toNat
def bandn (k : IntKind) (a b : Int) : Int := k.wrap (BitVec.ofInt k.bits a &&& ~~~(BitVec.ofInt k.bits b)).toNat
def bnot (k : IntKind) (a : Int) : Int := bxor k (if k.signed then -1 else k.max) a

/-- a loop as a function: 'rec' is what goes on with the next round -/
def loopK {σ ρ : Type} (body : σ → (σ → Option ρ) → Option ρ) : Nat → σ → Option ρ
  | 0, _ => none
  | n + 1, s => body s (loopK body n)
def jn {σ ρ : Type} (k : σ → Option ρ) (b : (σ → Option ρ) → Option ρ) : Option ρ := b k
def let1 {α ρ : Type} (e : α) (f : α → Option ρ) : Option ρ := f e
def gd {ρ : Type} (c : Prop) [Decidable c] (k : Option ρ) : Option ρ := if c then k else none
def gt {α : Type} [Inhabited α] (xs : List α) (n : Int) : α := xs.getD n.toNat default
def cutL {α : Type} (xs : List α) (lo hi : Int) : List α := (xs.take hi.toNat).drop lo.toNat
def toStr (xs : List Int) : List UInt8 := xs.map fun n => UInt8.ofNat n.toNat
def ofStr (l : List UInt8) : List Int := l.map fun b => (b.toNat : Int)
def imax (a b : Int) : Int := if b > a then b else a
def imin (a b : Int) : Int := if b < a then b else a
def hasB (s : List UInt8) (c : UInt8) : Bool := s.any (· == c)
/-- the first value of a key -/
def mpGet {κ β : Type} [BEq κ] : List (κ × β) → κ → Option β
  | [], _ => none
  | p :: l, k => if k == p.1 then some p.2 else mpGet l k
def mpPut {κ β : Type} [BEq κ] : List (κ × β) → κ → β → List (κ × β)
  | [], k, v => [(k, v)]
  | p :: l, k, v => if k == p.1 then (k, v) :: l else p :: mpPut l k v

def bigF : Nat := 2 ^ 64

end Dm
