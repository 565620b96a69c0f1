/-
  Texts in the shallow forms: words between bytes, lines, digits, what is cut off at either end. Plain functions on lists of bytes. No condition.
-/
import Derived.Test.YtpgohbnaphkngaaDoorPre
namespace Dm
open Go
/-- the words between bytes c; cur: the word under way -/
def wordsB (c : UInt8) : List UInt8 → List UInt8 → List (List UInt8)
  | cur, [] => if cur.isEmpty then [] else [cur]
  | cur, b :: l => if b == c then (if cur.isEmpty then wordsB c [] l else cur :: wordsB c [] l) else wordsB c (cur ++ [b]) l
/-- the lines between bytes c -/
def linesB (c : UInt8) : List UInt8 → List UInt8 → List (List UInt8)
  | cur, [] => [cur]
  | cur, b :: l => if b == c then cur :: linesB c [] l else linesB c (cur ++ [b]) l
def digs : Nat → Nat → List UInt8
  | 0, _ => []
  | f + 1, u => if u < 10 then [UInt8.ofNat (48 + u)] else digs f (u / 10) ++ [UInt8.ofNat (48 + u % 10)]
def itoaD (n : Int) : List UInt8 := if n < 0 then 45 :: digs 20 n.natAbs else digs 20 n.toNat
def trimC (l : List UInt8) (c : UInt8) : List UInt8 := ((l.reverse.dropWhile (· == c)).reverse).dropWhile (· == c)
def cutPre (s p : List UInt8) : List UInt8 := if p.isPrefixOf s then s.drop p.length else s
end Dm
