/-
  The shallow forms of the Go functions: plain functions in the Option monad, printed by a program of this repo. No condition.
-/
import Derived.Test.YtdigooncdjnfbaaPre
namespace Dm
open Go

/-- dormouse/octets.width -/
def octets_width (n : Int) : Option (Bool) :=
  jn (fun (s1 : Bool) =>
    some s1) (fun k1 =>
    (if (n == 1) = true then
    k1 true
    else
    (if (n == 2) = true then
    k1 true
    else
    (if (n == 4) = true then
    k1 true
    else
    k1 (n == 8)))))

/-- dormouse/octets.has -/
def octets_has (p_many : Int) (p_at : Int) (size : Int) : Option (Bool) :=
  let1 (IntKind.u64.wrap p_many) fun all_1 =>
  jn (fun (s1 : Bool) =>
    some s1) (fun k1 =>
    (if (decide (p_at ≤ all_1)) = true then
    k1 (decide (size ≤ (IntKind.u64.wrap (all_1 - p_at))))
    else
    k1 false))

/-- dormouse/octets.fits -/
def octets_fits (b : List Int) (p_at : Int) (n : Int) : Option (Int) :=
  (octets_width n).bind fun z1 =>
  (if (!z1) = true then
    some 1
  else
    (octets_has ((b.length : Nat) : Int) p_at (IntKind.u64.wrap n)).bind fun z2 =>
    (if (!z2) = true then
      some 10
    else
      some 0))

/-- dormouse/octets.Get -/
def octets_Get (b : List Int) (p_at : Int) (n : Int) : Option (Int × Int) :=
  (octets_fits b p_at n).bind fun z1 =>
  (if (z1 != 0) = true then
    some (0, z1)
  else
    jn (fun (s1 : Int) =>
      some (s1, 0)) (fun k1 =>
      loopK (fun (s2 : Int × Int) rec1 =>
        (if (decide (s2.2 < n)) = true then
          gd ((0 : Int) ≤ (IntKind.i64.wrap ((IntKind.i64.wrap p_at) + s2.2)) ∧ (IntKind.i64.wrap ((IntKind.i64.wrap p_at) + s2.2)) < ((b.length : Nat) : Int)) <|
          gd ((0 : Int) ≤ (IntKind.u64.wrap (IntKind.i64.wrap (8 * s2.2)))) <|
          let1 (bor .u64 s2.1 (shl .u64 (IntKind.u64.wrap (gt b (IntKind.i64.wrap ((IntKind.i64.wrap p_at) + s2.2)))) (IntKind.u64.wrap (IntKind.i64.wrap (8 * s2.2))))) fun x_1 =>
          rec1 (x_1, IntKind.i64.wrap (s2.2 + 1))
        else
          k1 s2.1)) bigF (0, 0)))

def slices_Clone_byte_byte (s : List Int) : Option (List Int) := gd (s.length * 1 ≤ 140737488355328) <| some s

/-- dormouse/octets.Set -/
def octets_Set (b : List Int) (p_at : Int) (n : Int) (p_x : Int) : Option ((List Int) × Int) :=
  (octets_fits b p_at n).bind fun z1 =>
  (if (z1 != 0) = true then
    some ([], z1)
  else
    (slices_Clone_byte_byte b).bind fun z2 =>
    jn (fun (s1 : List Int) =>
      some (s1, 0)) (fun k1 =>
      loopK (fun (s2 : Int × (List Int)) rec1 =>
        (if (decide (s2.1 < n)) = true then
          gd ((0 : Int) ≤ (IntKind.u64.wrap (IntKind.i64.wrap (8 * s2.1)))) <|
          gd ((0 : Int) ≤ (IntKind.i64.wrap ((IntKind.i64.wrap p_at) + s2.1)) ∧ (IntKind.i64.wrap ((IntKind.i64.wrap p_at) + s2.1)) < ((s2.2.length : Nat) : Int)) <|
          rec1 (IntKind.i64.wrap (s2.1 + 1), (s2.2.set (Int.toNat (IntKind.i64.wrap ((IntKind.i64.wrap p_at) + s2.1))) (IntKind.u8.wrap (shr .u64 p_x (IntKind.u64.wrap (IntKind.i64.wrap (8 * s2.1)))))))
        else
          k1 s2.2)) bigF (0, z2)))

/-- dormouse/octets.Cut -/
def octets_Cut (b : List Int) (p_at : Int) (size : Int) : Option ((List Int) × Int) :=
  (octets_has ((b.length : Nat) : Int) p_at size).bind fun z1 =>
  (if (!z1) = true then
    some ([], 10)
  else
    gd ((0 : Int) ≤ p_at ∧ (p_at : Int) ≤ (IntKind.u64.wrap (p_at + size)) ∧ (IntKind.u64.wrap (p_at + size)) ≤ ((b.length : Nat) : Int)) <|
    (slices_Clone_byte_byte (cutL b p_at (IntKind.u64.wrap (p_at + size)))).bind fun z2 =>
    some (z2, 0))

/-- dormouse/octets.Down -/
def octets_Down (p_x : Int) (p_a : Int) : Option (Int × Int) :=
  jn (fun (s1 : Bool) =>
    (if (s1) = true then
      some (0, 1)
    else
      some (bandn .u64 p_x (IntKind.u64.wrap (p_a - 1)), 0))) (fun k1 =>
    (if (p_a == 0) = true then
    k1 true
    else
    k1 ((band .u64 p_a (IntKind.u64.wrap (p_a - 1))) != 0)))

/-- dormouse/octets.Up -/
def octets_Up (p_x : Int) (p_a : Int) : Option (Int × Int) :=
  (octets_Down p_x p_a).bind fun z1 =>
  jn (fun (s1 : Bool) =>
    (if (s1) = true then
      some (z1.1, z1.2)
    else
      (if ((IntKind.u64.wrap (z1.1 + p_a)) == 0) = true then
        some (0, 10)
      else
        some (IntKind.u64.wrap (z1.1 + p_a), 0)))) (fun k1 =>
    (if (z1.2 != 0) = true then
    k1 true
    else
    k1 (z1.1 == p_x)))

/-- dormouse/octets.Meet -/
def octets_Meet (p_a : Int) (m : Int) (b : Int) (n : Int) : Option (Bool) :=
  jn (fun (s1 : Int × Int × Int × Int) =>
    jn (fun (s2 : Bool) =>
      some s2) (fun k2 =>
      (if (decide (s1.2.2.2 > 0)) = true then
      k2 (decide ((IntKind.u64.wrap (s1.2.2.1 - s1.1)) < s1.2.1))
      else
      k2 false))) (fun k1 =>
    (if (decide (p_a > b)) = true then
      k1 (b, n, p_a, m)
    else
      k1 (p_a, m, b, n)))

/-- dormouse/dormouselaw01.awake -/
def law01_awake  : Option (Bool) :=
  (octets_Get ([1, 2, 3, 4] : List Int) 1 2).bind fun z1 =>
  (octets_Set ([1, 2, 3] : List Int) 1 2 513).bind fun z2 =>
  (octets_Cut ([1, 2, 3] : List Int) 1 2).bind fun z3 =>
  (octets_Up 257 256).bind fun z4 =>
  (octets_Down 257 256).bind fun z5 =>
  jn (fun (s1 : Bool) =>
    some s1) (fun k1 =>
    (if (z1.1 == 770) = true then
    (if (z1.2 == 0) = true then
    (if ((toStr z2.1) == [1, 1, 2]) = true then
    (if (z2.2 == 0) = true then
    (if ((toStr z3.1) == [2, 3]) = true then
    (if (z3.2 == 0) = true then
    (if (z4.1 == 512) = true then
    (if (z4.2 == 0) = true then
    (if (z5.1 == 256) = true then
    (if (z5.2 == 0) = true then
    (octets_Meet 0 6 5 2).bind fun z6 =>
    (if (z6) = true then
    (octets_Meet 0 5 5 2).bind fun z7 =>
    k1 (!z7)
    else
    none)
    else
    none)
    else
    none)
    else
    none)
    else
    none)
    else
    none)
    else
    none)
    else
    none)
    else
    none)
    else
    none)
    else
    none))

/-- dormouse/dormouselaw01.OctetsParts -/
def law01_OctetsParts (b : List Int) : Option (Bool) :=
  (law01_awake).bind fun z1 =>
  (if (!z1) = true then
    some false
  else
    gd ((0 : Int) ≤ 0 ∧ (0 : Int) ≤ ((b.length : Nat) : Int) ∧ ((b.length : Nat) : Int) ≤ ((b.length : Nat) : Int)) <|
    (octets_Get (cutL b 0 ((b.length : Nat) : Int)) 0 8).bind fun z2 =>
    jn (fun (s1 : Int × Int × Int) =>
      jn (fun (s5 : Bool) =>
        some s5) (fun k4 =>
        (if (z2.2 == 0) = true then
        (if (z2.1 == s1.1) = true then
        (if (z2.1 == s1.2.1) = true then
        k4 (z2.1 == s1.2.2)
        else
        k4 false)
        else
        k4 false)
        else
        k4 false))) (fun k1 =>
      loopK (fun (s2 : Int × Int × Int × Int) rec1 =>
        (if (decide (s2.2.2.2 < 8)) = true then
          jn (fun (s3 : Int) =>
            jn (fun (s4 : Int) =>
              gd ((0 : Int) ≤ 0 ∧ (0 : Int) ≤ ((b.length : Nat) : Int) ∧ ((b.length : Nat) : Int) ≤ ((b.length : Nat) : Int)) <|
              (octets_Get (cutL b 0 ((b.length : Nat) : Int)) (IntKind.u64.wrap s2.2.2.2) 1).bind fun z5 =>
              gd ((0 : Int) ≤ (IntKind.u64.wrap (IntKind.i64.wrap (8 * s2.2.2.2)))) <|
              let1 (IntKind.u64.wrap (s2.2.2.1 + (shl .u64 z5.1 (IntKind.u64.wrap (IntKind.i64.wrap (8 * s2.2.2.2)))))) fun w_1 =>
              let1 (IntKind.i64.wrap (s2.2.2.2 + 1)) fun i_1 =>
              rec1 (s3, s4, w_1, i_1)) (fun k3 =>
              (if (decide (s2.2.2.2 < 4)) = true then
                gd ((0 : Int) ≤ 0 ∧ (0 : Int) ≤ ((b.length : Nat) : Int) ∧ ((b.length : Nat) : Int) ≤ ((b.length : Nat) : Int)) <|
                (octets_Get (cutL b 0 ((b.length : Nat) : Int)) (IntKind.u64.wrap (IntKind.i64.wrap (2 * s2.2.2.2))) 2).bind fun z4 =>
                gd ((0 : Int) ≤ (IntKind.u64.wrap (IntKind.i64.wrap (16 * s2.2.2.2)))) <|
                let1 (IntKind.u64.wrap (s2.2.1 + (shl .u64 z4.1 (IntKind.u64.wrap (IntKind.i64.wrap (16 * s2.2.2.2)))))) fun z_1 =>
                k3 z_1
              else
                k3 s2.2.1))) (fun k2 =>
            (if (decide (s2.2.2.2 < 2)) = true then
              gd ((0 : Int) ≤ 0 ∧ (0 : Int) ≤ ((b.length : Nat) : Int) ∧ ((b.length : Nat) : Int) ≤ ((b.length : Nat) : Int)) <|
              (octets_Get (cutL b 0 ((b.length : Nat) : Int)) (IntKind.u64.wrap (IntKind.i64.wrap (4 * s2.2.2.2))) 4).bind fun z3 =>
              gd ((0 : Int) ≤ (IntKind.u64.wrap (IntKind.i64.wrap (32 * s2.2.2.2)))) <|
              let1 (IntKind.u64.wrap (s2.1 + (shl .u64 z3.1 (IntKind.u64.wrap (IntKind.i64.wrap (32 * s2.2.2.2)))))) fun y_1 =>
              k2 y_1
            else
              k2 s2.1))
        else
          k1 (s2.1, s2.2.1, s2.2.2.1))) bigF (0, 0, 0, 0)))

/-- dormouse/dormouseref01.width -/
def ref01_width (n : Int) : Option (Bool) :=
  jn (fun (s1 : Bool) =>
    some s1) (fun k1 =>
    (if (n == 1) = true then
    k1 true
    else
    (if (n == 2) = true then
    k1 true
    else
    (if (n == 4) = true then
    k1 true
    else
    k1 (n == 8)))))

/-- dormouse/dormouseref01.Inside -/
def ref01_Inside (p_many : Int) (p_at : Int) (size : Int) : Option (Bool) :=
  (if (decide (p_at > (IntKind.u64.wrap p_many))) = true then
    some false
  else
    some (decide (size ≤ (IntKind.u64.wrap ((IntKind.u64.wrap p_many) - p_at)))))

/-- dormouse/dormouseref01.Get -/
def ref01_Get (b : List Int) (p_at : Int) (n : Int) : Option (Int × Int) :=
  (ref01_width n).bind fun z1 =>
  (if (!z1) = true then
    some (0, 1)
  else
    (ref01_Inside ((b.length : Nat) : Int) p_at (IntKind.u64.wrap n)).bind fun z2 =>
    (if (!z2) = true then
      some (0, 10)
    else
      let1 (IntKind.i64.wrap (n - 1)) fun i_1 =>
      jn (fun (s1 : Int) =>
        some (s1, 0)) (fun k1 =>
        loopK (fun (s2 : Int × Int) rec1 =>
          (if (decide (s2.2 ≥ 0)) = true then
            gd ((0 : Int) ≤ (IntKind.i64.wrap ((IntKind.i64.wrap p_at) + s2.2)) ∧ (IntKind.i64.wrap ((IntKind.i64.wrap p_at) + s2.2)) < ((b.length : Nat) : Int)) <|
            let1 (IntKind.u64.wrap ((IntKind.u64.wrap (s2.1 * 256)) + (IntKind.u64.wrap (gt b (IntKind.i64.wrap ((IntKind.i64.wrap p_at) + s2.2)))))) fun x_1 =>
            let1 (IntKind.i64.wrap (s2.2 - 1)) fun i_2 =>
            rec1 (x_1, i_2)
          else
            k1 s2.1)) bigF (0, i_1))))

/-- dormouse/dormouselaw01.OctetsGets -/
def law01_OctetsGets (b : List Int) (p_at : Int) (n : Int) : Option (Bool) :=
  (law01_awake).bind fun z1 =>
  (if (!z1) = true then
    some false
  else
    (octets_Get b p_at n).bind fun z2 =>
    (ref01_Get b p_at n).bind fun z3 =>
    jn (fun (s1 : Bool) =>
      some s1) (fun k1 =>
      (if (z2.1 == z3.1) = true then
      k1 (z2.2 == z3.2)
      else
      k1 false)))

/-- dormouse/dormouseref01.Cut -/
def ref01_Cut (b : List Int) (p_at : Int) (size : Int) : Option ((List Int) × Int) :=
  (ref01_Inside ((b.length : Nat) : Int) p_at size).bind fun z1 =>
  (if (!z1) = true then
    some ([], 10)
  else
    jn (fun (s1 : List Int) =>
      some (s1, 0)) (fun k1 =>
      loopK (fun (s2 : (List Int) × Int) rec1 =>
        (if (decide (s2.2 < size)) = true then
          gd ((0 : Int) ≤ (IntKind.u64.wrap (p_at + s2.2)) ∧ (IntKind.u64.wrap (p_at + s2.2)) < ((b.length : Nat) : Int)) <|
          gd ((s2.1.length + ([gt b (IntKind.u64.wrap (p_at + s2.2))] : List Int).length) * 1 ≤ 140737488355328) <|
          let1 (IntKind.u64.wrap (s2.2 + 1)) fun i_1 =>
          rec1 ((s2.1 ++ ([gt b (IntKind.u64.wrap (p_at + s2.2))] : List Int)), i_1)
        else
          k1 s2.1)) bigF ([], 0)))

/-- dormouse/dormouselaw01.OctetsCuts -/
def law01_OctetsCuts (b : List Int) (p_at : Int) (size : Int) : Option (Bool) :=
  (law01_awake).bind fun z1 =>
  (if (!z1) = true then
    some false
  else
    (if (decide (((b.length : Nat) : Int) > 2000)) = true then
      some true
    else
      let1 (toStr b) fun was_1 =>
      (octets_Cut b p_at size).bind fun z2 =>
      (ref01_Cut b p_at size).bind fun z3 =>
      jn (fun (s1 : Bool) =>
        jn (fun (_ : Unit) =>
          jn (fun (s4 : Bool) =>
            some s4) (fun k3 =>
            (if (s1) = true then
            k3 ((toStr b) == was_1)
            else
            k3 false))) (fun k2 =>
          loopK (fun (s3 : Int × (List Int)) rec1 =>
            (if (decide (s3.1 < ((s3.2.length : Nat) : Int))) = true then
              gd ((0 : Int) ≤ s3.1 ∧ s3.1 < ((s3.2.length : Nat) : Int)) <|
              gd ((0 : Int) ≤ s3.1 ∧ s3.1 < ((s3.2.length : Nat) : Int)) <|
              let1 (IntKind.i64.wrap (s3.1 + 1)) fun i_1 =>
              rec1 (i_1, (s3.2.set (Int.toNat s3.1) (bxor .u8 (gt s3.2 s3.1) 255)))
            else
              k2 ())) bigF (0, z2.1))) (fun k1 =>
        (if (z2.2 == z3.2) = true then
        let1 ((toStr z2.1) == (toStr z3.1)) fun one_1 =>
        k1 one_1
        else
        k1 false))))

end Dm
