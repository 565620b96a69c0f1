/-
  The shallow forms of the Go functions: plain functions in the Option monad, printed by a program of this repo. No condition.
-/
import Derived.Test.YtdigooncdjnfbaaPre
namespace Dm
open Go

/-- dormouse/octets.width -/
def octets_width (n : Int) : Option (Bool) :=
  jn (fun (s1 : Bool) =>
    some s1) (fun k1 =>
    (if (n == 1) = true then
    k1 true
    else
    (if (n == 2) = true then
    k1 true
    else
    (if (n == 4) = true then
    k1 true
    else
    k1 (n == 8)))))

/-- dormouse/octets.has -/
def octets_has (p_many : Int) (p_at : Int) (size : Int) : Option (Bool) :=
  let1 (IntKind.u64.wrap p_many) fun all_1 =>
  jn (fun (s1 : Bool) =>
    some s1) (fun k1 =>
    (if (decide (p_at ≤ all_1)) = true then
    k1 (decide (size ≤ (IntKind.u64.wrap (all_1 - p_at))))
    else
    k1 false))

/-- dormouse/octets.fits -/
def octets_fits (b : List Int) (p_at : Int) (n : Int) : Option (Int) :=
  (octets_width n).bind fun z1 =>
  (if (!z1) = true then
    some 1
  else
    (octets_has ((b.length : Nat) : Int) p_at (IntKind.u64.wrap n)).bind fun z2 =>
    (if (!z2) = true then
      some 10
    else
      some 0))

/-- dormouse/octets.Get -/
def octets_Get (b : List Int) (p_at : Int) (n : Int) : Option (Int × Int) :=
  (octets_fits b p_at n).bind fun z1 =>
  (if (z1 != 0) = true then
    some (0, z1)
  else
    jn (fun (s1 : Int) =>
      some (s1, 0)) (fun k1 =>
      loopK (fun (s2 : Int × Int) rec1 =>
        (if (decide (s2.2 < n)) = true then
          gd (0 ≤ (IntKind.i64.wrap ((IntKind.i64.wrap p_at) + s2.2)) ∧ (IntKind.i64.wrap ((IntKind.i64.wrap p_at) + s2.2)) < ((b.length : Nat) : Int)) <|
          gd (0 ≤ (IntKind.u64.wrap (IntKind.i64.wrap (8 * s2.2)))) <|
          let1 (bor .u64 s2.1 (shl .u64 (IntKind.u64.wrap (gt b (IntKind.i64.wrap ((IntKind.i64.wrap p_at) + s2.2)))) (IntKind.u64.wrap (IntKind.i64.wrap (8 * s2.2))))) fun x_1 =>
          rec1 (x_1, IntKind.i64.wrap (s2.2 + 1))
        else
          k1 s2.1)) bigF (0, 0)))

def slices_Clone_byte_byte (s : List Int) : Option (List Int) := gd (s.length * 1 ≤ 140737488355328) <| some s

/-- dormouse/octets.Set -/
def octets_Set (b : List Int) (p_at : Int) (n : Int) (p_x : Int) : Option ((List Int) × Int) :=
  (octets_fits b p_at n).bind fun z1 =>
  (if (z1 != 0) = true then
    some ([], z1)
  else
    (slices_Clone_byte_byte b).bind fun z2 =>
    jn (fun (s1 : (List Int)) =>
      some (s1, 0)) (fun k1 =>
      loopK (fun (s2 : (List Int) × Int) rec1 =>
        (if (decide (s2.2 < n)) = true then
          gd (0 ≤ (IntKind.u64.wrap (IntKind.i64.wrap (8 * s2.2)))) <|
          gd (0 ≤ (IntKind.i64.wrap ((IntKind.i64.wrap p_at) + s2.2)) ∧ (IntKind.i64.wrap ((IntKind.i64.wrap p_at) + s2.2)) < ((s2.1.length : Nat) : Int)) <|
          rec1 ((s2.1.set (IntKind.i64.wrap ((IntKind.i64.wrap p_at) + s2.2)).toNat (IntKind.u8.wrap (shr .u64 p_x (IntKind.u64.wrap (IntKind.i64.wrap (8 * s2.2)))))), IntKind.i64.wrap (s2.2 + 1))
        else
          k1 s2.1)) bigF (z2, 0)))

/-- dormouse/octets.Cut -/
def octets_Cut (b : List Int) (p_at : Int) (size : Int) : Option ((List Int) × Int) :=
  (octets_has ((b.length : Nat) : Int) p_at size).bind fun z1 =>
  (if (!z1) = true then
    some ([], 10)
  else
    gd (0 ≤ p_at ∧ p_at ≤ (IntKind.u64.wrap (p_at + size)) ∧ (IntKind.u64.wrap (p_at + size)) ≤ ((b.length : Nat) : Int)) <|
    (slices_Clone_byte_byte (cutL b p_at (IntKind.u64.wrap (p_at + size)))).bind fun z2 =>
    some (z2, 0))

/-- dormouse/octets.Down -/
def octets_Down (p_x : Int) (p_a : Int) : Option (Int × Int) :=
  jn (fun (s1 : Bool) =>
    (if (s1) = true then
      some (0, 1)
    else
      some (bandn .u64 p_x (IntKind.u64.wrap (p_a - 1)), 0))) (fun k1 =>
    (if (p_a == 0) = true then
    k1 true
    else
    k1 ((band .u64 p_a (IntKind.u64.wrap (p_a - 1))) != 0)))

/-- dormouse/octets.Up -/
def octets_Up (p_x : Int) (p_a : Int) : Option (Int × Int) :=
  (octets_Down p_x p_a).bind fun z1 =>
  jn (fun (s1 : Bool) =>
    (if (s1) = true then
      some (z1.1, z1.2)
    else
      (if ((IntKind.u64.wrap (z1.1 + p_a)) == 0) = true then
        some (0, 10)
      else
        some (IntKind.u64.wrap (z1.1 + p_a), 0)))) (fun k1 =>
    (if (z1.2 != 0) = true then
    k1 true
    else
    k1 (z1.1 == p_x)))

/-- dormouse/octets.Meet -/
def octets_Meet (p_a : Int) (m : Int) (b : Int) (n : Int) : Option (Bool) :=
  jn (fun (s1 : Int × Int × Int × Int) =>
    jn (fun (s2 : Bool) =>
      some s2) (fun k2 =>
      (if (decide (s1.2.2.2 > 0)) = true then
      k2 (decide ((IntKind.u64.wrap (s1.2.2.1 - s1.1)) < s1.2.1))
      else
      k2 false))) (fun k1 =>
    (if (decide (p_a > b)) = true then
      k1 (b, n, p_a, m)
    else
      k1 (p_a, m, b, n)))

/-- dormouse/dormouselaw01.awake -/
def law01_awake  : Option (Bool) :=
  (octets_Get ([1, 2, 3, 4] : List Int) 1 2).bind fun z1 =>
  (octets_Set ([1, 2, 3] : List Int) 1 2 513).bind fun z2 =>
  (octets_Cut ([1, 2, 3] : List Int) 1 2).bind fun z3 =>
  (octets_Up 257 256).bind fun z4 =>
  (octets_Down 257 256).bind fun z5 =>
  jn (fun (s1 : Bool) =>
    some s1) (fun k1 =>
    (if (z1.1 == 770) = true then
    (if (z1.2 == 0) = true then
    (if ((toStr z2.1) == [1, 1, 2]) = true then
    (if (z2.2 == 0) = true then
    (if ((toStr z3.1) == [2, 3]) = true then
    (if (z3.2 == 0) = true then
    (if (z4.1 == 512) = true then
    (if (z4.2 == 0) = true then
    (if (z5.1 == 256) = true then
    (if (z5.2 == 0) = true then
    (octets_Meet 0 6 5 2).bind fun z6 =>
    (if (z6) = true then
    (octets_Meet 0 5 5 2).bind fun z7 =>
    k1 (!z7)
    else
    k1 false)
    else
    k1 false)
    else
    k1 false)
    else
    k1 false)
    else
    k1 false)
    else
    k1 false)
    else
    k1 false)
    else
    k1 false)
    else
    k1 false)
    else
    k1 false)
    else
    k1 false))

/-- dormouse/dormouseref01.width -/
def ref01_width (n : Int) : Option (Bool) :=
  jn (fun (s1 : Bool) =>
    some s1) (fun k1 =>
    (if (n == 1) = true then
    k1 true
    else
    (if (n == 2) = true then
    k1 true
    else
    (if (n == 4) = true then
    k1 true
    else
    k1 (n == 8)))))

/-- dormouse/dormouseref01.Inside -/
def ref01_Inside (p_many : Int) (p_at : Int) (size : Int) : Option (Bool) :=
  (if (decide (p_at > (IntKind.u64.wrap p_many))) = true then
    some false
  else
    some (decide (size ≤ (IntKind.u64.wrap ((IntKind.u64.wrap p_many) - p_at)))))

/-- dormouse/dormouseref01.Get -/
def ref01_Get (b : List Int) (p_at : Int) (n : Int) : Option (Int × Int) :=
  (ref01_width n).bind fun z1 =>
  (if (!z1) = true then
    some (0, 1)
  else
    (ref01_Inside ((b.length : Nat) : Int) p_at (IntKind.u64.wrap n)).bind fun z2 =>
    (if (!z2) = true then
      some (0, 10)
    else
      let1 (IntKind.i64.wrap (n - 1)) fun i_1 =>
      jn (fun (s1 : Int) =>
        some (s1, 0)) (fun k1 =>
        loopK (fun (s2 : Int × Int) rec1 =>
          (if (decide (s2.2 ≥ 0)) = true then
            gd (0 ≤ (IntKind.i64.wrap ((IntKind.i64.wrap p_at) + s2.2)) ∧ (IntKind.i64.wrap ((IntKind.i64.wrap p_at) + s2.2)) < ((b.length : Nat) : Int)) <|
            let1 (IntKind.u64.wrap ((IntKind.u64.wrap (s2.1 * 256)) + (IntKind.u64.wrap (gt b (IntKind.i64.wrap ((IntKind.i64.wrap p_at) + s2.2)))))) fun x_1 =>
            let1 (IntKind.i64.wrap (s2.2 - 1)) fun i_2 =>
            rec1 (x_1, i_2)
          else
            k1 s2.1)) bigF (0, i_1))))

/-- dormouse/dormouselaw01.OctetsGets -/
def law01_OctetsGets (b : List Int) (p_at : Int) (n : Int) : Option (Bool) :=
  (law01_awake).bind fun z1 =>
  (if (!z1) = true then
    some false
  else
    (octets_Get b p_at n).bind fun z2 =>
    (ref01_Get b p_at n).bind fun z3 =>
    jn (fun (s1 : Bool) =>
      some s1) (fun k1 =>
      (if (z2.1 == z3.1) = true then
      k1 (z2.2 == z3.2)
      else
      k1 false)))

/-- dormouse/dormouseref01.Set -/
def ref01_Set (b : List Int) (p_at : Int) (n : Int) (p_x : Int) : Option ((List Int) × Int) :=
  (ref01_Get b p_at n).bind fun z1 =>
  (if (z1.2 != 0) = true then
    some ([], z1.2)
  else
    gd ((([] : List Int).length + b.length) * 1 ≤ 140737488355328) <|
    let1 ((([] : List Int) ++ b)) fun out_1 =>
    jn (fun (s1 : (List Int)) =>
      some (s1, 0)) (fun k1 =>
      loopK (fun (s2 : Int × (List Int) × Int) rec1 =>
        (if (decide (s2.2.2 < n)) = true then
          gd (0 ≤ (IntKind.i64.wrap ((IntKind.i64.wrap p_at) + s2.2.2)) ∧ (IntKind.i64.wrap ((IntKind.i64.wrap p_at) + s2.2.2)) < ((s2.2.1.length : Nat) : Int)) <|
          let1 (IntKind.u64.wrap (Int.tdiv s2.1 256)) fun x_1 =>
          let1 (IntKind.i64.wrap (s2.2.2 + 1)) fun i_1 =>
          rec1 (x_1, (s2.2.1.set (IntKind.i64.wrap ((IntKind.i64.wrap p_at) + s2.2.2)).toNat (IntKind.u8.wrap (Int.tmod s2.1 256))), i_1)
        else
          k1 s2.2.1)) bigF (p_x, out_1, 0)))

/-- dormouse/dormouselaw01.OctetsSets -/
def law01_OctetsSets (b : List Int) (p_at : Int) (n : Int) (p_x : Int) : Option (Bool) :=
  (law01_awake).bind fun z1 =>
  (if (!z1) = true then
    some false
  else
    (if (decide (((b.length : Nat) : Int) > 2000)) = true then
      some true
    else
      let1 (toStr b) fun was_1 =>
      (octets_Set b p_at n p_x).bind fun z2 =>
      (ref01_Set b p_at n p_x).bind fun z3 =>
      jn (fun (s1 : Bool) =>
        jn (fun (s2 : Unit) =>
          jn (fun (s4 : Bool) =>
            some s4) (fun k3 =>
            (if (s1) = true then
            k3 ((toStr b) == was_1)
            else
            k3 false))) (fun k2 =>
          loopK (fun (s3 : (List Int) × Int) rec1 =>
            (if (decide (s3.2 < ((s3.1.length : Nat) : Int))) = true then
              gd (0 ≤ s3.2 ∧ s3.2 < ((s3.1.length : Nat) : Int)) <|
              gd (0 ≤ s3.2 ∧ s3.2 < ((s3.1.length : Nat) : Int)) <|
              let1 (IntKind.i64.wrap (s3.2 + 1)) fun i_1 =>
              rec1 ((s3.1.set (s3.2).toNat (bxor .u8 (gt s3.1 s3.2) 255)), i_1)
            else
              k2 ())) bigF (z2.1, 0))) (fun k1 =>
        (if (z2.2 == z3.2) = true then
        let1 ((toStr z2.1) == (toStr z3.1)) fun one_1 =>
        k1 one_1
        else
        k1 false))))

/-- dormouse/dormouseref01.Cut -/
def ref01_Cut (b : List Int) (p_at : Int) (size : Int) : Option ((List Int) × Int) :=
  (ref01_Inside ((b.length : Nat) : Int) p_at size).bind fun z1 =>
  (if (!z1) = true then
    some ([], 10)
  else
    jn (fun (s1 : (List Int)) =>
      some (s1, 0)) (fun k1 =>
      loopK (fun (s2 : (List Int) × Int) rec1 =>
        (if (decide (s2.2 < size)) = true then
          gd (0 ≤ (IntKind.u64.wrap (p_at + s2.2)) ∧ (IntKind.u64.wrap (p_at + s2.2)) < ((b.length : Nat) : Int)) <|
          gd ((s2.1.length + ([gt b (IntKind.u64.wrap (p_at + s2.2))] : List Int).length) * 1 ≤ 140737488355328) <|
          let1 ((s2.1 ++ ([gt b (IntKind.u64.wrap (p_at + s2.2))] : List Int))) fun out_1 =>
          let1 (IntKind.u64.wrap (s2.2 + 1)) fun i_1 =>
          rec1 (out_1, i_1)
        else
          k1 s2.1)) bigF ([], 0)))

/-- dormouse/dormouselaw01.OctetsCuts -/
def law01_OctetsCuts (b : List Int) (p_at : Int) (size : Int) : Option (Bool) :=
  (law01_awake).bind fun z1 =>
  (if (!z1) = true then
    some false
  else
    (if (decide (((b.length : Nat) : Int) > 2000)) = true then
      some true
    else
      let1 (toStr b) fun was_1 =>
      (octets_Cut b p_at size).bind fun z2 =>
      (ref01_Cut b p_at size).bind fun z3 =>
      jn (fun (s1 : Bool) =>
        jn (fun (s2 : Unit) =>
          jn (fun (s4 : Bool) =>
            some s4) (fun k3 =>
            (if (s1) = true then
            k3 ((toStr b) == was_1)
            else
            k3 false))) (fun k2 =>
          loopK (fun (s3 : (List Int) × Int) rec1 =>
            (if (decide (s3.2 < ((s3.1.length : Nat) : Int))) = true then
              gd (0 ≤ s3.2 ∧ s3.2 < ((s3.1.length : Nat) : Int)) <|
              gd (0 ≤ s3.2 ∧ s3.2 < ((s3.1.length : Nat) : Int)) <|
              let1 (IntKind.i64.wrap (s3.2 + 1)) fun i_1 =>
              rec1 ((s3.1.set (s3.2).toNat (bxor .u8 (gt s3.1 s3.2) 255)), i_1)
            else
              k2 ())) bigF (z2.1, 0))) (fun k1 =>
        (if (z2.2 == z3.2) = true then
        let1 ((toStr z2.1) == (toStr z3.1)) fun one_1 =>
        k1 one_1
        else
        k1 false))))

/-- dormouse/dormouseref01.power -/
def ref01_power (p_a : Int) : Option (Bool) :=
  jn (fun (s1 : Int) =>
    some (s1 == 1)) (fun k1 =>
    loopK (fun (s2 : Int) rec1 =>
      jn (fun (s3 : Bool) =>
        (if (s3) = true then
          let1 (IntKind.u64.wrap (Int.tdiv s2 2)) fun a_1 =>
          rec1 a_1
        else
          k1 s2)) (fun k2 =>
        (if (decide (s2 > 1)) = true then
        k2 ((Int.tmod s2 2) == 0)
        else
        k2 false))) bigF p_a)

/-- dormouse/dormouseref01.Up -/
def ref01_Up (p_x : Int) (p_a : Int) : Option (Int × Int) :=
  (ref01_power p_a).bind fun z1 =>
  (if (!z1) = true then
    some (0, 1)
  else
    gd (p_a ≠ 0) <|
    (if ((Int.tmod p_x p_a) == 0) = true then
      some (p_x, 0)
    else
      gd (p_a ≠ 0) <|
      gd (p_a ≠ 0) <|
      (if ((IntKind.u64.wrap (Int.tdiv p_x p_a)) == (IntKind.u64.wrap (Int.tdiv 18446744073709551615 p_a))) = true then
        some (0, 10)
      else
        gd (p_a ≠ 0) <|
        some (IntKind.u64.wrap ((IntKind.u64.wrap ((IntKind.u64.wrap (Int.tdiv p_x p_a)) + 1)) * p_a), 0))))

/-- dormouse/dormouseref01.Down -/
def ref01_Down (p_x : Int) (p_a : Int) : Option (Int × Int) :=
  (ref01_power p_a).bind fun z1 =>
  (if (!z1) = true then
    some (0, 1)
  else
    gd (p_a ≠ 0) <|
    some (IntKind.u64.wrap ((IntKind.u64.wrap (Int.tdiv p_x p_a)) * p_a), 0))

/-- dormouse/dormouselaw01.OctetsRounds -/
def law01_OctetsRounds (p_x : Int) (p_a : Int) : Option (Bool) :=
  (law01_awake).bind fun z1 =>
  (if (!z1) = true then
    some false
  else
    (octets_Up p_x p_a).bind fun z2 =>
    (ref01_Up p_x p_a).bind fun z3 =>
    (octets_Down p_x p_a).bind fun z4 =>
    (ref01_Down p_x p_a).bind fun z5 =>
    jn (fun (s1 : Bool) =>
      some s1) (fun k1 =>
      (if (z2.1 == z3.1) = true then
      (if (z2.2 == z3.2) = true then
      (if (z4.1 == z5.1) = true then
      k1 (z4.2 == z5.2)
      else
      k1 false)
      else
      k1 false)
      else
      k1 false)))

/-- dormouse/dormouseref01.Meet -/
def ref01_Meet (p_a : Int) (m : Int) (b : Int) (n : Int) : Option (Bool) :=
  jn (fun (s1 : Bool) =>
    (if (s1) = true then
      some false
    else
      (if (decide (p_a ≤ b)) = true then
        some (decide ((IntKind.u64.wrap (b - p_a)) < m))
      else
        some (decide ((IntKind.u64.wrap (p_a - b)) < n))))) (fun k1 =>
    (if (m == 0) = true then
    k1 true
    else
    k1 (n == 0)))

/-- dormouse/dormouselaw01.OctetsMeets -/
def law01_OctetsMeets (p_a : Int) (m : Int) (b : Int) (n : Int) : Option (Bool) :=
  (law01_awake).bind fun z1 =>
  (if (!z1) = true then
    some false
  else
    (ref01_Meet p_a m b n).bind fun z2 =>
    jn (fun (s1 : Bool) =>
      some s1) (fun k1 =>
      (octets_Meet p_a m b n).bind fun z3 =>
      (if (z3 == z2) = true then
      (octets_Meet b n p_a m).bind fun z4 =>
      k1 (z4 == z2)
      else
      k1 false)))

/-- dormouse/dormouselaw01.OctetsBack -/
def law01_OctetsBack (b : List Int) (p_at : Int) (p_which : Int) (p_x : Int) : Option (Bool) :=
  (law01_awake).bind fun z1 =>
  (if (!z1) = true then
    some false
  else
    jn (fun (s1 : Bool) =>
      (if (s1) = true then
        some true
      else
        gd (0 ≤ (band .i64 p_which 3) ∧ (band .i64 p_which 3) < ((([1, 2, 4, 8] : List Int).length : Nat) : Int)) <|
        let1 (gt ([1, 2, 4, 8] : List Int) (band .i64 p_which 3)) fun n_1 =>
        gd ((IntKind.i64.wrap ((IntKind.i64.wrap (((b.length : Nat) : Int) - n_1)) + 1)) ≠ 0) <|
        let1 (Int.tmod (band .i64 p_at 16777215) (IntKind.i64.wrap ((IntKind.i64.wrap (((b.length : Nat) : Int) - n_1)) + 1))) fun k_1 =>
        (octets_Set b (IntKind.u64.wrap k_1) n_1 p_x).bind fun z2 =>
        (octets_Get z2.1 (IntKind.u64.wrap k_1) n_1).bind fun z3 =>
        (octets_Cut z2.1 (IntKind.u64.wrap k_1) (IntKind.u64.wrap n_1)).bind fun z4 =>
        jn (fun (s2 : Bool) =>
          (if (s2) = true then
            some false
          else
            jn (fun (s3 : Unit) =>
              jn (fun (s6 : Int) =>
                jn (fun (s8 : Bool) =>
                  some s8) (fun k6 =>
                  (if (z3.1 == s6) = true then
                  (if (n_1 == 8) = true then
                  (if (z3.1 == p_x) = true then
                  k6 true
                  else
                  (if (decide (n_1 < 8)) = true then
                  gd (0 ≤ (IntKind.u64.wrap (IntKind.i64.wrap (8 * n_1)))) <|
                  k6 (z3.1 == (band .u64 p_x (IntKind.u64.wrap ((shl .u64 1 (IntKind.u64.wrap (IntKind.i64.wrap (8 * n_1)))) - 1))))
                  else
                  k6 false))
                  else
                  (if (decide (n_1 < 8)) = true then
                  gd (0 ≤ (IntKind.u64.wrap (IntKind.i64.wrap (8 * n_1)))) <|
                  k6 (z3.1 == (band .u64 p_x (IntKind.u64.wrap ((shl .u64 1 (IntKind.u64.wrap (IntKind.i64.wrap (8 * n_1)))) - 1))))
                  else
                  k6 false))
                  else
                  k6 false))) (fun k5 =>
                loopK (fun (s7 : Int × Int) rec2 =>
                  (if (decide (s7.2 < n_1)) = true then
                    gd (0 ≤ s7.2 ∧ s7.2 < ((z4.1.length : Nat) : Int)) <|
                    gd (0 ≤ (IntKind.u64.wrap (IntKind.i64.wrap (8 * s7.2)))) <|
                    let1 (IntKind.u64.wrap (s7.1 + (shl .u64 (IntKind.u64.wrap (gt z4.1 s7.2)) (IntKind.u64.wrap (IntKind.i64.wrap (8 * s7.2)))))) fun z_1 =>
                    let1 (IntKind.i64.wrap (s7.2 + 1)) fun i_2 =>
                    rec2 (z_1, i_2)
                  else
                    k5 s7.1)) bigF (0, 0))) (fun k3 =>
              loopK (fun (s4 : Int) rec1 =>
                (if (decide (s4 < ((b.length : Nat) : Int))) = true then
                  jn (fun (s5 : Bool) =>
                    (if (s5) = true then
                      some false
                    else
                      let1 (IntKind.i64.wrap (s4 + 1)) fun i_1 =>
                      rec1 i_1)) (fun k4 =>
                    (if (decide (s4 < k_1)) = true then
                    gd (0 ≤ s4 ∧ s4 < ((z2.1.length : Nat) : Int)) <|
                    gd (0 ≤ s4 ∧ s4 < ((b.length : Nat) : Int)) <|
                    k4 ((gt z2.1 s4) != (gt b s4))
                    else
                    (if (decide (s4 ≥ (IntKind.i64.wrap (k_1 + n_1)))) = true then
                    gd (0 ≤ s4 ∧ s4 < ((z2.1.length : Nat) : Int)) <|
                    gd (0 ≤ s4 ∧ s4 < ((b.length : Nat) : Int)) <|
                    k4 ((gt z2.1 s4) != (gt b s4))
                    else
                    k4 false)))
                else
                  k3 ())) bigF 0))) (fun k2 =>
          (if (z2.2 != 0) = true then
          k2 true
          else
          (if (z3.2 != 0) = true then
          k2 true
          else
          (if (z4.2 != 0) = true then
          k2 true
          else
          (if (((z2.1.length : Nat) : Int) != ((b.length : Nat) : Int)) = true then
          k2 true
          else
          k2 (((z4.1.length : Nat) : Int) != n_1)))))))) (fun k1 =>
      (if (decide (((b.length : Nat) : Int) < 8)) = true then
      k1 true
      else
      k1 (decide (((b.length : Nat) : Int) > 2000)))))

/-- dormouse/dormouselaw01.OctetsEnds -/
def law01_OctetsEnds (n : Int) (p_which : Int) : Option (Bool) :=
  (law01_awake).bind fun z1 =>
  (if (!z1) = true then
    some false
  else
    gd (0 ≤ (band .i64 p_which 3) ∧ (band .i64 p_which 3) < ((([1, 2, 4, 8] : List Int).length : Nat) : Int)) <|
    let1 (gt ([1, 2, 4, 8] : List Int) (band .i64 p_which 3)) fun k_1 =>
    gd (0 ≤ (IntKind.i64.wrap (k_1 + (band .i64 n 255))) ∧ (IntKind.i64.wrap (k_1 + (band .i64 n 255))) * ((1 : Nat) : Int) ≤ 281474976710656) <|
    let1 ((List.replicate (IntKind.i64.wrap (k_1 + (band .i64 n 255))).toNat (0 : Int))) fun b_1 =>
    let1 (IntKind.u64.wrap (IntKind.i64.wrap (((b_1.length : Nat) : Int) - k_1))) fun at_1 =>
    (octets_Get b_1 at_1 k_1).bind fun z2 =>
    (octets_Get b_1 (IntKind.u64.wrap (at_1 + 1)) k_1).bind fun z3 =>
    (octets_Cut b_1 (IntKind.u64.wrap ((b_1.length : Nat) : Int)) 0).bind fun z4 =>
    (octets_Cut b_1 (IntKind.u64.wrap ((b_1.length : Nat) : Int)) 1).bind fun z5 =>
    (octets_Cut b_1 (IntKind.u64.wrap ((IntKind.u64.wrap ((b_1.length : Nat) : Int)) + 1)) 0).bind fun z6 =>
    (octets_Cut b_1 18446744073709551615 2).bind fun z7 =>
    jn (fun (s1 : Bool) =>
      some s1) (fun k1 =>
      (if (z2.2 == 0) = true then
      (if (z3.2 == 10) = true then
      (if (z4.2 == 0) = true then
      (if (((z4.1.length : Nat) : Int) == 0) = true then
      (if (z5.2 == 10) = true then
      (if (z6.2 == 10) = true then
      k1 (z7.2 == 10)
      else
      k1 false)
      else
      k1 false)
      else
      k1 false)
      else
      k1 false)
      else
      k1 false)
      else
      k1 false)))

end Dm
