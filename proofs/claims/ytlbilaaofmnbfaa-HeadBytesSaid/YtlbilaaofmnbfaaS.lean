/-
  The shallow forms of the Go functions: plain functions in the Option monad, printed by a program of this repo. No condition.
-/
import Derived.Test.YtlbilaaofmnbfaaPre
namespace Dm
open Go

/-- dormouse/octets.width -/
def octets_width (n : Int) : Option (Bool) :=
  jn (fun (s1 : Bool) =>
    some s1) (fun k1 =>
    (if (n == 1) = true then
    k1 true
    else
    (if (n == 2) = true then
    k1 true
    else
    (if (n == 4) = true then
    k1 true
    else
    k1 (n == 8)))))

/-- dormouse/octets.has -/
def octets_has (p_many : Int) (p_at : Int) (size : Int) : Option (Bool) :=
  let1 (IntKind.u64.wrap p_many) fun all_1 =>
  jn (fun (s1 : Bool) =>
    some s1) (fun k1 =>
    (if (decide (p_at ≤ all_1)) = true then
    k1 (decide (size ≤ (IntKind.u64.wrap (all_1 - p_at))))
    else
    k1 false))

/-- dormouse/octets.fits -/
def octets_fits (b : List Int) (p_at : Int) (n : Int) : Option (Int) :=
  (octets_width n).bind fun z1 =>
  (if (!z1) = true then
    some 1
  else
    (octets_has ((b.length : Nat) : Int) p_at (IntKind.u64.wrap n)).bind fun z2 =>
    (if (!z2) = true then
      some 10
    else
      some 0))

def slices_Clone_byte_byte (s : List Int) : Option (List Int) := gd (s.length * 1 ≤ 140737488355328) <| some s

/-- dormouse/octets.Set -/
def octets_Set (b : List Int) (p_at : Int) (n : Int) (p_x : Int) : Option ((List Int) × Int) :=
  (octets_fits b p_at n).bind fun z1 =>
  (if (z1 != 0) = true then
    some ([], z1)
  else
    (slices_Clone_byte_byte b).bind fun z2 =>
    jn (fun (s1 : List Int) =>
      some (s1, 0)) (fun k1 =>
      loopK (fun (s2 : Int × (List Int)) rec1 =>
        (if (decide (s2.1 < n)) = true then
          gd ((0 : Int) ≤ (IntKind.u64.wrap (IntKind.i64.wrap (8 * s2.1)))) <|
          gd ((0 : Int) ≤ (IntKind.i64.wrap ((IntKind.i64.wrap p_at) + s2.1)) ∧ (IntKind.i64.wrap ((IntKind.i64.wrap p_at) + s2.1)) < ((s2.2.length : Nat) : Int)) <|
          rec1 (IntKind.i64.wrap (s2.1 + 1), (s2.2.set (Int.toNat (IntKind.i64.wrap ((IntKind.i64.wrap p_at) + s2.1))) (IntKind.u8.wrap (shr .u64 p_x (IntKind.u64.wrap (IntKind.i64.wrap (8 * s2.1)))))))
        else
          k1 s2.2)) bigF (0, z2)))

/-- dormouse/head.row -/
def head_row (fields : List (Int × Int)) : Option (List Int) :=
  jn (fun (s1 : List Int) =>
    some s1) (fun k1 =>
    loopK (fun (s2 : (List Int) × Int) rec1 =>
      (if (decide (s2.2 < ((fields.length : Nat) : Int))) = true then
        gd ((0 : Int) ≤ s2.2 ∧ s2.2 < ((fields.length : Nat) : Int)) <|
        gd ((0 : Int) ≤ ((gt fields s2.2).1) ∧ ((gt fields s2.2).1) * ((1 : Nat) : Int) ≤ 281474976710656) <|
        (octets_Set (List.replicate (Int.toNat ((gt fields s2.2).1)) (0 : Int)) 0 ((gt fields s2.2).1) ((gt fields s2.2).2)).bind fun z1 =>
        gd ((s2.1.length + z1.1.length) * 1 ≤ 140737488355328) <|
        rec1 ((s2.1 ++ z1.1), IntKind.i64.wrap (s2.2 + 1))
      else
        k1 s2.1)) bigF ([], 0))

/-- dormouse/head.Put -/
def head_Put (p_h : Int × Int × Int × Int) : Option ((List Int) × Int) :=
  jn (fun (s1 : Bool) =>
    (if (s1) = true then
      some ([], 1)
    else
      gd ((0 : Int) ≤ 9 ∧ (([127, 69, 76, 70, 2, 1, 1] : List Int).length + Int.toNat 9) * 1 ≤ 140737488355328) <|
      (head_row ([(2, IntKind.u64.wrap p_h.1), (2, 19823), (4, 1), (8, p_h.2.1), (8, p_h.2.2.1), (8, 0), (4, 0), (2, 64), (2, 56), (2, IntKind.u64.wrap p_h.2.2.2), (2, 0), (2, 0), (2, 0)] : List (Int × Int))).bind fun z1 =>
      gd (((([127, 69, 76, 70, 2, 1, 1] : List Int) ++ List.replicate (Int.toNat 9) (0 : Int)).length + z1.length) * 1 ≤ 140737488355328) <|
      some (((([127, 69, 76, 70, 2, 1, 1] : List Int) ++ List.replicate (Int.toNat 9) (0 : Int)) ++ z1), 0))) (fun k1 =>
    (if (decide (p_h.1 < 2)) = true then
    k1 true
    else
    (if (decide (p_h.1 > 4)) = true then
    k1 true
    else
    (if (decide (p_h.2.2.2 < 0)) = true then
    k1 true
    else
    k1 (decide (p_h.2.2.2 > 64))))))

/-- dormouse/octets.Get -/
def octets_Get (b : List Int) (p_at : Int) (n : Int) : Option (Int × Int) :=
  (octets_fits b p_at n).bind fun z1 =>
  (if (z1 != 0) = true then
    some (0, z1)
  else
    jn (fun (s1 : Int) =>
      some (s1, 0)) (fun k1 =>
      loopK (fun (s2 : Int × Int) rec1 =>
        (if (decide (s2.2 < n)) = true then
          gd ((0 : Int) ≤ (IntKind.i64.wrap ((IntKind.i64.wrap p_at) + s2.2)) ∧ (IntKind.i64.wrap ((IntKind.i64.wrap p_at) + s2.2)) < ((b.length : Nat) : Int)) <|
          gd ((0 : Int) ≤ (IntKind.u64.wrap (IntKind.i64.wrap (8 * s2.2)))) <|
          let1 (bor .u64 s2.1 (shl .u64 (IntKind.u64.wrap (gt b (IntKind.i64.wrap ((IntKind.i64.wrap p_at) + s2.2)))) (IntKind.u64.wrap (IntKind.i64.wrap (8 * s2.2))))) fun x_1 =>
          rec1 (x_1, IntKind.i64.wrap (s2.2 + 1))
        else
          k1 s2.1)) bigF (0, 0)))

/-- dormouse/head.Get$1 -/
def head_Get_1 (place : Int) (n : Int) (q_2 : List Int) : Option (Int) :=
  (octets_Get q_2 place n).bind fun z1 =>
  some z1.1

/-- slices.Equal[[]byte,byte] -/
def slices_Equal_byte_byte (p_s1 : List Int) (p_s2 : List Int) : Option (Bool) :=
  (if (((p_s1.length : Nat) : Int) != ((p_s2.length : Nat) : Int)) = true then
    some false
  else
    jn (fun (_ : Unit) =>
      some true) (fun k1 =>
      loopK (fun (s2 : Int) rec1 =>
        (if (decide (s2 < ((p_s1.length : Nat) : Int))) = true then
          gd ((0 : Int) ≤ s2 ∧ s2 < ((p_s1.length : Nat) : Int)) <|
          gd ((0 : Int) ≤ s2 ∧ s2 < ((p_s2.length : Nat) : Int)) <|
          (if ((gt p_s1 s2) != (gt p_s2 s2)) = true then
            some false
          else
            rec1 (IntKind.i64.wrap (s2 + 1)))
        else
          k1 ())) bigF 0))

/-- dormouse/head.Get -/
def head_Get (b : List Int) : Option ((Int × Int × Int × Int) × Int) :=
  (if (decide (((b.length : Nat) : Int) < 64)) = true then
    some ((0, 0, 0, 0), 10)
  else
    (head_Get_1 16 2 b).bind fun z1 =>
    (head_Get_1 24 8 b).bind fun z2 =>
    (head_Get_1 32 8 b).bind fun z3 =>
    (head_Get_1 56 2 b).bind fun z4 =>
    (head_Put (IntKind.i64.wrap z1, z2, z3, IntKind.i64.wrap z4)).bind fun z5 =>
    jn (fun (s1 : Bool) =>
      (if (s1) = true then
        some ((0, 0, 0, 0), 11)
      else
        some ((IntKind.i64.wrap z1, z2, z3, IntKind.i64.wrap z4), 0))) (fun k1 =>
      (if (z5.2 != 0) = true then
      k1 true
      else
      gd ((0 : Int) ≤ 0 ∧ (0 : Int) ≤ 64 ∧ 64 ≤ ((b.length : Nat) : Int)) <|
      (slices_Equal_byte_byte z5.1 (cutL b 0 64)).bind fun z6 =>
      k1 (!z6))))

/-- dormouse/dormouselaw03.awake -/
def law03_awake  : Option (Bool) :=
  (head_Put (3, 0, 64, 1)).bind fun z1 =>
  jn (fun (s1 : Bool) =>
    (if (s1) = true then
      some false
    else
      (head_Get z1.1).bind fun z2 =>
      gd ((0 : Int) ≤ 0 ∧ (0 : Int) ≤ 63 ∧ 63 ≤ ((z1.1.length : Nat) : Int)) <|
      (head_Get (cutL z1.1 0 63)).bind fun z3 =>
      jn (fun (s2 : Bool) =>
        some s2) (fun k2 =>
        (if (z2.2 == 0) = true then
        (if (z2.1.2.2.1 == 64) = true then
        (if (z2.1.2.2.2 == 1) = true then
        k2 (z3.2 == 10)
        else
        k2 false)
        else
        k2 false)
        else
        k2 false)))) (fun k1 =>
    (if (z1.2 != 0) = true then
    k1 true
    else
    (if (((z1.1.length : Nat) : Int) != 64) = true then
    k1 true
    else
    gd ((0 : Int) ≤ 0 ∧ 0 < ((z1.1.length : Nat) : Int)) <|
    (if ((gt z1.1 0) != 127) = true then
    k1 true
    else
    gd ((0 : Int) ≤ 16 ∧ 16 < ((z1.1.length : Nat) : Int)) <|
    k1 ((gt z1.1 16) != 3)))))

/-- dormouse/dormouselaw03.model -/
def law03_model (p_h : Int × Int × Int × Int) : Option (Int × Int × Int × Int) :=
  some (p_h.1, p_h.2.1, p_h.2.2.1, p_h.2.2.2)

/-- dormouse/dormouseref03.number -/
def ref03_number (b : List Int) (p_x : Int) (n : Int) : Option (List Int) :=
  jn (fun (s1 : List Int) =>
    some s1) (fun k1 =>
    loopK (fun (s2 : (List Int) × Int × Int) rec1 =>
      (if (decide (s2.2.2 < n)) = true then
        gd ((s2.1.length + ([IntKind.u8.wrap (Int.tmod s2.2.1 256)] : List Int).length) * 1 ≤ 140737488355328) <|
        let1 (IntKind.u64.wrap (Int.tdiv s2.2.1 256)) fun x_1 =>
        let1 (IntKind.i64.wrap (s2.2.2 + 1)) fun i_1 =>
        rec1 ((s2.1 ++ ([IntKind.u8.wrap (Int.tmod s2.2.1 256)] : List Int)), x_1, i_1)
      else
        k1 s2.1)) bigF (b, p_x, 0))

/-- dormouse/dormouseref03.Put -/
def ref03_Put (p_h : Int × Int × Int × Int) : Option ((List Int) × Int) :=
  jn (fun (s1 : Bool) =>
    (if (s1) = true then
      some ([], 1)
    else
      (ref03_number ([127, 69, 76, 70, 2, 1, 1, 0, 0, 0, 0, 0, 0, 0, 0, 0] : List Int) (IntKind.u64.wrap p_h.1) 2).bind fun z1 =>
      (ref03_number z1 19823 2).bind fun z2 =>
      (ref03_number z2 1 4).bind fun z3 =>
      (ref03_number z3 p_h.2.1 8).bind fun z4 =>
      (ref03_number z4 p_h.2.2.1 8).bind fun z5 =>
      (ref03_number z5 0 12).bind fun z6 =>
      (ref03_number z6 64 2).bind fun z7 =>
      (ref03_number z7 56 2).bind fun z8 =>
      (ref03_number z8 (IntKind.u64.wrap p_h.2.2.2) 2).bind fun z9 =>
      (ref03_number z9 0 6).bind fun z10 =>
      some (z10, 0))) (fun k1 =>
    (if (decide (p_h.1 < 2)) = true then
    k1 true
    else
    (if (decide (p_h.1 > 4)) = true then
    k1 true
    else
    (if (decide (p_h.2.2.2 < 0)) = true then
    k1 true
    else
    k1 (decide (p_h.2.2.2 > 64))))))

/-- dormouse/dormouselaw03.HeadPuts -/
def law03_HeadPuts (kind : Int) (entry : Int) (segs : Int) (count : Int) : Option (Bool) :=
  (law03_awake).bind fun z1 =>
  (if (!z1) = true then
    some false
  else
    (head_Put (kind, entry, segs, count)).bind fun z2 =>
    (law03_model (kind, entry, segs, count)).bind fun z3 =>
    (ref03_Put z3).bind fun z4 =>
    jn (fun (s1 : Bool) =>
      some s1) (fun k1 =>
      (if ((toStr z2.1) == (toStr z4.1)) = true then
      k1 (z2.2 == z4.2)
      else
      k1 false)))

/-- dormouse/dormouseref01.width -/
def ref01_width (n : Int) : Option (Bool) :=
  jn (fun (s1 : Bool) =>
    some s1) (fun k1 =>
    (if (n == 1) = true then
    k1 true
    else
    (if (n == 2) = true then
    k1 true
    else
    (if (n == 4) = true then
    k1 true
    else
    k1 (n == 8)))))

/-- dormouse/dormouseref01.Inside -/
def ref01_Inside (p_many : Int) (p_at : Int) (size : Int) : Option (Bool) :=
  (if (decide (p_at > (IntKind.u64.wrap p_many))) = true then
    some false
  else
    some (decide (size ≤ (IntKind.u64.wrap ((IntKind.u64.wrap p_many) - p_at)))))

/-- dormouse/dormouseref01.Get -/
def ref01_Get (b : List Int) (p_at : Int) (n : Int) : Option (Int × Int) :=
  (ref01_width n).bind fun z1 =>
  (if (!z1) = true then
    some (0, 1)
  else
    (ref01_Inside ((b.length : Nat) : Int) p_at (IntKind.u64.wrap n)).bind fun z2 =>
    (if (!z2) = true then
      some (0, 10)
    else
      let1 (IntKind.i64.wrap (n - 1)) fun i_1 =>
      jn (fun (s1 : Int) =>
        some (s1, 0)) (fun k1 =>
        loopK (fun (s2 : Int × Int) rec1 =>
          (if (decide (s2.2 ≥ 0)) = true then
            gd ((0 : Int) ≤ (IntKind.i64.wrap ((IntKind.i64.wrap p_at) + s2.2)) ∧ (IntKind.i64.wrap ((IntKind.i64.wrap p_at) + s2.2)) < ((b.length : Nat) : Int)) <|
            let1 (IntKind.u64.wrap ((IntKind.u64.wrap (s2.1 * 256)) + (IntKind.u64.wrap (gt b (IntKind.i64.wrap ((IntKind.i64.wrap p_at) + s2.2)))))) fun x_1 =>
            let1 (IntKind.i64.wrap (s2.2 - 1)) fun i_2 =>
            rec1 (x_1, i_2)
          else
            k1 s2.1)) bigF (0, i_1))))

/-- dormouse/dormouseref03.Get -/
def ref03_Get (b : List Int) : Option ((Int × Int × Int × Int) × Int) :=
  (if (decide (((b.length : Nat) : Int) < 64)) = true then
    some ((0, 0, 0, 0), 10)
  else
    (ref01_Get b 16 2).bind fun z1 =>
    (ref01_Get b 24 8).bind fun z2 =>
    (ref01_Get b 32 8).bind fun z3 =>
    (ref01_Get b 56 2).bind fun z4 =>
    (ref03_Put (IntKind.i64.wrap z1.1, z2.1, z3.1, IntKind.i64.wrap z4.1)).bind fun z5 =>
    jn (fun (s1 : Bool) =>
      (if (s1) = true then
        some ((0, 0, 0, 0), 11)
      else
        some ((IntKind.i64.wrap z1.1, z2.1, z3.1, IntKind.i64.wrap z4.1), 0))) (fun k1 =>
      (if (z5.2 != 0) = true then
      k1 true
      else
      gd ((0 : Int) ≤ 0 ∧ (0 : Int) ≤ 64 ∧ 64 ≤ ((b.length : Nat) : Int)) <|
      k1 (!((toStr z5.1) == (toStr (cutL b 0 64)))))))

/-- dormouse/dormouselaw03.HeadGets -/
def law03_HeadGets (b : List Int) (entry : Int) (segs : Int) (turn : List Int) : Option (Bool) :=
  (law03_awake).bind fun z1 =>
  (if (!z1) = true then
    some false
  else
    (head_Get b).bind fun z2 =>
    (ref03_Get b).bind fun z3 =>
    jn (fun (s1 : Bool) =>
      (if (s1) = true then
        some false
      else
        (ref03_Put (3, entry, segs, 2)).bind fun z5 =>
        jn (fun (s2 : List Int) =>
          (head_Get s2).bind fun z6 =>
          (ref03_Get s2).bind fun z7 =>
          jn (fun (s5 : Bool) =>
            some s5) (fun k4 =>
            (if (z6.2 == z7.2) = true then
            (law03_model (z6.1.1, z6.1.2.1, z6.1.2.2.1, z6.1.2.2.2)).bind fun z8 =>
            k4 ((z8.1 == z7.1.1) && ((z8.2.1 == z7.1.2.1) && ((z8.2.2.1 == z7.1.2.2.1) && (z8.2.2.2 == z7.1.2.2.2))))
            else
            k4 false))) (fun k2 =>
          loopK (fun (s3 : Int × (List Int)) rec1 =>
            jn (fun (s4 : Bool) =>
              (if (s4) = true then
                gd ((0 : Int) ≤ s3.1 ∧ s3.1 < ((turn.length : Nat) : Int)) <|
                gd ((0 : Int) ≤ (IntKind.i64.wrap (s3.1 + 1)) ∧ (IntKind.i64.wrap (s3.1 + 1)) < ((turn.length : Nat) : Int)) <|
                gd ((0 : Int) ≤ (band .i64 (gt turn s3.1) 63) ∧ (band .i64 (gt turn s3.1) 63) < ((s3.2.length : Nat) : Int)) <|
                let1 (IntKind.i64.wrap (s3.1 + 2)) fun i_1 =>
                rec1 (i_1, (s3.2.set (Int.toNat (band .i64 (gt turn s3.1) 63)) (IntKind.u8.wrap (band .i64 (gt turn (IntKind.i64.wrap (s3.1 + 1))) 255))))
              else
                k2 s3.2)) (fun k3 =>
              (if (decide ((IntKind.i64.wrap (s3.1 + 1)) < ((turn.length : Nat) : Int))) = true then
              k3 (decide (s3.1 < 6))
              else
              k3 false))) bigF (0, z5.1)))) (fun k1 =>
      (if (z2.2 != z3.2) = true then
      k1 true
      else
      (law03_model (z2.1.1, z2.1.2.1, z2.1.2.2.1, z2.1.2.2.2)).bind fun z4 =>
      k1 (!((z4.1 == z3.1.1) && ((z4.2.1 == z3.1.2.1) && ((z4.2.2.1 == z3.1.2.2.1) && (z4.2.2.2 == z3.1.2.2.2))))))))

/-- dormouse/dormouselaw03.HeadBack -/
def law03_HeadBack (kind : Int) (entry : Int) (segs : Int) (count : Int) (more : List Int) : Option (Bool) :=
  (law03_awake).bind fun z1 =>
  (if (!z1) = true then
    some false
  else
    (if (decide (((more.length : Nat) : Int) > 2000)) = true then
      some true
    else
      (head_Put (kind, entry, segs, count)).bind fun z2 =>
      (if (z2.2 != 0) = true then
        some (((z2.1.length : Nat) : Int) == 0)
      else
        gd ((z2.1.length + more.length) * 1 ≤ 140737488355328) <|
        (head_Get (z2.1 ++ more)).bind fun z3 =>
        (head_Get more).bind fun z4 =>
        jn (fun (s1 : Bool) =>
          (if (s1) = true then
            some false
          else
            (if (z4.2 != 0) = true then
              some ((z4.1.1 == 0) && ((z4.1.2.1 == 0) && ((z4.1.2.2.1 == 0) && (z4.1.2.2.2 == 0))))
            else
              (head_Put (z4.1.1, z4.1.2.1, z4.1.2.2.1, z4.1.2.2.2)).bind fun z5 =>
              jn (fun (s2 : Bool) =>
                some s2) (fun k2 =>
                (if (z5.2 == 0) = true then
                (if (decide (((z5.1.length : Nat) : Int) ≤ ((more.length : Nat) : Int))) = true then
                gd ((0 : Int) ≤ 0 ∧ (0 : Int) ≤ ((z5.1.length : Nat) : Int) ∧ ((z5.1.length : Nat) : Int) ≤ ((more.length : Nat) : Int)) <|
                k2 ((toStr z5.1) == (toStr (cutL more 0 ((z5.1.length : Nat) : Int))))
                else
                k2 false)
                else
                k2 false))))) (fun k1 =>
          (if (z3.2 != 0) = true then
          k1 true
          else
          k1 (!((z3.1.1 == kind) && ((z3.1.2.1 == entry) && ((z3.1.2.2.1 == segs) && (z3.1.2.2.2 == count))))))))))

/-- dormouse/dormouselaw03.HeadBytes -/
def law03_HeadBytes (kind : Int) (entry : Int) (segs : Int) (count : Int) (p_at : Int) (p_c : Int) : Option (Bool) :=
  (law03_awake).bind fun z1 =>
  (if (!z1) = true then
    some false
  else
    (ref03_Put (2, entry, segs, 1)).bind fun z2 =>
    gd ((0 : Int) ≤ 16 ∧ 16 < ((z2.1.length : Nat) : Int)) <|
    gd ((0 : Int) ≤ 17 ∧ 17 < (((z2.1.set (Int.toNat 16) (IntKind.u8.wrap kind)).length : Nat) : Int)) <|
    gd ((0 : Int) ≤ 56 ∧ 56 < ((((z2.1.set (Int.toNat 16) (IntKind.u8.wrap kind)).set (Int.toNat 17) (IntKind.u8.wrap (shr .u16 kind 8))).length : Nat) : Int)) <|
    gd ((0 : Int) ≤ 57 ∧ 57 < (((((z2.1.set (Int.toNat 16) (IntKind.u8.wrap kind)).set (Int.toNat 17) (IntKind.u8.wrap (shr .u16 kind 8))).set (Int.toNat 56) (IntKind.u8.wrap count)).length : Nat) : Int)) <|
    jn (fun (s1 : List Int) =>
      (head_Get s1).bind fun z3 =>
      (ref03_Get s1).bind fun z4 =>
      jn (fun (s2 : Bool) =>
        some s2) (fun k2 =>
        (if (z3.2 == z4.2) = true then
        (law03_model (z3.1.1, z3.1.2.1, z3.1.2.2.1, z3.1.2.2.2)).bind fun z5 =>
        k2 ((z5.1 == z4.1.1) && ((z5.2.1 == z4.1.2.1) && ((z5.2.2.1 == z4.1.2.2.1) && (z5.2.2.2 == z4.1.2.2.2))))
        else
        k2 false))) (fun k1 =>
      (if (decide (p_at < 64)) = true then
        gd ((0 : Int) ≤ p_at ∧ p_at < ((((((z2.1.set (Int.toNat 16) (IntKind.u8.wrap kind)).set (Int.toNat 17) (IntKind.u8.wrap (shr .u16 kind 8))).set (Int.toNat 56) (IntKind.u8.wrap count)).set (Int.toNat 57) (IntKind.u8.wrap (shr .u16 count 8))).length : Nat) : Int)) <|
        k1 (((((z2.1.set (Int.toNat 16) (IntKind.u8.wrap kind)).set (Int.toNat 17) (IntKind.u8.wrap (shr .u16 kind 8))).set (Int.toNat 56) (IntKind.u8.wrap count)).set (Int.toNat 57) (IntKind.u8.wrap (shr .u16 count 8))).set (Int.toNat p_at) p_c)
      else
        k1 ((((z2.1.set (Int.toNat 16) (IntKind.u8.wrap kind)).set (Int.toNat 17) (IntKind.u8.wrap (shr .u16 kind 8))).set (Int.toNat 56) (IntKind.u8.wrap count)).set (Int.toNat 57) (IntKind.u8.wrap (shr .u16 count 8))))))

/-- dormouse/rela.Value -/
def rela_Value (kind : Int) (base : Int) (symbol : Int) (add : Int) : Option (Int × Int) :=
  (if (kind == 0) = true then
    some (0, 0)
  else
    (if (kind == 8) = true then
      some (IntKind.u64.wrap (base + (IntKind.u64.wrap add)), 0)
    else
      jn (fun (s1 : Bool) =>
        (if (s1) = true then
          some (symbol, 0)
        else
          jn (fun (s3 : Bool) =>
            (if (s3) = true then
              some (IntKind.u64.wrap (symbol + (IntKind.u64.wrap add)), 0)
            else
              some (0, 33))) (fun k3 =>
            (if (kind == 1) = true then
              k3 (kind == 1)
            else
              jn (fun (s4 : Bool) =>
                k3 s4) (fun k4 =>
                (if (kind == 17) = true then
                  k4 (kind == 17)
                else
                  k4 (kind == 18))))))) (fun k1 =>
        (if (kind == 6) = true then
          k1 (kind == 6)
        else
          jn (fun (s2 : Bool) =>
            k1 s2) (fun k2 =>
            (if (kind == 7) = true then
              k2 (kind == 7)
            else
              k2 (kind == 16)))))))

/-- dormouse/rela.Put -/
def rela_Put (p_x : Int × Int × Int × Int) : Option (List Int) :=
  jn (fun (s1 : List Int) =>
    some s1) (fun k1 =>
    loopK (fun (s2 : (List Int) × Int) rec1 =>
      (if (decide (s2.2 < 3)) = true then
        gd ((0 : Int) ≤ s2.2 ∧ s2.2 < ((3 : Nat) : Int)) <|
        let1 (gt ([p_x.1, bor .u64 (IntKind.u64.wrap p_x.2.1) (shl .u64 (IntKind.u64.wrap p_x.2.2.1) 32), IntKind.u64.wrap p_x.2.2.2] : List Int) s2.2) fun w_1 =>
        gd ((0 : Int) ≤ 8 ∧ 8 * ((1 : Nat) : Int) ≤ 281474976710656) <|
        (octets_Set (List.replicate (Int.toNat 8) (0 : Int)) 0 8 w_1).bind fun z1 =>
        gd ((s2.1.length + z1.1.length) * 1 ≤ 140737488355328) <|
        rec1 ((s2.1 ++ z1.1), IntKind.i64.wrap (s2.2 + 1))
      else
        k1 s2.1)) bigF ([], 0))

/-- dormouse/rela.Table -/
def rela_Table (b : List Int) : Option ((List (Int × Int × Int × Int)) × Int) :=
  (if ((Int.tmod ((b.length : Nat) : Int) 24) != 0) = true then
    some ([], 10)
  else
    jn (fun (s1 : List (Int × Int × Int × Int)) =>
      some (s1, 0)) (fun k1 =>
      loopK (fun (s2 : (List (Int × Int × Int × Int)) × Int) rec1 =>
        (if (decide (s2.2 < (IntKind.u64.wrap ((b.length : Nat) : Int)))) = true then
          (octets_Get b s2.2 8).bind fun z1 =>
          (octets_Get b (IntKind.u64.wrap (s2.2 + 8)) 4).bind fun z2 =>
          (octets_Get b (IntKind.u64.wrap (s2.2 + 12)) 4).bind fun z3 =>
          (octets_Get b (IntKind.u64.wrap (s2.2 + 16)) 8).bind fun z4 =>
          gd ((s2.1.length + ([(z1.1, IntKind.u32.wrap z2.1, IntKind.u32.wrap z3.1, IntKind.i64.wrap z4.1)] : List (Int × Int × Int × Int)).length) * 24 ≤ 140737488355328) <|
          let1 (IntKind.u64.wrap (s2.2 + 24)) fun at_1 =>
          rec1 ((s2.1 ++ ([(z1.1, IntKind.u32.wrap z2.1, IntKind.u32.wrap z3.1, IntKind.i64.wrap z4.1)] : List (Int × Int × Int × Int))), at_1)
        else
          k1 s2.1)) bigF ([], 0)))

/-- dormouse/rela.Check -/
def rela_Check (p_l : List (Int × Int × Int × Int)) (symbols : Int) : Option (Int) :=
  jn (fun (_ : Unit) =>
    some 0) (fun k1 =>
    loopK (fun (s2 : Int) rec1 =>
      (if (decide (s2 < ((p_l.length : Nat) : Int))) = true then
        gd ((0 : Int) ≤ s2 ∧ s2 < ((p_l.length : Nat) : Int)) <|
        (rela_Value ((gt p_l s2).2.1) 0 0 0).bind fun z1 =>
        (if (z1.2 != 0) = true then
          some z1.2
        else
          jn (fun (s3 : Bool) =>
            jn (fun (s4 : Bool) =>
              (if (s4) = true then
                some 10
              else
                (if (!(s3 == (((gt p_l s2).2.2.1) == 0))) = true then
                  some 11
                else
                  rec1 (IntKind.i64.wrap (s2 + 1))))) (fun k3 =>
              (if (decide (((gt p_l s2).2.2.1) > 0)) = true then
              k3 (decide ((IntKind.i64.wrap ((gt p_l s2).2.2.1)) ≥ symbols))
              else
              k3 false))) (fun k2 =>
            (if (((gt p_l s2).2.1) == 0) = true then
            k2 true
            else
            let1 (((gt p_l s2).2.1) == 8) fun alone_1 =>
            k2 alone_1)))
      else
        k1 ())) bigF 0)

/-- dormouse/dormouselaw07.awake -/
def law07_awake  : Option (Bool) :=
  (rela_Value 8 4096 9 5).bind fun z1 =>
  (rela_Put (3, 1, 2, (-1))).bind fun z2 =>
  (rela_Table z2).bind fun z3 =>
  jn (fun (s1 : Bool) =>
    some s1) (fun k1 =>
    (if (z1.1 == 4101) = true then
    (if (z1.2 == 0) = true then
    (if (((z2.length : Nat) : Int) == 24) = true then
    (if (z3.2 == 0) = true then
    (if (((z3.1.length : Nat) : Int) == 1) = true then
    gd ((0 : Int) ≤ 0 ∧ 0 < ((z3.1.length : Nat) : Int)) <|
    (if (((gt z3.1 0).2.2.1) == 2) = true then
    gd ((0 : Int) ≤ 0 ∧ 0 < ((z3.1.length : Nat) : Int)) <|
    (if (((gt z3.1 0).2.2.2) == (-1)) = true then
    (rela_Check z3.1 2).bind fun z4 =>
    (if (z4 == 10) = true then
    (rela_Check z3.1 3).bind fun z5 =>
    k1 (z5 == 0)
    else
    k1 false)
    else
    k1 false)
    else
    k1 false)
    else
    k1 false)
    else
    k1 false)
    else
    k1 false)
    else
    k1 false)
    else
    k1 false))

/-- dormouse/dormouseref07.eight -/
def ref07_eight (b : List Int) (p_x : Int) : Option (List Int) :=
  jn (fun (s1 : List Int) =>
    some s1) (fun k1 =>
    loopK (fun (s2 : (List Int) × Int × Int) rec1 =>
      (if (decide (s2.2.2 < 8)) = true then
        gd ((s2.1.length + ([IntKind.u8.wrap (Int.tmod s2.2.1 256)] : List Int).length) * 1 ≤ 140737488355328) <|
        let1 (IntKind.u64.wrap (Int.tdiv s2.2.1 256)) fun x_1 =>
        let1 (IntKind.i64.wrap (s2.2.2 + 1)) fun i_1 =>
        rec1 ((s2.1 ++ ([IntKind.u8.wrap (Int.tmod s2.2.1 256)] : List Int)), x_1, i_1)
      else
        k1 s2.1)) bigF (b, p_x, 0))

/-- dormouse/dormouseref07.Put -/
def ref07_Put (p_x : Int × Int × Int × Int) : Option (List Int) :=
  (ref07_eight ([] : List Int) p_x.1).bind fun z1 =>
  (ref07_eight z1 (IntKind.u64.wrap ((IntKind.u64.wrap p_x.2.1) + (IntKind.u64.wrap ((IntKind.u64.wrap p_x.2.2.1) * 4294967296))))).bind fun z2 =>
  (ref07_eight z2 (IntKind.u64.wrap p_x.2.2.2)).bind fun z3 =>
  some z3

/-- dormouse/dormouselaw07.RelaPuts -/
def law07_RelaPuts (p_x : Int × Int × Int × Int) : Option (Bool) :=
  (law07_awake).bind fun z1 =>
  (if (!z1) = true then
    some false
  else
    (rela_Put (p_x.1, p_x.2.1, p_x.2.2.1, p_x.2.2.2)).bind fun z2 =>
    (rela_Table z2).bind fun z3 =>
    jn (fun (s1 : Bool) =>
      some s1) (fun k1 =>
      (ref07_Put (p_x.1, p_x.2.1, p_x.2.2.1, p_x.2.2.2)).bind fun z4 =>
      (if ((toStr z2) == (toStr z4)) = true then
        (if (z3.2 == 0) = true then
          (if (((z3.1.length : Nat) : Int) == 1) = true then
            gd ((0 : Int) ≤ 0 ∧ 0 < ((z3.1.length : Nat) : Int)) <|
            k1 ((((gt z3.1 0).1) == p_x.1) && ((((gt z3.1 0).2.1) == p_x.2.1) && ((((gt z3.1 0).2.2.1) == p_x.2.2.1) && (((gt z3.1 0).2.2.2) == p_x.2.2.2))))
          else
            k1 false)
        else
          k1 false)
      else
        k1 false)))

/-- dormouse/dormouseref07.Table -/
def ref07_Table (b : List Int) : Option ((List (Int × Int × Int × Int)) × Int) :=
  (if ((Int.tmod ((b.length : Nat) : Int) 24) != 0) = true then
    some ([], 10)
  else
    jn (fun (s1 : List (Int × Int × Int × Int)) =>
      some (s1, 0)) (fun k1 =>
      loopK (fun (s2 : (List (Int × Int × Int × Int)) × Int) rec1 =>
        (if (decide (s2.2 < ((b.length : Nat) : Int))) = true then
          (ref01_Get b (IntKind.u64.wrap s2.2) 8).bind fun z1 =>
          (ref01_Get b (IntKind.u64.wrap (IntKind.i64.wrap (s2.2 + 8))) 8).bind fun z2 =>
          (ref01_Get b (IntKind.u64.wrap (IntKind.i64.wrap (s2.2 + 16))) 8).bind fun z3 =>
          gd ((s2.1.length + ([(z1.1, IntKind.u32.wrap (Int.tmod z2.1 4294967296), IntKind.u32.wrap (IntKind.u64.wrap (Int.tdiv z2.1 4294967296)), IntKind.i64.wrap z3.1)] : List (Int × Int × Int × Int)).length) * 24 ≤ 140737488355328) <|
          let1 (IntKind.i64.wrap (s2.2 + 24)) fun i_1 =>
          rec1 ((s2.1 ++ ([(z1.1, IntKind.u32.wrap (Int.tmod z2.1 4294967296), IntKind.u32.wrap (IntKind.u64.wrap (Int.tdiv z2.1 4294967296)), IntKind.i64.wrap z3.1)] : List (Int × Int × Int × Int))), i_1)
        else
          k1 s2.1)) bigF ([], 0)))

/-- dormouse/dormouselaw07.RelaTables -/
def law07_RelaTables (b : List Int) : Option (Bool) :=
  (law07_awake).bind fun z1 =>
  (if (!z1) = true then
    some false
  else
    (if (decide (((b.length : Nat) : Int) > 4000)) = true then
      some true
    else
      (rela_Table b).bind fun z2 =>
      (ref07_Table b).bind fun z3 =>
      jn (fun (s1 : Bool) =>
        (if (s1) = true then
          some false
        else
          jn (fun (_ : Unit) =>
            some true) (fun k2 =>
            loopK (fun (s3 : Int) rec1 =>
              (if (decide (s3 < ((z2.1.length : Nat) : Int))) = true then
                gd ((0 : Int) ≤ s3 ∧ s3 < ((z2.1.length : Nat) : Int)) <|
                gd ((0 : Int) ≤ s3 ∧ s3 < ((z3.1.length : Nat) : Int)) <|
                (if (!((((gt z2.1 s3).1) == ((gt z3.1 s3).1)) && ((((gt z2.1 s3).2.1) == ((gt z3.1 s3).2.1)) && ((((gt z2.1 s3).2.2.1) == ((gt z3.1 s3).2.2.1)) && (((gt z2.1 s3).2.2.2) == ((gt z3.1 s3).2.2.2)))))) = true then
                  some false
                else
                  let1 (IntKind.i64.wrap (s3 + 1)) fun i_1 =>
                  rec1 i_1)
              else
                k2 ())) bigF 0))) (fun k1 =>
        (if (z2.2 != z3.2) = true then
        k1 true
        else
        k1 (((z2.1.length : Nat) : Int) != ((z3.1.length : Nat) : Int))))))

/-- dormouse/dormouseref07.Known -/
def ref07_Known (p_t : Int) : Option (Bool) :=
  jn (fun (s1 : Bool) =>
    some s1) (fun k1 =>
    (if (p_t == 0) = true then
    k1 true
    else
    (if (p_t == 1) = true then
    k1 true
    else
    (if (p_t == 6) = true then
    k1 true
    else
    (if (p_t == 7) = true then
    k1 true
    else
    (if (p_t == 8) = true then
    k1 true
    else
    (if (p_t == 16) = true then
    k1 true
    else
    (if (p_t == 17) = true then
    k1 true
    else
    k1 (p_t == 18)))))))))

/-- dormouse/dormouseref07.Check -/
def ref07_Check (p_l : List (Int × Int × Int × Int)) (symbols : Int) : Option (Int) :=
  jn (fun (_ : Unit) =>
    some 0) (fun k1 =>
    loopK (fun (s2 : Int) rec1 =>
      (if (decide (s2 < ((p_l.length : Nat) : Int))) = true then
        gd ((0 : Int) ≤ s2 ∧ s2 < ((p_l.length : Nat) : Int)) <|
        (ref07_Known ((gt p_l s2).2.1)).bind fun z1 =>
        (if (!z1) = true then
          some 33
        else
          jn (fun (s3 : Bool) =>
            (if (s3) = true then
              some 10
            else
              jn (fun (s4 : Bool) =>
                (if (s4) = true then
                  some 11
                else
                  let1 (IntKind.i64.wrap (s2 + 1)) fun i_1 =>
                  rec1 i_1)) (fun k3 =>
                gd ((0 : Int) ≤ s2 ∧ s2 < ((p_l.length : Nat) : Int)) <|
                (if (((gt p_l s2).2.1) == 0) = true then
                gd ((0 : Int) ≤ s2 ∧ s2 < ((p_l.length : Nat) : Int)) <|
                k3 (!(true == (((gt p_l s2).2.2.1) == 0)))
                else
                gd ((0 : Int) ≤ s2 ∧ s2 < ((p_l.length : Nat) : Int)) <|
                gd ((0 : Int) ≤ s2 ∧ s2 < ((p_l.length : Nat) : Int)) <|
                k3 (!((((gt p_l s2).2.1) == 8) == (((gt p_l s2).2.2.1) == 0))))))) (fun k2 =>
            gd ((0 : Int) ≤ s2 ∧ s2 < ((p_l.length : Nat) : Int)) <|
            (if (decide (((gt p_l s2).2.2.1) > 0)) = true then
            (if (decide (symbols < 0)) = true then
            k2 true
            else
            gd ((0 : Int) ≤ s2 ∧ s2 < ((p_l.length : Nat) : Int)) <|
            k2 (decide ((IntKind.u64.wrap ((gt p_l s2).2.2.1)) ≥ (IntKind.u64.wrap symbols))))
            else
            k2 false)))
      else
        k1 ())) bigF 0)

/-- dormouse/dormouselaw07.RelaChecks -/
def law07_RelaChecks (p_l : List (Int × Int × Int × Int)) (symbols : Int) : Option (Bool) :=
  (law07_awake).bind fun z1 =>
  (if (!z1) = true then
    some false
  else
    (if (decide (((p_l.length : Nat) : Int) > 200)) = true then
      some true
    else
      (rela_Check p_l symbols).bind fun z2 =>
      (ref07_Check p_l symbols).bind fun z3 =>
      some (z2 == z3)))

/-- dormouse/dormouseref07.Value -/
def ref07_Value (p_t : Int) (base : Int) (symbol : Int) (add : Int) : Option (Int × Int) :=
  (ref07_Known p_t).bind fun z1 =>
  (if (!z1) = true then
    some (0, 33)
  else
    (if (p_t == 0) = true then
      some (0, 0)
    else
      (if (p_t == 8) = true then
        some (IntKind.u64.wrap (base + (IntKind.u64.wrap add)), 0)
      else
        jn (fun (s1 : Bool) =>
          (if (s1) = true then
            some (symbol, 0)
          else
            some (IntKind.u64.wrap (symbol + (IntKind.u64.wrap add)), 0))) (fun k1 =>
          (if (p_t == 6) = true then
          k1 true
          else
          (if (p_t == 7) = true then
          k1 true
          else
          k1 (p_t == 16)))))))

/-- dormouse/dormouselaw07.RelaValues -/
def law07_RelaValues (kind : Int) (base : Int) (symbol : Int) (add : Int) : Option (Bool) :=
  (law07_awake).bind fun z1 =>
  (if (!z1) = true then
    some false
  else
    (rela_Value kind base symbol add).bind fun z2 =>
    (ref07_Value kind base symbol add).bind fun z3 =>
    jn (fun (s1 : Bool) =>
      some s1) (fun k1 =>
      (if (z2.1 == z3.1) = true then
      k1 (z2.2 == z3.2)
      else
      k1 false)))

/-- dormouse/dormouselaw07.RelaShifts -/
def law07_RelaShifts (kind : Int) (base : Int) (symbol : Int) (add : Int) (p_by : Int) : Option (Bool) :=
  (law07_awake).bind fun z1 =>
  (if (!z1) = true then
    some false
  else
    (rela_Value kind base symbol add).bind fun z2 =>
    (rela_Value kind (IntKind.u64.wrap (base + p_by)) (IntKind.u64.wrap (symbol + p_by)) add).bind fun z3 =>
    (if (z2.2 != z3.2) = true then
      some false
    else
      jn (fun (s1 : Bool) =>
        some s1) (fun k1 =>
        (if (z2.2 != 0) = true then
        k1 true
        else
        (if (kind == 0) = true then
        (if (z2.1 == z3.1) = true then
        k1 true
        else
        (if (kind != 0) = true then
        k1 (z3.1 == (IntKind.u64.wrap (z2.1 + p_by)))
        else
        k1 false))
        else
        (if (kind != 0) = true then
        k1 (z3.1 == (IntKind.u64.wrap (z2.1 + p_by)))
        else
        k1 false))))))

/-- dormouse/dormouselaw07.RelaOne -/
def law07_RelaOne (p_x : Int × Int × Int × Int) (symbols : Int) : Option (Bool) :=
  (law07_awake).bind fun z1 =>
  (if (!z1) = true then
    some false
  else
    jn (fun (s1 : Bool) =>
      some s1) (fun k1 =>
      (rela_Check ([(0, 0, 0, 0), (0, 8, 0, 0), (p_x.1, p_x.2.1, p_x.2.2.1, p_x.2.2.2)] : List (Int × Int × Int × Int)) symbols).bind fun z2 =>
      (ref07_Check ([(0, 0, 0, 0), (0, 8, 0, 0), (p_x.1, p_x.2.1, p_x.2.2.1, p_x.2.2.2)] : List (Int × Int × Int × Int)) symbols).bind fun z3 =>
      (if (z2 == z3) = true then
      gd ((0 : Int) ≤ 2 ∧ (2 : Int) ≤ ((([(0, 0, 0, 0), (0, 8, 0, 0), (p_x.1, p_x.2.1, p_x.2.2.1, p_x.2.2.2)] : List (Int × Int × Int × Int)).length : Nat) : Int) ∧ ((([(0, 0, 0, 0), (0, 8, 0, 0), (p_x.1, p_x.2.1, p_x.2.2.1, p_x.2.2.2)] : List (Int × Int × Int × Int)).length : Nat) : Int) ≤ ((([(0, 0, 0, 0), (0, 8, 0, 0), (p_x.1, p_x.2.1, p_x.2.2.1, p_x.2.2.2)] : List (Int × Int × Int × Int)).length : Nat) : Int)) <|
      (rela_Check (cutL ([(0, 0, 0, 0), (0, 8, 0, 0), (p_x.1, p_x.2.1, p_x.2.2.1, p_x.2.2.2)] : List (Int × Int × Int × Int)) 2 ((([(0, 0, 0, 0), (0, 8, 0, 0), (p_x.1, p_x.2.1, p_x.2.2.1, p_x.2.2.2)] : List (Int × Int × Int × Int)).length : Nat) : Int)) symbols).bind fun z4 =>
      gd ((0 : Int) ≤ 2 ∧ (2 : Int) ≤ ((([(0, 0, 0, 0), (0, 8, 0, 0), (p_x.1, p_x.2.1, p_x.2.2.1, p_x.2.2.2)] : List (Int × Int × Int × Int)).length : Nat) : Int) ∧ ((([(0, 0, 0, 0), (0, 8, 0, 0), (p_x.1, p_x.2.1, p_x.2.2.1, p_x.2.2.2)] : List (Int × Int × Int × Int)).length : Nat) : Int) ≤ ((([(0, 0, 0, 0), (0, 8, 0, 0), (p_x.1, p_x.2.1, p_x.2.2.1, p_x.2.2.2)] : List (Int × Int × Int × Int)).length : Nat) : Int)) <|
      (ref07_Check (cutL ([(0, 0, 0, 0), (0, 8, 0, 0), (p_x.1, p_x.2.1, p_x.2.2.1, p_x.2.2.2)] : List (Int × Int × Int × Int)) 2 ((([(0, 0, 0, 0), (0, 8, 0, 0), (p_x.1, p_x.2.1, p_x.2.2.1, p_x.2.2.2)] : List (Int × Int × Int × Int)).length : Nat) : Int)) symbols).bind fun z5 =>
      k1 (z4 == z5)
      else
      k1 false)))

end Dm
