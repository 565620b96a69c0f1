/-
  The shallow forms of the Go functions: plain functions in the Option monad, printed by a program of this repo. No condition.
-/
import Derived.Test.YtljdbjimdidigaaPre
namespace Dm
open Go

/-- dormouse/octets.width -/
def octets_width (n : Int) : Option (Bool) :=
  jn (fun (s1 : Bool) =>
    some s1) (fun k1 =>
    (if (n == 1) = true then
    k1 true
    else
    (if (n == 2) = true then
    k1 true
    else
    (if (n == 4) = true then
    k1 true
    else
    k1 (n == 8)))))

/-- dormouse/octets.has -/
def octets_has (p_many : Int) (p_at : Int) (size : Int) : Option (Bool) :=
  let1 (IntKind.u64.wrap p_many) fun all_1 =>
  jn (fun (s1 : Bool) =>
    some s1) (fun k1 =>
    (if (decide (p_at ≤ all_1)) = true then
    k1 (decide (size ≤ (IntKind.u64.wrap (all_1 - p_at))))
    else
    k1 false))

/-- dormouse/octets.fits -/
def octets_fits (b : List Int) (p_at : Int) (n : Int) : Option (Int) :=
  (octets_width n).bind fun z1 =>
  (if (!z1) = true then
    some 1
  else
    (octets_has ((b.length : Nat) : Int) p_at (IntKind.u64.wrap n)).bind fun z2 =>
    (if (!z2) = true then
      some 10
    else
      some 0))

def slices_Clone_byte_byte (s : List Int) : Option (List Int) := gd (s.length * 1 ≤ 140737488355328) <| some s

/-- dormouse/octets.Set -/
def octets_Set (b : List Int) (p_at : Int) (n : Int) (p_x : Int) : Option ((List Int) × Int) :=
  (octets_fits b p_at n).bind fun z1 =>
  (if (z1 != 0) = true then
    some ([], z1)
  else
    (slices_Clone_byte_byte b).bind fun z2 =>
    jn (fun (s1 : List Int) =>
      some (s1, 0)) (fun k1 =>
      loopK (fun (s2 : Int × (List Int)) rec1 =>
        (if (decide (s2.1 < n)) = true then
          gd ((0 : Int) ≤ (IntKind.u64.wrap (IntKind.i64.wrap (8 * s2.1)))) <|
          gd ((0 : Int) ≤ (IntKind.i64.wrap ((IntKind.i64.wrap p_at) + s2.1)) ∧ (IntKind.i64.wrap ((IntKind.i64.wrap p_at) + s2.1)) < ((s2.2.length : Nat) : Int)) <|
          rec1 (IntKind.i64.wrap (s2.1 + 1), (s2.2.set (Int.toNat (IntKind.i64.wrap ((IntKind.i64.wrap p_at) + s2.1))) (IntKind.u8.wrap (shr .u64 p_x (IntKind.u64.wrap (IntKind.i64.wrap (8 * s2.1)))))))
        else
          k1 s2.2)) bigF (0, z2)))

/-- dormouse/segs.Put -/
def segs_Put (p_s : Int × Int × Int × Int × Int × Int × Int) : Option (List Int) :=
  jn (fun (s1 : List Int) =>
    some s1) (fun k1 =>
    loopK (fun (s2 : (List Int) × Int) rec1 =>
      (if (decide (s2.2 < ((([bor .u64 (IntKind.u64.wrap p_s.1) (shl .u64 (IntKind.u64.wrap p_s.2.1) 32), p_s.2.2.1, p_s.2.2.2.1, p_s.2.2.2.1, p_s.2.2.2.2.1, p_s.2.2.2.2.2.1, p_s.2.2.2.2.2.2] : List Int).length : Nat) : Int))) = true then
        gd ((0 : Int) ≤ s2.2 ∧ s2.2 < ((([bor .u64 (IntKind.u64.wrap p_s.1) (shl .u64 (IntKind.u64.wrap p_s.2.1) 32), p_s.2.2.1, p_s.2.2.2.1, p_s.2.2.2.1, p_s.2.2.2.2.1, p_s.2.2.2.2.2.1, p_s.2.2.2.2.2.2] : List Int).length : Nat) : Int)) <|
        let1 (gt ([bor .u64 (IntKind.u64.wrap p_s.1) (shl .u64 (IntKind.u64.wrap p_s.2.1) 32), p_s.2.2.1, p_s.2.2.2.1, p_s.2.2.2.1, p_s.2.2.2.2.1, p_s.2.2.2.2.2.1, p_s.2.2.2.2.2.2] : List Int) s2.2) fun x_1 =>
        gd ((0 : Int) ≤ 8 ∧ 8 * ((1 : Nat) : Int) ≤ 281474976710656) <|
        (octets_Set (List.replicate (Int.toNat 8) (0 : Int)) 0 8 x_1).bind fun z1 =>
        gd ((s2.1.length + z1.1.length) * 1 ≤ 140737488355328) <|
        rec1 ((s2.1 ++ z1.1), IntKind.i64.wrap (s2.2 + 1))
      else
        k1 s2.1)) bigF ([], 0))

/-- dormouse/octets.Get -/
def octets_Get (b : List Int) (p_at : Int) (n : Int) : Option (Int × Int) :=
  (octets_fits b p_at n).bind fun z1 =>
  (if (z1 != 0) = true then
    some (0, z1)
  else
    jn (fun (s1 : Int) =>
      some (s1, 0)) (fun k1 =>
      loopK (fun (s2 : Int × Int) rec1 =>
        (if (decide (s2.2 < n)) = true then
          gd ((0 : Int) ≤ (IntKind.i64.wrap ((IntKind.i64.wrap p_at) + s2.2)) ∧ (IntKind.i64.wrap ((IntKind.i64.wrap p_at) + s2.2)) < ((b.length : Nat) : Int)) <|
          gd ((0 : Int) ≤ (IntKind.u64.wrap (IntKind.i64.wrap (8 * s2.2)))) <|
          let1 (bor .u64 s2.1 (shl .u64 (IntKind.u64.wrap (gt b (IntKind.i64.wrap ((IntKind.i64.wrap p_at) + s2.2)))) (IntKind.u64.wrap (IntKind.i64.wrap (8 * s2.2))))) fun x_1 =>
          rec1 (x_1, IntKind.i64.wrap (s2.2 + 1))
        else
          k1 s2.1)) bigF (0, 0)))

/-- dormouse/segs.Get -/
def segs_Get (b : List Int) : Option ((Int × Int × Int × Int × Int × Int × Int) × Int) :=
  (if (decide (((b.length : Nat) : Int) < 56)) = true then
    some ((0, 0, 0, 0, 0, 0, 0), 10)
  else
    jn (fun (s1 : List Int) =>
      gd ((0 : Int) ≤ 2 ∧ 2 < ((7 : Nat) : Int)) <|
      gd ((0 : Int) ≤ 3 ∧ 3 < ((7 : Nat) : Int)) <|
      (if ((gt s1 2) != (gt s1 3)) = true then
        some ((0, 0, 0, 0, 0, 0, 0), 11)
      else
        gd ((0 : Int) ≤ 0 ∧ 0 < ((7 : Nat) : Int)) <|
        gd ((0 : Int) ≤ 0 ∧ 0 < ((7 : Nat) : Int)) <|
        gd ((0 : Int) ≤ 1 ∧ 1 < ((7 : Nat) : Int)) <|
        gd ((0 : Int) ≤ 2 ∧ 2 < ((7 : Nat) : Int)) <|
        gd ((0 : Int) ≤ 4 ∧ 4 < ((7 : Nat) : Int)) <|
        gd ((0 : Int) ≤ 5 ∧ 5 < ((7 : Nat) : Int)) <|
        gd ((0 : Int) ≤ 6 ∧ 6 < ((7 : Nat) : Int)) <|
        some ((IntKind.u32.wrap (gt s1 0), IntKind.u32.wrap (shr .u64 (gt s1 0) 32), gt s1 1, gt s1 2, gt s1 4, gt s1 5, gt s1 6), 0))) (fun k1 =>
      loopK (fun (s2 : Int × (List Int)) rec1 =>
        (if (decide (s2.1 < 7)) = true then
          (octets_Get b (IntKind.u64.wrap (IntKind.i64.wrap (8 * s2.1))) 8).bind fun z1 =>
          gd ((0 : Int) ≤ s2.1 ∧ s2.1 < ((7 : Nat) : Int)) <|
          rec1 (IntKind.i64.wrap (s2.1 + 1), (s2.2.set (Int.toNat s2.1) z1.1))
        else
          k1 s2.2)) bigF (0, (List.replicate 7 0 : List Int))))

/-- dormouse/segs.Place -/
def segs_Place (p_l : List (Int × Int × Int × Int × Int × Int × Int)) (addr : Int) (size : Int) : Option (Int × Int) :=
  jn (fun (_ : Unit) =>
    some (0, 40)) (fun k1 =>
    loopK (fun (s2 : Int) rec1 =>
      (if (decide (s2 < ((p_l.length : Nat) : Int))) = true then
        gd ((0 : Int) ≤ s2 ∧ s2 < ((p_l.length : Nat) : Int)) <|
        let1 (IntKind.u64.wrap (addr - ((gt p_l s2).2.2.2.1))) fun at_1 =>
        jn (fun (s3 : Bool) =>
          (if (s3) = true then
            some (IntKind.u64.wrap (((gt p_l s2).2.2.1) + at_1), 0)
          else
            rec1 (IntKind.i64.wrap (s2 + 1)))) (fun k2 =>
          (if (decide (size > 0)) = true then
          (if (((gt p_l s2).1) == 1) = true then
          (if (decide (addr ≥ ((gt p_l s2).2.2.2.1))) = true then
          (if (decide (at_1 ≤ ((gt p_l s2).2.2.2.2.1))) = true then
          k2 (decide (size ≤ (IntKind.u64.wrap (((gt p_l s2).2.2.2.2.1) - at_1))))
          else
          k2 false)
          else
          k2 false)
          else
          k2 false)
          else
          k2 false))
      else
        k1 ())) bigF 0)

/-- dormouse/octets.Down -/
def octets_Down (p_x : Int) (p_a : Int) : Option (Int × Int) :=
  jn (fun (s1 : Bool) =>
    (if (s1) = true then
      some (0, 1)
    else
      some (bandn .u64 p_x (IntKind.u64.wrap (p_a - 1)), 0))) (fun k1 =>
    (if (p_a == 0) = true then
    k1 true
    else
    k1 ((band .u64 p_a (IntKind.u64.wrap (p_a - 1))) != 0)))

/-- dormouse/octets.Up -/
def octets_Up (p_x : Int) (p_a : Int) : Option (Int × Int) :=
  (octets_Down p_x p_a).bind fun z1 =>
  jn (fun (s1 : Bool) =>
    (if (s1) = true then
      some (z1.1, z1.2)
    else
      (if ((IntKind.u64.wrap (z1.1 + p_a)) == 0) = true then
        some (0, 10)
      else
        some (IntKind.u64.wrap (z1.1 + p_a), 0)))) (fun k1 =>
    (if (z1.2 != 0) = true then
    k1 true
    else
    k1 (z1.1 == p_x)))

/-- dormouse/segs.pages -/
def segs_pages (p_s : Int × Int × Int × Int × Int × Int × Int) : Option (Int × Int) :=
  (octets_Down p_s.2.2.2.1 256).bind fun z1 =>
  (octets_Up (IntKind.u64.wrap (p_s.2.2.2.1 + p_s.2.2.2.2.2.1)) 256).bind fun z2 =>
  some (z1.1, z2.1)

/-- dormouse/segs.Span -/
def segs_Span (p_l : List (Int × Int × Int × Int × Int × Int × Int)) : Option (Int × Int) :=
  jn (fun (s1 : Int × Int) =>
    some (s1.1, s1.2)) (fun k1 =>
    loopK (fun (s2 : Int × Int × Bool × Int) rec1 =>
      (if (decide (s2.2.2.2 < ((p_l.length : Nat) : Int))) = true then
        jn (fun (s3 : Int × Int × Bool) =>
          rec1 (s3.1, s3.2.1, s3.2.2, IntKind.i64.wrap (s2.2.2.2 + 1))) (fun k2 =>
          gd ((0 : Int) ≤ s2.2.2.2 ∧ s2.2.2.2 < ((p_l.length : Nat) : Int)) <|
          jn (fun (s4 : Int × Int × Bool) =>
            k2 (s4.1, s4.2.1, s4.2.2)) (fun k3 =>
            (if (((gt p_l s2.2.2.2).1) == 1) = true then
              (segs_pages ((gt p_l s2.2.2.2).1, (gt p_l s2.2.2.2).2.1, (gt p_l s2.2.2.2).2.2.1, (gt p_l s2.2.2.2).2.2.2.1, (gt p_l s2.2.2.2).2.2.2.2.1, (gt p_l s2.2.2.2).2.2.2.2.2.1, (gt p_l s2.2.2.2).2.2.2.2.2.2)).bind fun z1 =>
              jn (fun (s5 : Bool) =>
                jn (fun (s6 : Int) =>
                  let1 (imax s2.2.1 z1.2) fun high_1 =>
                  k3 (s6, high_1, true)) (fun k5 =>
                  (if (s5) = true then
                    k5 z1.1
                  else
                    k5 s2.1))) (fun k4 =>
                (if (!s2.2.2.1) = true then
                k4 true
                else
                k4 (decide (z1.1 < s2.1))))
            else
              k3 (s2.1, s2.2.1, s2.2.2.1))))
      else
        k1 (s2.1, s2.2.1))) bigF (0, 0, false, 0))

/-- dormouse/segs.Find$1 -/
def segs_Find_1 (p_s : Int × Int × Int × Int × Int × Int × Int) (q_1 : Int) : Option (Bool) :=
  some (p_s.1 == q_1)

/-- slices.IndexFunc[[]dormouse/api.Seg,dormouse/api.Seg] -/
def slices_IndexFunc_api_Seg_api_Seg_Find_1 (p_s : List (Int × Int × Int × Int × Int × Int × Int)) (q_c0 : Int) : Option (Int) :=
  jn (fun (_ : Unit) =>
    some (-1)) (fun k1 =>
    loopK (fun (s2 : Int) rec1 =>
      (if (decide (s2 < ((p_s.length : Nat) : Int))) = true then
        gd ((0 : Int) ≤ s2 ∧ s2 < ((p_s.length : Nat) : Int)) <|
        (segs_Find_1 (gt p_s s2) q_c0).bind fun z1 =>
        (if (z1) = true then
          some s2
        else
          rec1 (IntKind.i64.wrap (s2 + 1)))
      else
        k1 ())) bigF 0)

/-- dormouse/segs.Find -/
def segs_Find (p_l : List (Int × Int × Int × Int × Int × Int × Int)) (kind : Int) : Option ((Int × Int × Int × Int × Int × Int × Int) × Bool) :=
  (slices_IndexFunc_api_Seg_api_Seg_Find_1 p_l kind).bind fun z1 =>
  (if (decide (z1 < 0)) = true then
    some ((0, 0, 0, 0, 0, 0, 0), false)
  else
    gd ((0 : Int) ≤ z1 ∧ z1 < ((p_l.length : Nat) : Int)) <|
    some (((gt p_l z1).1, (gt p_l z1).2.1, (gt p_l z1).2.2.1, (gt p_l z1).2.2.2.1, (gt p_l z1).2.2.2.2.1, (gt p_l z1).2.2.2.2.2.1, (gt p_l z1).2.2.2.2.2.2), true))

/-- dormouse/octets.Cut -/
def octets_Cut (b : List Int) (p_at : Int) (size : Int) : Option ((List Int) × Int) :=
  (octets_has ((b.length : Nat) : Int) p_at size).bind fun z1 =>
  (if (!z1) = true then
    some ([], 10)
  else
    gd ((0 : Int) ≤ p_at ∧ (p_at : Int) ≤ (IntKind.u64.wrap (p_at + size)) ∧ (IntKind.u64.wrap (p_at + size)) ≤ ((b.length : Nat) : Int)) <|
    (slices_Clone_byte_byte (cutL b p_at (IntKind.u64.wrap (p_at + size)))).bind fun z2 =>
    some (z2, 0))

/-- dormouse/segs.Table -/
def segs_Table (b : List Int) (p_at : Int) (n : Int) : Option ((List (Int × Int × Int × Int × Int × Int × Int)) × Int) :=
  jn (fun (s1 : Bool) =>
    (if (s1) = true then
      some ([], 1)
    else
      (octets_Cut b p_at (IntKind.u64.wrap (IntKind.i64.wrap (n * 56)))).bind fun z1 =>
      (if (z1.2 != 0) = true then
        some ([], z1.2)
      else
        jn (fun (s3 : List (Int × Int × Int × Int × Int × Int × Int)) =>
          some (s3, 0)) (fun k3 =>
          loopK (fun (s4 : (List (Int × Int × Int × Int × Int × Int × Int)) × Int) rec1 =>
            (if (decide (s4.2 < n)) = true then
              gd ((0 : Int) ≤ (IntKind.i64.wrap (s4.2 * 56)) ∧ (IntKind.i64.wrap (s4.2 * 56) : Int) ≤ ((z1.1.length : Nat) : Int) ∧ ((z1.1.length : Nat) : Int) ≤ ((z1.1.length : Nat) : Int)) <|
              (segs_Get (cutL z1.1 (IntKind.i64.wrap (s4.2 * 56)) ((z1.1.length : Nat) : Int))).bind fun z2 =>
              (if (z2.2 != 0) = true then
                some ([], z2.2)
              else
                gd ((s4.1.length + ([(z2.1.1, z2.1.2.1, z2.1.2.2.1, z2.1.2.2.2.1, z2.1.2.2.2.2.1, z2.1.2.2.2.2.2.1, z2.1.2.2.2.2.2.2)] : List (Int × Int × Int × Int × Int × Int × Int)).length) * 48 ≤ 140737488355328) <|
                rec1 ((s4.1 ++ ([(z2.1.1, z2.1.2.1, z2.1.2.2.1, z2.1.2.2.2.1, z2.1.2.2.2.2.1, z2.1.2.2.2.2.2.1, z2.1.2.2.2.2.2.2)] : List (Int × Int × Int × Int × Int × Int × Int))), IntKind.i64.wrap (s4.2 + 1)))
            else
              k3 s4.1)) bigF ([], 0))))) (fun k1 =>
    (if (decide (n < 0)) = true then
    k1 true
    else
    k1 (decide (n > 64))))

/-- slices.Index[[]uint32,uint32] -/
def slices_Index_uint32_uint32 (p_s : List Int) (p_v : Int) : Option (Int) :=
  jn (fun (_ : Unit) =>
    some (-1)) (fun k1 =>
    loopK (fun (s2 : Int) rec1 =>
      (if (decide (s2 < ((p_s.length : Nat) : Int))) = true then
        gd ((0 : Int) ≤ s2 ∧ s2 < ((p_s.length : Nat) : Int)) <|
        (if (p_v == (gt p_s s2)) = true then
          some s2
        else
          rec1 (IntKind.i64.wrap (s2 + 1)))
      else
        k1 ())) bigF 0)

/-- slices.Contains[[]uint32,uint32] -/
def slices_Contains_uint32_uint32 (p_s : List Int) (p_v : Int) : Option (Bool) :=
  (slices_Index_uint32_uint32 p_s p_v).bind fun z1 =>
  some (decide (z1 ≥ 0))

/-- dormouse/segs.kind -/
def segs_kind (p_k : Int) : Option (Bool) :=
  (slices_Contains_uint32_uint32 ([0, 1, 2, 4, 7] : List Int) p_k).bind fun z1 =>
  some z1

/-- dormouse/segs.one -/
def segs_one (p_s : Int × Int × Int × Int × Int × Int × Int) (size : Int) : Option (Int) :=
  jn (fun (s1 : Bool) =>
    (if (s1) = true then
      some 11
    else
      (if (p_s.1 == 0) = true then
        some 0
      else
        jn (fun (s2 : Bool) =>
          (if (s2) = true then
            some 10
          else
            (if (decide (p_s.2.2.2.2.2.1 < p_s.2.2.2.2.1)) = true then
              some 11
            else
              jn (fun (s3 : Bool) =>
                (if (s3) = true then
                  some 13
                else
                  jn (fun (s4 : Bool) =>
                    (if (s4) = true then
                      some 11
                    else
                      some 0)) (fun k4 =>
                    (if (p_s.1 == 1) = true then
                    (if ((Int.tmod p_s.2.2.2.1 256) != (Int.tmod p_s.2.2.1 256)) = true then
                    k4 true
                    else
                    k4 (p_s.2.2.2.2.2.1 == 0))
                    else
                    k4 false)))) (fun k3 =>
                (if (decide (p_s.2.2.2.1 > 4294967296)) = true then
                k3 true
                else
                k3 (decide (p_s.2.2.2.2.2.1 > (IntKind.u64.wrap (4294967296 - p_s.2.2.2.1))))))))) (fun k2 =>
          (if (decide (p_s.2.2.1 > size)) = true then
          k2 true
          else
          k2 (decide (p_s.2.2.2.2.1 > (IntKind.u64.wrap (size - p_s.2.2.1))))))))) (fun k1 =>
    (segs_kind p_s.1).bind fun z1 =>
    (if (!z1) = true then
    k1 true
    else
    k1 (decide (p_s.2.1 > 7))))

/-- dormouse/segs.single -/
def segs_single (p_s : Int × Int × Int × Int × Int × Int × Int) : Option (Bool) :=
  jn (fun (s1 : Bool) =>
    some s1) (fun k1 =>
    (if (p_s.1 == 2) = true then
    k1 true
    else
    k1 (p_s.1 == 7)))

/-- dormouse/segs.within$1 -/
def segs_within_1 (p_x : Int × Int × Int × Int × Int × Int × Int) (q_1 : Int × Int × Int × Int × Int × Int × Int) : Option (Bool) :=
  jn (fun (s1 : Bool) =>
    some s1) (fun k1 =>
    (if (p_x.1 == 1) = true then
    (if (decide (q_1.2.2.1 ≥ p_x.2.2.1)) = true then
    (if (decide ((IntKind.u64.wrap (q_1.2.2.1 - p_x.2.2.1)) ≤ p_x.2.2.2.2.1)) = true then
    (if (decide (q_1.2.2.2.2.1 ≤ (IntKind.u64.wrap (p_x.2.2.2.2.1 - (IntKind.u64.wrap (q_1.2.2.1 - p_x.2.2.1)))))) = true then
    k1 ((IntKind.u64.wrap (p_x.2.2.2.1 - p_x.2.2.1)) == (IntKind.u64.wrap (q_1.2.2.2.1 - q_1.2.2.1)))
    else
    k1 false)
    else
    k1 false)
    else
    k1 false)
    else
    k1 false))

/-- slices.IndexFunc[[]dormouse/api.Seg,dormouse/api.Seg] -/
def slices_IndexFunc_api_Seg_api_Seg_within_1 (p_s : List (Int × Int × Int × Int × Int × Int × Int)) (q_c0 : Int × Int × Int × Int × Int × Int × Int) : Option (Int) :=
  jn (fun (_ : Unit) =>
    some (-1)) (fun k1 =>
    loopK (fun (s2 : Int) rec1 =>
      (if (decide (s2 < ((p_s.length : Nat) : Int))) = true then
        gd ((0 : Int) ≤ s2 ∧ s2 < ((p_s.length : Nat) : Int)) <|
        (segs_within_1 (gt p_s s2) (q_c0.1, q_c0.2.1, q_c0.2.2.1, q_c0.2.2.2.1, q_c0.2.2.2.2.1, q_c0.2.2.2.2.2.1, q_c0.2.2.2.2.2.2)).bind fun z1 =>
        (if (z1) = true then
          some s2
        else
          rec1 (IntKind.i64.wrap (s2 + 1)))
      else
        k1 ())) bigF 0)

/-- slices.ContainsFunc[[]dormouse/api.Seg,dormouse/api.Seg] -/
def slices_ContainsFunc_api_Seg_api_Seg_within_1 (p_s : List (Int × Int × Int × Int × Int × Int × Int)) (q_c0 : Int × Int × Int × Int × Int × Int × Int) : Option (Bool) :=
  (slices_IndexFunc_api_Seg_api_Seg_within_1 p_s (q_c0.1, q_c0.2.1, q_c0.2.2.1, q_c0.2.2.2.1, q_c0.2.2.2.2.1, q_c0.2.2.2.2.2.1, q_c0.2.2.2.2.2.2)).bind fun z1 =>
  some (decide (z1 ≥ 0))

/-- dormouse/segs.within -/
def segs_within (p_l : List (Int × Int × Int × Int × Int × Int × Int)) (p_s : Int × Int × Int × Int × Int × Int × Int) : Option (Bool) :=
  jn (fun (s1 : Bool) =>
    some s1) (fun k1 =>
    (if (p_s.2.2.2.2.1 == 0) = true then
    k1 true
    else
    (slices_ContainsFunc_api_Seg_api_Seg_within_1 p_l (p_s.1, p_s.2.1, p_s.2.2.1, p_s.2.2.2.1, p_s.2.2.2.2.1, p_s.2.2.2.2.2.1, p_s.2.2.2.2.2.2)).bind fun z1 =>
    k1 z1))

/-- dormouse/segs.Check -/
def segs_Check (p_l : List (Int × Int × Int × Int × Int × Int × Int)) (size : Int) : Option (Int) :=
  jn (fun (_ : Unit) =>
    jn (fun (_ : Unit) =>
      some 0) (fun k5 =>
      loopK (fun (s7 : Int) rec2 =>
        (if (decide (s7 < ((p_l.length : Nat) : Int))) = true then
          gd ((0 : Int) ≤ s7 ∧ s7 < ((p_l.length : Nat) : Int)) <|
          jn (fun (s8 : Bool) =>
            (if (s8) = true then
              some 11
            else
              rec2 (IntKind.i64.wrap (s7 + 1)))) (fun k6 =>
            (segs_single ((gt p_l s7).1, (gt p_l s7).2.1, (gt p_l s7).2.2.1, (gt p_l s7).2.2.2.1, (gt p_l s7).2.2.2.2.1, (gt p_l s7).2.2.2.2.2.1, (gt p_l s7).2.2.2.2.2.2)).bind fun z5 =>
            (if (z5) = true then
            (segs_within p_l ((gt p_l s7).1, (gt p_l s7).2.1, (gt p_l s7).2.2.1, (gt p_l s7).2.2.2.1, (gt p_l s7).2.2.2.2.1, (gt p_l s7).2.2.2.2.2.1, (gt p_l s7).2.2.2.2.2.2)).bind fun z6 =>
            k6 (!z6)
            else
            k6 false))
        else
          k5 ())) bigF 0)) (fun k1 =>
    loopK (fun (s2 : Int × Int) rec1 =>
      (if (decide (s2.2 < ((p_l.length : Nat) : Int))) = true then
        jn (fun (s3 : Int) =>
          rec1 (s3, IntKind.i64.wrap (s2.2 + 1))) (fun k2 =>
          gd ((0 : Int) ≤ s2.2 ∧ s2.2 < ((p_l.length : Nat) : Int)) <|
          (segs_one ((gt p_l s2.2).1, (gt p_l s2.2).2.1, (gt p_l s2.2).2.2.1, (gt p_l s2.2).2.2.2.1, (gt p_l s2.2).2.2.2.2.1, (gt p_l s2.2).2.2.2.2.2.1, (gt p_l s2.2).2.2.2.2.2.2) size).bind fun z1 =>
          (if (z1 != 0) = true then
            some z1
          else
            gd ((0 : Int) ≤ 0 ∧ (0 : Int) ≤ s2.2 ∧ s2.2 ≤ ((p_l.length : Nat) : Int)) <|
            (segs_Find (cutL p_l 0 s2.2) ((gt p_l s2.2).1)).bind fun z2 =>
            jn (fun (s4 : Bool) =>
              (if (s4) = true then
                some 12
              else
                jn (fun (s5 : Int) =>
                  k2 s5) (fun k4 =>
                  (if (((gt p_l s2.2).1) == 1) = true then
                    (segs_pages ((gt p_l s2.2).1, (gt p_l s2.2).2.1, (gt p_l s2.2).2.2.1, (gt p_l s2.2).2.2.2.1, (gt p_l s2.2).2.2.2.2.1, (gt p_l s2.2).2.2.2.2.2.1, (gt p_l s2.2).2.2.2.2.2.2)).bind fun z4 =>
                    (if (decide (z4.1 < s2.1)) = true then
                      some 12
                    else
                      k4 z4.2)
                  else
                    k4 s2.1)))) (fun k3 =>
              (if (z2.2) = true then
              (segs_single ((gt p_l s2.2).1, (gt p_l s2.2).2.1, (gt p_l s2.2).2.2.1, (gt p_l s2.2).2.2.2.1, (gt p_l s2.2).2.2.2.2.1, (gt p_l s2.2).2.2.2.2.2.1, (gt p_l s2.2).2.2.2.2.2.2)).bind fun z3 =>
              k3 z3
              else
              k3 false))))
      else
        k1 ())) bigF (0, 0))

/-- dormouse/dormouselaw04.awake -/
def law04_awake  : Option (Bool) :=
  (segs_Put (1, 5, 256, 256, 100, 300, 0)).bind fun z1 =>
  (segs_Get z1).bind fun z2 =>
  (segs_Place ([(1, 5, 256, 256, 100, 300, 0)] : List (Int × Int × Int × Int × Int × Int × Int)) 300 4).bind fun z3 =>
  (segs_Span ([(1, 5, 256, 256, 100, 300, 0)] : List (Int × Int × Int × Int × Int × Int × Int))).bind fun z4 =>
  (segs_Find ([(1, 5, 256, 256, 100, 300, 0)] : List (Int × Int × Int × Int × Int × Int × Int)) 1).bind fun z5 =>
  (segs_Table z1 0 1).bind fun z6 =>
  jn (fun (s1 : Bool) =>
    some s1) (fun k1 =>
    (if (((z1.length : Nat) : Int) == 56) = true then
    (if ((z2.1.1 == 1) && ((z2.1.2.1 == 5) && ((z2.1.2.2.1 == 256) && ((z2.1.2.2.2.1 == 256) && ((z2.1.2.2.2.2.1 == 100) && ((z2.1.2.2.2.2.2.1 == 300) && (z2.1.2.2.2.2.2.2 == 0))))))) = true then
    (if (z2.2 == 0) = true then
    (if (z3.1 == 300) = true then
    (if (z3.2 == 0) = true then
    (if (z4.1 == 256) = true then
    (if (z4.2 == 768) = true then
    (if (z5.2) = true then
    (if (((z6.1.length : Nat) : Int) == 1) = true then
    (if (z6.2 == 0) = true then
    (segs_Check ([(1, 0, 0, 0, 10, 5, 0)] : List (Int × Int × Int × Int × Int × Int × Int)) 100).bind fun z7 =>
    (if (z7 == 11) = true then
    (segs_Check ([(1, 5, 256, 256, 100, 300, 0)] : List (Int × Int × Int × Int × Int × Int × Int)) 1000).bind fun z8 =>
    k1 (z8 == 0)
    else
    k1 false)
    else
    k1 false)
    else
    k1 false)
    else
    k1 false)
    else
    k1 false)
    else
    k1 false)
    else
    k1 false)
    else
    k1 false)
    else
    k1 false)
    else
    k1 false)
    else
    k1 false))

/-- dormouse/dormouseref04.eight -/
def ref04_eight (b : List Int) (p_x : Int) (n : Int) : Option (List Int) :=
  jn (fun (s1 : List Int) =>
    some s1) (fun k1 =>
    loopK (fun (s2 : (List Int) × Int × Int) rec1 =>
      (if (decide (s2.2.2 < n)) = true then
        gd ((s2.1.length + ([IntKind.u8.wrap (Int.tmod s2.2.1 256)] : List Int).length) * 1 ≤ 140737488355328) <|
        let1 (IntKind.u64.wrap (Int.tdiv s2.2.1 256)) fun x_1 =>
        let1 (IntKind.i64.wrap (s2.2.2 + 1)) fun i_1 =>
        rec1 ((s2.1 ++ ([IntKind.u8.wrap (Int.tmod s2.2.1 256)] : List Int)), x_1, i_1)
      else
        k1 s2.1)) bigF (b, p_x, 0))

/-- dormouse/dormouseref04.Put -/
def ref04_Put (p_s : Int × Int × Int × Int × Int × Int × Int) : Option (List Int) :=
  (ref04_eight ([] : List Int) (IntKind.u64.wrap p_s.1) 4).bind fun z1 =>
  (ref04_eight z1 (IntKind.u64.wrap p_s.2.1) 4).bind fun z2 =>
  (ref04_eight z2 p_s.2.2.1 8).bind fun z3 =>
  (ref04_eight z3 p_s.2.2.2.1 8).bind fun z4 =>
  (ref04_eight z4 p_s.2.2.2.1 8).bind fun z5 =>
  (ref04_eight z5 p_s.2.2.2.2.1 8).bind fun z6 =>
  (ref04_eight z6 p_s.2.2.2.2.2.1 8).bind fun z7 =>
  (ref04_eight z7 p_s.2.2.2.2.2.2 8).bind fun z8 =>
  some z8

/-- dormouse/dormouselaw04.SegsPuts -/
def law04_SegsPuts (p_s : Int × Int × Int × Int × Int × Int × Int) : Option (Bool) :=
  (law04_awake).bind fun z1 =>
  (if (!z1) = true then
    some false
  else
    (segs_Put (p_s.1, p_s.2.1, p_s.2.2.1, p_s.2.2.2.1, p_s.2.2.2.2.1, p_s.2.2.2.2.2.1, p_s.2.2.2.2.2.2)).bind fun z2 =>
    (segs_Get z2).bind fun z3 =>
    jn (fun (s1 : Bool) =>
      some s1) (fun k1 =>
      (ref04_Put (p_s.1, p_s.2.1, p_s.2.2.1, p_s.2.2.2.1, p_s.2.2.2.2.1, p_s.2.2.2.2.2.1, p_s.2.2.2.2.2.2)).bind fun z4 =>
      (if ((toStr z2) == (toStr z4)) = true then
        (if (z3.2 == 0) = true then
          k1 ((z3.1.1 == p_s.1) && ((z3.1.2.1 == p_s.2.1) && ((z3.1.2.2.1 == p_s.2.2.1) && ((z3.1.2.2.2.1 == p_s.2.2.2.1) && ((z3.1.2.2.2.2.1 == p_s.2.2.2.2.1) && ((z3.1.2.2.2.2.2.1 == p_s.2.2.2.2.2.1) && (z3.1.2.2.2.2.2.2 == p_s.2.2.2.2.2.2)))))))
        else
          k1 false)
      else
        k1 false)))

/-- dormouse/dormouseref01.width -/
def ref01_width (n : Int) : Option (Bool) :=
  jn (fun (s1 : Bool) =>
    some s1) (fun k1 =>
    (if (n == 1) = true then
    k1 true
    else
    (if (n == 2) = true then
    k1 true
    else
    (if (n == 4) = true then
    k1 true
    else
    k1 (n == 8)))))

/-- dormouse/dormouseref01.Inside -/
def ref01_Inside (p_many : Int) (p_at : Int) (size : Int) : Option (Bool) :=
  (if (decide (p_at > (IntKind.u64.wrap p_many))) = true then
    some false
  else
    some (decide (size ≤ (IntKind.u64.wrap ((IntKind.u64.wrap p_many) - p_at)))))

/-- dormouse/dormouseref01.Get -/
def ref01_Get (b : List Int) (p_at : Int) (n : Int) : Option (Int × Int) :=
  (ref01_width n).bind fun z1 =>
  (if (!z1) = true then
    some (0, 1)
  else
    (ref01_Inside ((b.length : Nat) : Int) p_at (IntKind.u64.wrap n)).bind fun z2 =>
    (if (!z2) = true then
      some (0, 10)
    else
      let1 (IntKind.i64.wrap (n - 1)) fun i_1 =>
      jn (fun (s1 : Int) =>
        some (s1, 0)) (fun k1 =>
        loopK (fun (s2 : Int × Int) rec1 =>
          (if (decide (s2.2 ≥ 0)) = true then
            gd ((0 : Int) ≤ (IntKind.i64.wrap ((IntKind.i64.wrap p_at) + s2.2)) ∧ (IntKind.i64.wrap ((IntKind.i64.wrap p_at) + s2.2)) < ((b.length : Nat) : Int)) <|
            let1 (IntKind.u64.wrap ((IntKind.u64.wrap (s2.1 * 256)) + (IntKind.u64.wrap (gt b (IntKind.i64.wrap ((IntKind.i64.wrap p_at) + s2.2)))))) fun x_1 =>
            let1 (IntKind.i64.wrap (s2.2 - 1)) fun i_2 =>
            rec1 (x_1, i_2)
          else
            k1 s2.1)) bigF (0, i_1))))

/-- dormouse/dormouseref04.at -/
def ref04_at (b : List Int) (i : Int) (n : Int) : Option (Int) :=
  (ref01_Get b i n).bind fun z1 =>
  some z1.1

/-- dormouse/dormouseref04.Get -/
def ref04_Get (b : List Int) : Option ((Int × Int × Int × Int × Int × Int × Int) × Int) :=
  (if (decide (((b.length : Nat) : Int) < 56)) = true then
    some ((0, 0, 0, 0, 0, 0, 0), 10)
  else
    (ref04_at b 16 8).bind fun z1 =>
    (ref04_at b 24 8).bind fun z2 =>
    (if (z1 != z2) = true then
      some ((0, 0, 0, 0, 0, 0, 0), 11)
    else
      (ref04_at b 0 4).bind fun z3 =>
      (ref04_at b 4 4).bind fun z4 =>
      (ref04_at b 8 8).bind fun z5 =>
      (ref04_at b 16 8).bind fun z6 =>
      (ref04_at b 32 8).bind fun z7 =>
      (ref04_at b 40 8).bind fun z8 =>
      (ref04_at b 48 8).bind fun z9 =>
      some ((IntKind.u32.wrap z3, IntKind.u32.wrap z4, z5, z6, z7, z8, z9), 0)))

/-- dormouse/dormouseref01.Cut -/
def ref01_Cut (b : List Int) (p_at : Int) (size : Int) : Option ((List Int) × Int) :=
  (ref01_Inside ((b.length : Nat) : Int) p_at size).bind fun z1 =>
  (if (!z1) = true then
    some ([], 10)
  else
    jn (fun (s1 : List Int) =>
      some (s1, 0)) (fun k1 =>
      loopK (fun (s2 : (List Int) × Int) rec1 =>
        (if (decide (s2.2 < size)) = true then
          gd ((0 : Int) ≤ (IntKind.u64.wrap (p_at + s2.2)) ∧ (IntKind.u64.wrap (p_at + s2.2)) < ((b.length : Nat) : Int)) <|
          gd ((s2.1.length + ([gt b (IntKind.u64.wrap (p_at + s2.2))] : List Int).length) * 1 ≤ 140737488355328) <|
          let1 (IntKind.u64.wrap (s2.2 + 1)) fun i_1 =>
          rec1 ((s2.1 ++ ([gt b (IntKind.u64.wrap (p_at + s2.2))] : List Int)), i_1)
        else
          k1 s2.1)) bigF ([], 0)))

/-- dormouse/dormouseref04.Table -/
def ref04_Table (b : List Int) (p_from : Int) (n : Int) : Option ((List (Int × Int × Int × Int × Int × Int × Int)) × Int) :=
  jn (fun (s1 : Bool) =>
    (if (s1) = true then
      some ([], 1)
    else
      (ref01_Cut b p_from (IntKind.u64.wrap (IntKind.i64.wrap (56 * n)))).bind fun z1 =>
      (if (z1.2 != 0) = true then
        some ([], z1.2)
      else
        jn (fun (s3 : List (Int × Int × Int × Int × Int × Int × Int)) =>
          some (s3, 0)) (fun k3 =>
          loopK (fun (s4 : (List (Int × Int × Int × Int × Int × Int × Int)) × Int) rec1 =>
            (if (decide (s4.2 < n)) = true then
              gd ((0 : Int) ≤ (IntKind.i64.wrap (56 * s4.2)) ∧ (IntKind.i64.wrap (56 * s4.2) : Int) ≤ (IntKind.i64.wrap ((IntKind.i64.wrap (56 * s4.2)) + 56)) ∧ (IntKind.i64.wrap ((IntKind.i64.wrap (56 * s4.2)) + 56)) ≤ ((z1.1.length : Nat) : Int)) <|
              (ref04_Get (cutL z1.1 (IntKind.i64.wrap (56 * s4.2)) (IntKind.i64.wrap ((IntKind.i64.wrap (56 * s4.2)) + 56)))).bind fun z2 =>
              (if (z2.2 != 0) = true then
                some ([], z2.2)
              else
                gd ((s4.1.length + ([(z2.1.1, z2.1.2.1, z2.1.2.2.1, z2.1.2.2.2.1, z2.1.2.2.2.2.1, z2.1.2.2.2.2.2.1, z2.1.2.2.2.2.2.2)] : List (Int × Int × Int × Int × Int × Int × Int)).length) * 48 ≤ 140737488355328) <|
                let1 (IntKind.i64.wrap (s4.2 + 1)) fun i_1 =>
                rec1 ((s4.1 ++ ([(z2.1.1, z2.1.2.1, z2.1.2.2.1, z2.1.2.2.2.1, z2.1.2.2.2.2.1, z2.1.2.2.2.2.2.1, z2.1.2.2.2.2.2.2)] : List (Int × Int × Int × Int × Int × Int × Int))), i_1))
            else
              k3 s4.1)) bigF ([], 0))))) (fun k1 =>
    (if (decide (n < 0)) = true then
    k1 true
    else
    k1 (decide (n > 64))))

/-- dormouse/dormouselaw04.SegsGets -/
def law04_SegsGets (b : List Int) (p_at : Int) (n : Int) : Option (Bool) :=
  (law04_awake).bind fun z1 =>
  (if (!z1) = true then
    some false
  else
    (if (decide (((b.length : Nat) : Int) > 4000)) = true then
      some true
    else
      (segs_Get b).bind fun z2 =>
      (ref04_Get b).bind fun z3 =>
      jn (fun (s1 : Bool) =>
        (if (s1) = true then
          some false
        else
          (segs_Table b p_at n).bind fun z4 =>
          (ref04_Table b p_at n).bind fun z5 =>
          jn (fun (s2 : Bool) =>
            (if (s2) = true then
              some false
            else
              jn (fun (_ : Unit) =>
                some true) (fun k3 =>
                loopK (fun (s4 : Int) rec1 =>
                  (if (decide (s4 < ((z4.1.length : Nat) : Int))) = true then
                    gd ((0 : Int) ≤ s4 ∧ s4 < ((z4.1.length : Nat) : Int)) <|
                    gd ((0 : Int) ≤ s4 ∧ s4 < ((z5.1.length : Nat) : Int)) <|
                    (if (!((((gt z4.1 s4).1) == ((gt z5.1 s4).1)) && ((((gt z4.1 s4).2.1) == ((gt z5.1 s4).2.1)) && ((((gt z4.1 s4).2.2.1) == ((gt z5.1 s4).2.2.1)) && ((((gt z4.1 s4).2.2.2.1) == ((gt z5.1 s4).2.2.2.1)) && ((((gt z4.1 s4).2.2.2.2.1) == ((gt z5.1 s4).2.2.2.2.1)) && ((((gt z4.1 s4).2.2.2.2.2.1) == ((gt z5.1 s4).2.2.2.2.2.1)) && (((gt z4.1 s4).2.2.2.2.2.2) == ((gt z5.1 s4).2.2.2.2.2.2))))))))) = true then
                      some false
                    else
                      let1 (IntKind.i64.wrap (s4 + 1)) fun i_1 =>
                      rec1 i_1)
                  else
                    k3 ())) bigF 0))) (fun k2 =>
            (if (z4.2 != z5.2) = true then
            k2 true
            else
            k2 (((z4.1.length : Nat) : Int) != ((z5.1.length : Nat) : Int)))))) (fun k1 =>
        (if (!((z2.1.1 == z3.1.1) && ((z2.1.2.1 == z3.1.2.1) && ((z2.1.2.2.1 == z3.1.2.2.1) && ((z2.1.2.2.2.1 == z3.1.2.2.2.1) && ((z2.1.2.2.2.2.1 == z3.1.2.2.2.2.1) && ((z2.1.2.2.2.2.2.1 == z3.1.2.2.2.2.2.1) && (z2.1.2.2.2.2.2.2 == z3.1.2.2.2.2.2.2)))))))) = true then
        k1 true
        else
        k1 (z2.2 != z3.2)))))

/-- dormouse/dormouselaw04.SegsTables -/
def law04_SegsTables (ahead : List Int) (p_l : List (Int × Int × Int × Int × Int × Int × Int)) : Option (Bool) :=
  (law04_awake).bind fun z1 =>
  (if (!z1) = true then
    some false
  else
    jn (fun (s1 : Bool) =>
      (if (s1) = true then
        some true
      else
        gd ((([] : List Int).length + ahead.length) * 1 ≤ 140737488355328) <|
        jn (fun (s2 : List Int) =>
          (segs_Table s2 (IntKind.u64.wrap ((ahead.length : Nat) : Int)) ((p_l.length : Nat) : Int)).bind fun z3 =>
          jn (fun (s4 : Bool) =>
            (if (s4) = true then
              some false
            else
              jn (fun (_ : Unit) =>
                (segs_Table s2 (IntKind.u64.wrap ((ahead.length : Nat) : Int)) (IntKind.i64.wrap (((p_l.length : Nat) : Int) + 1))).bind fun z4 =>
                jn (fun (s7 : Bool) =>
                  some s7) (fun k5 =>
                  (if (z4.2 == 10) = true then
                  k5 true
                  else
                  (if (((p_l.length : Nat) : Int) == 64) = true then
                  k5 (z4.2 == 1)
                  else
                  k5 false)))) (fun k4 =>
                loopK (fun (s6 : Int) rec2 =>
                  (if (decide (s6 < ((p_l.length : Nat) : Int))) = true then
                    gd ((0 : Int) ≤ s6 ∧ s6 < ((z3.1.length : Nat) : Int)) <|
                    gd ((0 : Int) ≤ s6 ∧ s6 < ((p_l.length : Nat) : Int)) <|
                    (if (!((((gt z3.1 s6).1) == ((gt p_l s6).1)) && ((((gt z3.1 s6).2.1) == ((gt p_l s6).2.1)) && ((((gt z3.1 s6).2.2.1) == ((gt p_l s6).2.2.1)) && ((((gt z3.1 s6).2.2.2.1) == ((gt p_l s6).2.2.2.1)) && ((((gt z3.1 s6).2.2.2.2.1) == ((gt p_l s6).2.2.2.2.1)) && ((((gt z3.1 s6).2.2.2.2.2.1) == ((gt p_l s6).2.2.2.2.2.1)) && (((gt z3.1 s6).2.2.2.2.2.2) == ((gt p_l s6).2.2.2.2.2.2))))))))) = true then
                      some false
                    else
                      let1 (IntKind.i64.wrap (s6 + 1)) fun i_2 =>
                      rec2 i_2)
                  else
                    k4 ())) bigF 0))) (fun k3 =>
            (if (z3.2 != 0) = true then
            k3 true
            else
            k3 (((z3.1.length : Nat) : Int) != ((p_l.length : Nat) : Int))))) (fun k2 =>
          loopK (fun (s3 : (List Int) × Int) rec1 =>
            (if (decide (s3.2 < ((p_l.length : Nat) : Int))) = true then
              gd ((0 : Int) ≤ s3.2 ∧ s3.2 < ((p_l.length : Nat) : Int)) <|
              (segs_Put (gt p_l s3.2)).bind fun z2 =>
              gd ((s3.1.length + z2.length) * 1 ≤ 140737488355328) <|
              let1 (IntKind.i64.wrap (s3.2 + 1)) fun i_1 =>
              rec1 ((s3.1 ++ z2), i_1)
            else
              k2 s3.1)) bigF ((([] : List Int) ++ ahead), 0)))) (fun k1 =>
      (if (decide (((ahead.length : Nat) : Int) > 500)) = true then
      k1 true
      else
      k1 (decide (((p_l.length : Nat) : Int) > 64)))))

/-- dormouse/dormouseref04.alone -/
def ref04_alone (p_s : Int × Int × Int × Int × Int × Int × Int) (size : Int) : Option (Int) :=
  jn (fun (s1 : Bool) =>
    (if (s1) = true then
      some 11
    else
      (if (p_s.1 == 0) = true then
        some 0
      else
        jn (fun (s2 : Bool) =>
          (if (s2) = true then
            some 10
          else
            (if (decide (p_s.2.2.2.2.2.1 < p_s.2.2.2.2.1)) = true then
              some 11
            else
              jn (fun (s3 : Bool) =>
                (if (s3) = true then
                  some 13
                else
                  jn (fun (s4 : Bool) =>
                    (if (s4) = true then
                      some 11
                    else
                      some 0)) (fun k4 =>
                    (if (p_s.1 == 1) = true then
                    (if ((Int.tmod p_s.2.2.2.1 256) != (Int.tmod p_s.2.2.1 256)) = true then
                    k4 true
                    else
                    k4 (p_s.2.2.2.2.2.1 == 0))
                    else
                    k4 false)))) (fun k3 =>
                (if (decide (p_s.2.2.2.1 > 4294967296)) = true then
                k3 true
                else
                k3 (decide (p_s.2.2.2.2.2.1 > (IntKind.u64.wrap (4294967296 - p_s.2.2.2.1))))))))) (fun k2 =>
          (if (decide (p_s.2.2.1 > size)) = true then
          k2 true
          else
          k2 (decide (p_s.2.2.2.2.1 > (IntKind.u64.wrap (size - p_s.2.2.1))))))))) (fun k1 =>
    (if (p_s.1 != 0) = true then
    (if (p_s.1 != 1) = true then
    (if (p_s.1 != 2) = true then
    (if (p_s.1 != 4) = true then
    (if (p_s.1 != 7) = true then
    k1 true
    else
    k1 (decide (p_s.2.1 > 7)))
    else
    k1 (decide (p_s.2.1 > 7)))
    else
    k1 (decide (p_s.2.1 > 7)))
    else
    k1 (decide (p_s.2.1 > 7)))
    else
    k1 (decide (p_s.2.1 > 7))))

/-- dormouse/dormouseref04.First -/
def ref04_First (p_s : Int × Int × Int × Int × Int × Int × Int) : Option (Int) :=
  some (IntKind.u64.wrap ((IntKind.u64.wrap (Int.tdiv p_s.2.2.2.1 256)) * 256))

/-- dormouse/dormouseref04.Behind -/
def ref04_Behind (p_s : Int × Int × Int × Int × Int × Int × Int) : Option (Int) :=
  some (IntKind.u64.wrap ((IntKind.u64.wrap (Int.tdiv (IntKind.u64.wrap ((IntKind.u64.wrap (p_s.2.2.2.1 + p_s.2.2.2.2.2.1)) + 255)) 256)) * 256))

/-- dormouse/dormouseref04.Check -/
def ref04_Check (p_l : List (Int × Int × Int × Int × Int × Int × Int)) (size : Int) : Option (Int) :=
  jn (fun (_ : Unit) =>
    jn (fun (_ : Unit) =>
      some 0) (fun k6 =>
      loopK (fun (s9 : Int) rec3 =>
        (if (decide (s9 < ((p_l.length : Nat) : Int))) = true then
          jn (fun (_ : Unit) =>
            let1 (IntKind.i64.wrap (s9 + 1)) fun i_2 =>
            rec3 i_2) (fun k7 =>
            jn (fun (s11 : Bool) =>
              (if (s11) = true then
                k7 ()
              else
                jn (fun (s12 : Bool) =>
                  (if (!s12) = true then
                    some 11
                  else
                    k7 ())) (fun k9 =>
                  loopK (fun (s13 : Bool × Int) rec4 =>
                    (if (decide (s13.2 < ((p_l.length : Nat) : Int))) = true then
                      jn (fun (s14 : Bool) =>
                        let1 (IntKind.i64.wrap (s13.2 + 1)) fun k_3 =>
                        rec4 (s14, k_3)) (fun k10 =>
                        jn (fun (s15 : Bool) =>
                          jn (fun (s16 : Bool) =>
                            k10 s16) (fun k12 =>
                            (if (s15) = true then
                              k12 true
                            else
                              k12 s13.1))) (fun k11 =>
                          gd ((0 : Int) ≤ s13.2 ∧ s13.2 < ((p_l.length : Nat) : Int)) <|
                          (if (((gt p_l s13.2).1) == 1) = true then
                          gd ((0 : Int) ≤ s9 ∧ s9 < ((p_l.length : Nat) : Int)) <|
                          gd ((0 : Int) ≤ s13.2 ∧ s13.2 < ((p_l.length : Nat) : Int)) <|
                          (if (decide (((gt p_l s9).2.2.1) ≥ ((gt p_l s13.2).2.2.1))) = true then
                          gd ((0 : Int) ≤ s9 ∧ s9 < ((p_l.length : Nat) : Int)) <|
                          gd ((0 : Int) ≤ s9 ∧ s9 < ((p_l.length : Nat) : Int)) <|
                          gd ((0 : Int) ≤ s13.2 ∧ s13.2 < ((p_l.length : Nat) : Int)) <|
                          gd ((0 : Int) ≤ s13.2 ∧ s13.2 < ((p_l.length : Nat) : Int)) <|
                          (if (decide ((IntKind.u64.wrap (((gt p_l s9).2.2.1) + ((gt p_l s9).2.2.2.2.1))) ≤ (IntKind.u64.wrap (((gt p_l s13.2).2.2.1) + ((gt p_l s13.2).2.2.2.2.1))))) = true then
                          gd ((0 : Int) ≤ s9 ∧ s9 < ((p_l.length : Nat) : Int)) <|
                          gd ((0 : Int) ≤ s13.2 ∧ s13.2 < ((p_l.length : Nat) : Int)) <|
                          gd ((0 : Int) ≤ s13.2 ∧ s13.2 < ((p_l.length : Nat) : Int)) <|
                          gd ((0 : Int) ≤ s9 ∧ s9 < ((p_l.length : Nat) : Int)) <|
                          k11 ((IntKind.u64.wrap (((gt p_l s9).2.2.2.1) + ((gt p_l s13.2).2.2.1))) == (IntKind.u64.wrap (((gt p_l s13.2).2.2.2.1) + ((gt p_l s9).2.2.1))))
                          else
                          k11 false)
                          else
                          k11 false)
                          else
                          k11 false)))
                    else
                      k9 s13.1)) bigF (false, 0)))) (fun k8 =>
              gd ((0 : Int) ≤ s9 ∧ s9 < ((p_l.length : Nat) : Int)) <|
              (if (((gt p_l s9).1) != 2) = true then
              gd ((0 : Int) ≤ s9 ∧ s9 < ((p_l.length : Nat) : Int)) <|
              (if (((gt p_l s9).1) != 7) = true then
              k8 true
              else
              gd ((0 : Int) ≤ s9 ∧ s9 < ((p_l.length : Nat) : Int)) <|
              k8 (((gt p_l s9).2.2.2.2.1) == 0))
              else
              gd ((0 : Int) ≤ s9 ∧ s9 < ((p_l.length : Nat) : Int)) <|
              k8 (((gt p_l s9).2.2.2.2.1) == 0))))
        else
          k6 ())) bigF 0)) (fun k1 =>
    loopK (fun (s2 : Int) rec1 =>
      (if (decide (s2 < ((p_l.length : Nat) : Int))) = true then
        jn (fun (_ : Unit) =>
          let1 (IntKind.i64.wrap (s2 + 1)) fun i_1 =>
          rec1 i_1) (fun k2 =>
          gd ((0 : Int) ≤ s2 ∧ s2 < ((p_l.length : Nat) : Int)) <|
          (ref04_alone (gt p_l s2) size).bind fun z1 =>
          (if (z1 != 0) = true then
            some z1
          else
            let1 (IntKind.i64.wrap (s2 - 1)) fun k_1 =>
            jn (fun (_ : Unit) =>
              k2 ()) (fun k3 =>
              loopK (fun (s5 : Int) rec2 =>
                (if (decide (s5 ≥ 0)) = true then
                  jn (fun (s6 : Bool) =>
                    (if (s6) = true then
                      gd ((0 : Int) ≤ s2 ∧ s2 < ((p_l.length : Nat) : Int)) <|
                      (ref04_First (gt p_l s2)).bind fun z2 =>
                      gd ((0 : Int) ≤ s5 ∧ s5 < ((p_l.length : Nat) : Int)) <|
                      (ref04_Behind (gt p_l s5)).bind fun z3 =>
                      (if (decide (z2 < z3)) = true then
                        some 12
                      else
                        k3 ())
                    else
                      jn (fun (s7 : Bool) =>
                        (if (s7) = true then
                          some 12
                        else
                          let1 (IntKind.i64.wrap (s5 - 1)) fun k_2 =>
                          rec2 k_2)) (fun k5 =>
                        gd ((0 : Int) ≤ s2 ∧ s2 < ((p_l.length : Nat) : Int)) <|
                        gd ((0 : Int) ≤ s5 ∧ s5 < ((p_l.length : Nat) : Int)) <|
                        (if (((gt p_l s2).1) == ((gt p_l s5).1)) = true then
                        gd ((0 : Int) ≤ s2 ∧ s2 < ((p_l.length : Nat) : Int)) <|
                        (if (((gt p_l s2).1) == 2) = true then
                        k5 true
                        else
                        gd ((0 : Int) ≤ s2 ∧ s2 < ((p_l.length : Nat) : Int)) <|
                        k5 (((gt p_l s2).1) == 7))
                        else
                        k5 false)))) (fun k4 =>
                    gd ((0 : Int) ≤ s2 ∧ s2 < ((p_l.length : Nat) : Int)) <|
                    (if (((gt p_l s2).1) == 1) = true then
                    gd ((0 : Int) ≤ s5 ∧ s5 < ((p_l.length : Nat) : Int)) <|
                    k4 (((gt p_l s5).1) == 1)
                    else
                    k4 false))
                else
                  k3 ())) bigF k_1)))
      else
        k1 ())) bigF 0)

/-- dormouse/dormouselaw04.SegsChecks -/
def law04_SegsChecks (p_l : List (Int × Int × Int × Int × Int × Int × Int)) (size : Int) : Option (Bool) :=
  (law04_awake).bind fun z1 =>
  (if (!z1) = true then
    some false
  else
    (if (decide (((p_l.length : Nat) : Int) > 64)) = true then
      some true
    else
      (segs_Check p_l size).bind fun z2 =>
      (ref04_Check p_l size).bind fun z3 =>
      some (z2 == z3)))

/-- dormouse/dormouseref04.Place -/
def ref04_Place (p_l : List (Int × Int × Int × Int × Int × Int × Int)) (addr : Int) (size : Int) : Option (Int × Int) :=
  (if (size == 0) = true then
    some (0, 40)
  else
    jn (fun (_ : Unit) =>
      some (0, 40)) (fun k1 =>
      loopK (fun (s2 : Int) rec1 =>
        (if (decide (s2 < ((p_l.length : Nat) : Int))) = true then
          gd ((0 : Int) ≤ s2 ∧ s2 < ((p_l.length : Nat) : Int)) <|
          jn (fun (s3 : Bool) =>
            (if (s3) = true then
              let1 (IntKind.i64.wrap (s2 + 1)) fun i_1 =>
              rec1 i_1
            else
              some (IntKind.u64.wrap (((gt p_l s2).2.2.1) + (IntKind.u64.wrap (addr - ((gt p_l s2).2.2.2.1)))), 0))) (fun k2 =>
            (if (((gt p_l s2).1) != 1) = true then
            k2 true
            else
            (if (decide (addr < ((gt p_l s2).2.2.2.1))) = true then
            k2 true
            else
            (if (decide ((IntKind.u64.wrap (addr - ((gt p_l s2).2.2.2.1))) > ((gt p_l s2).2.2.2.2.1))) = true then
            k2 true
            else
            k2 (decide (size > (IntKind.u64.wrap (((gt p_l s2).2.2.2.2.1) - (IntKind.u64.wrap (addr - ((gt p_l s2).2.2.2.1)))))))))))
        else
          k1 ())) bigF 0))

/-- dormouse/dormouseref04.Find -/
def ref04_Find (p_l : List (Int × Int × Int × Int × Int × Int × Int)) (kind : Int) : Option (Int) :=
  jn (fun (_ : Unit) =>
    some (-1)) (fun k1 =>
    loopK (fun (s2 : Int) rec1 =>
      (if (decide (s2 < ((p_l.length : Nat) : Int))) = true then
        gd ((0 : Int) ≤ s2 ∧ s2 < ((p_l.length : Nat) : Int)) <|
        (if (((gt p_l s2).1) == kind) = true then
          some s2
        else
          let1 (IntKind.i64.wrap (s2 + 1)) fun i_1 =>
          rec1 i_1)
      else
        k1 ())) bigF 0)

/-- dormouse/dormouselaw04.SegsPlaces -/
def law04_SegsPlaces (p_l : List (Int × Int × Int × Int × Int × Int × Int)) (addr : Int) (size : Int) (kind : Int) : Option (Bool) :=
  (law04_awake).bind fun z1 =>
  (if (!z1) = true then
    some false
  else
    (if (decide (((p_l.length : Nat) : Int) > 64)) = true then
      some true
    else
      (segs_Place p_l addr size).bind fun z2 =>
      (ref04_Place p_l addr size).bind fun z3 =>
      jn (fun (s1 : Bool) =>
        (if (s1) = true then
          some false
        else
          (segs_Find p_l kind).bind fun z4 =>
          (ref04_Find p_l kind).bind fun z5 =>
          (if (decide (z5 < 0)) = true then
            jn (fun (s2 : Bool) =>
              some s2) (fun k2 =>
              (if (!z4.2) = true then
              k2 ((z4.1.1 == 0) && ((z4.1.2.1 == 0) && ((z4.1.2.2.1 == 0) && ((z4.1.2.2.2.1 == 0) && ((z4.1.2.2.2.2.1 == 0) && ((z4.1.2.2.2.2.2.1 == 0) && (z4.1.2.2.2.2.2.2 == 0)))))))
              else
              k2 false))
          else
            jn (fun (s3 : Bool) =>
              some s3) (fun k3 =>
              (if (z4.2) = true then
              gd ((0 : Int) ≤ z5 ∧ z5 < ((p_l.length : Nat) : Int)) <|
              k3 ((z4.1.1 == ((gt p_l z5).1)) && ((z4.1.2.1 == ((gt p_l z5).2.1)) && ((z4.1.2.2.1 == ((gt p_l z5).2.2.1)) && ((z4.1.2.2.2.1 == ((gt p_l z5).2.2.2.1)) && ((z4.1.2.2.2.2.1 == ((gt p_l z5).2.2.2.2.1)) && ((z4.1.2.2.2.2.2.1 == ((gt p_l z5).2.2.2.2.2.1)) && (z4.1.2.2.2.2.2.2 == ((gt p_l z5).2.2.2.2.2.2))))))))
              else
              k3 false))))) (fun k1 =>
        (if (z2.1 != z3.1) = true then
        k1 true
        else
        k1 (z2.2 != z3.2)))))

/-- dormouse/dormouseref04.Span -/
def ref04_Span (p_l : List (Int × Int × Int × Int × Int × Int × Int)) : Option (Int × Int) :=
  jn (fun (s1 : Int × Int) =>
    some (s1.1, s1.2)) (fun k1 =>
    loopK (fun (s2 : Int × Int × Bool × Int) rec1 =>
      (if (decide (s2.2.2.2 < ((p_l.length : Nat) : Int))) = true then
        jn (fun (s3 : Int × Int × Bool) =>
          let1 (IntKind.i64.wrap (s2.2.2.2 + 1)) fun i_1 =>
          rec1 (s3.1, s3.2.1, s3.2.2, i_1)) (fun k2 =>
          gd ((0 : Int) ≤ s2.2.2.2 ∧ s2.2.2.2 < ((p_l.length : Nat) : Int)) <|
          (if (((gt p_l s2.2.2.2).1) != 1) = true then
            k2 (s2.1, s2.2.1, s2.2.2.1)
          else
            jn (fun (s4 : Int) =>
              gd ((0 : Int) ≤ s2.2.2.2 ∧ s2.2.2.2 < ((p_l.length : Nat) : Int)) <|
              (ref04_Behind (gt p_l s2.2.2.2)).bind fun z2 =>
              k2 (s4, z2, true)) (fun k3 =>
              (if (!s2.2.2.1) = true then
                gd ((0 : Int) ≤ s2.2.2.2 ∧ s2.2.2.2 < ((p_l.length : Nat) : Int)) <|
                (ref04_First (gt p_l s2.2.2.2)).bind fun z1 =>
                k3 z1
              else
                k3 s2.1))))
      else
        k1 (s2.1, s2.2.1))) bigF (0, 0, false, 0))

/-- dormouse/dormouselaw04.SegsSpans -/
def law04_SegsSpans (p_l : List (Int × Int × Int × Int × Int × Int × Int)) (size : Int) (addr : Int) (n : Int) : Option (Bool) :=
  (law04_awake).bind fun z1 =>
  (if (!z1) = true then
    some false
  else
    jn (fun (s1 : Bool) =>
      (if (s1) = true then
        some true
      else
        (segs_Span p_l).bind fun z3 =>
        (ref04_Span p_l).bind fun z4 =>
        jn (fun (s2 : Bool) =>
          (if (s2) = true then
            some false
          else
            jn (fun (_ : Unit) =>
              (segs_Place p_l addr n).bind fun z5 =>
              jn (fun (s9 : Bool) =>
                some s9) (fun k7 =>
                (if (z5.2 != 0) = true then
                k7 true
                else
                (if (decide (z5.1 ≤ size)) = true then
                k7 (decide (n ≤ (IntKind.u64.wrap (size - z5.1))))
                else
                k7 false)))) (fun k3 =>
              loopK (fun (s4 : Int) rec1 =>
                (if (decide (s4 < ((p_l.length : Nat) : Int))) = true then
                  jn (fun (_ : Unit) =>
                    let1 (IntKind.i64.wrap (s4 + 1)) fun i_1 =>
                    rec1 i_1) (fun k4 =>
                    jn (fun (_ : Unit) =>
                      k4 ()) (fun k5 =>
                      loopK (fun (s7 : Int) rec2 =>
                        (if (decide (s7 < s4)) = true then
                          jn (fun (s8 : Bool) =>
                            (if (s8) = true then
                              some false
                            else
                              let1 (IntKind.i64.wrap (s7 + 1)) fun k_1 =>
                              rec2 k_1)) (fun k6 =>
                            gd ((0 : Int) ≤ s4 ∧ s4 < ((p_l.length : Nat) : Int)) <|
                            (if (((gt p_l s4).1) == 1) = true then
                            gd ((0 : Int) ≤ s7 ∧ s7 < ((p_l.length : Nat) : Int)) <|
                            (if (((gt p_l s7).1) == 1) = true then
                            gd ((0 : Int) ≤ s7 ∧ s7 < ((p_l.length : Nat) : Int)) <|
                            gd ((0 : Int) ≤ s7 ∧ s7 < ((p_l.length : Nat) : Int)) <|
                            gd ((0 : Int) ≤ s4 ∧ s4 < ((p_l.length : Nat) : Int)) <|
                            k6 (decide ((IntKind.u64.wrap (((gt p_l s7).2.2.2.1) + ((gt p_l s7).2.2.2.2.2.1))) > ((gt p_l s4).2.2.2.1)))
                            else
                            k6 false)
                            else
                            k6 false))
                        else
                          k5 ())) bigF 0))
                else
                  k3 ())) bigF 0))) (fun k2 =>
          (if (z3.1 != z4.1) = true then
          k2 true
          else
          (if (z3.2 != z4.2) = true then
          k2 true
          else
          (if ((Int.tmod z3.1 256) != 0) = true then
          k2 true
          else
          (if ((Int.tmod z3.2 256) != 0) = true then
          k2 true
          else
          k2 (decide (z3.1 > z3.2))))))))) (fun k1 =>
      (if (decide (((p_l.length : Nat) : Int) > 64)) = true then
      k1 true
      else
      (segs_Check p_l size).bind fun z2 =>
      k1 (z2 != 0))))

/-- dormouse/dormouselaw04.SegsOne -/
def law04_SegsOne (p_s : Int × Int × Int × Int × Int × Int × Int) (size : Int) : Option (Bool) :=
  (law04_awake).bind fun z1 =>
  (if (!z1) = true then
    some false
  else
    (segs_Check ([(p_s.1, p_s.2.1, p_s.2.2.1, p_s.2.2.2.1, p_s.2.2.2.2.1, p_s.2.2.2.2.2.1, p_s.2.2.2.2.2.2)] : List (Int × Int × Int × Int × Int × Int × Int)) size).bind fun z2 =>
    (ref04_Check ([(p_s.1, p_s.2.1, p_s.2.2.1, p_s.2.2.2.1, p_s.2.2.2.2.1, p_s.2.2.2.2.2.1, p_s.2.2.2.2.2.2)] : List (Int × Int × Int × Int × Int × Int × Int)) size).bind fun z3 =>
    some (z2 == z3))

/-- dormouse/dormouselaw04.SegsTwo -/
def law04_SegsTwo (p_a : Int) (m : Int) (b : Int) (n : Int) (kind : Int) (off : Int) (size : Int) : Option (Bool) :=
  (law04_awake).bind fun z1 =>
  (if (!z1) = true then
    some false
  else
    jn (fun (s1 : Bool) =>
      some s1) (fun k1 =>
      (segs_Check ([(1, 0, IntKind.u64.wrap p_a, IntKind.u64.wrap p_a, IntKind.u64.wrap m, IntKind.u64.wrap ((IntKind.u64.wrap m) + 1), 0), (1, 0, IntKind.u64.wrap b, IntKind.u64.wrap b, IntKind.u64.wrap n, IntKind.u64.wrap ((IntKind.u64.wrap n) + 1), 0), (kind, 0, IntKind.u64.wrap off, IntKind.u64.wrap off, IntKind.u64.wrap size, IntKind.u64.wrap size, 0)] : List (Int × Int × Int × Int × Int × Int × Int)) 1048576).bind fun z2 =>
      (ref04_Check ([(1, 0, IntKind.u64.wrap p_a, IntKind.u64.wrap p_a, IntKind.u64.wrap m, IntKind.u64.wrap ((IntKind.u64.wrap m) + 1), 0), (1, 0, IntKind.u64.wrap b, IntKind.u64.wrap b, IntKind.u64.wrap n, IntKind.u64.wrap ((IntKind.u64.wrap n) + 1), 0), (kind, 0, IntKind.u64.wrap off, IntKind.u64.wrap off, IntKind.u64.wrap size, IntKind.u64.wrap size, 0)] : List (Int × Int × Int × Int × Int × Int × Int)) 1048576).bind fun z3 =>
      (if (z2 == z3) = true then
      gd ((0 : Int) ≤ 0 ∧ (0 : Int) ≤ 2 ∧ 2 ≤ ((([(1, 0, IntKind.u64.wrap p_a, IntKind.u64.wrap p_a, IntKind.u64.wrap m, IntKind.u64.wrap ((IntKind.u64.wrap m) + 1), 0), (1, 0, IntKind.u64.wrap b, IntKind.u64.wrap b, IntKind.u64.wrap n, IntKind.u64.wrap ((IntKind.u64.wrap n) + 1), 0), (kind, 0, IntKind.u64.wrap off, IntKind.u64.wrap off, IntKind.u64.wrap size, IntKind.u64.wrap size, 0)] : List (Int × Int × Int × Int × Int × Int × Int)).length : Nat) : Int)) <|
      (segs_Check (cutL ([(1, 0, IntKind.u64.wrap p_a, IntKind.u64.wrap p_a, IntKind.u64.wrap m, IntKind.u64.wrap ((IntKind.u64.wrap m) + 1), 0), (1, 0, IntKind.u64.wrap b, IntKind.u64.wrap b, IntKind.u64.wrap n, IntKind.u64.wrap ((IntKind.u64.wrap n) + 1), 0), (kind, 0, IntKind.u64.wrap off, IntKind.u64.wrap off, IntKind.u64.wrap size, IntKind.u64.wrap size, 0)] : List (Int × Int × Int × Int × Int × Int × Int)) 0 2) 1048576).bind fun z4 =>
      gd ((0 : Int) ≤ 0 ∧ (0 : Int) ≤ 2 ∧ 2 ≤ ((([(1, 0, IntKind.u64.wrap p_a, IntKind.u64.wrap p_a, IntKind.u64.wrap m, IntKind.u64.wrap ((IntKind.u64.wrap m) + 1), 0), (1, 0, IntKind.u64.wrap b, IntKind.u64.wrap b, IntKind.u64.wrap n, IntKind.u64.wrap ((IntKind.u64.wrap n) + 1), 0), (kind, 0, IntKind.u64.wrap off, IntKind.u64.wrap off, IntKind.u64.wrap size, IntKind.u64.wrap size, 0)] : List (Int × Int × Int × Int × Int × Int × Int)).length : Nat) : Int)) <|
      (ref04_Check (cutL ([(1, 0, IntKind.u64.wrap p_a, IntKind.u64.wrap p_a, IntKind.u64.wrap m, IntKind.u64.wrap ((IntKind.u64.wrap m) + 1), 0), (1, 0, IntKind.u64.wrap b, IntKind.u64.wrap b, IntKind.u64.wrap n, IntKind.u64.wrap ((IntKind.u64.wrap n) + 1), 0), (kind, 0, IntKind.u64.wrap off, IntKind.u64.wrap off, IntKind.u64.wrap size, IntKind.u64.wrap size, 0)] : List (Int × Int × Int × Int × Int × Int × Int)) 0 2) 1048576).bind fun z5 =>
      k1 (z4 == z5)
      else
      k1 false)))

end Dm
