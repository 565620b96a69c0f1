/-
  The shallow forms of the Go functions: plain functions in the Option monad, printed by a program of this repo. No condition.
-/
import Derived.Test.YtmocofbneblccaaPre
namespace Dm
open Go

/-- dormouse/dedup.Origin$1 -/
def dedup_Origin_1 (f : (List UInt8) × (List Int)) (q_1 : List UInt8) : Option (Bool) :=
  some (f.1 == q_1)

/-- slices.IndexFunc[[]dormouse/api.File,dormouse/api.File] -/
def slices_IndexFunc_api_File_api_File_Origin_1 (p_s : List ((List UInt8) × (List Int))) (q_c0 : List UInt8) : Option (Int) :=
  jn (fun (_ : Unit) =>
    some (-1)) (fun k1 =>
    loopK (fun (s2 : Int) rec1 =>
      (if (decide (s2 < ((p_s.length : Nat) : Int))) = true then
        gd ((0 : Int) ≤ s2 ∧ s2 < ((p_s.length : Nat) : Int)) <|
        (dedup_Origin_1 (gt p_s s2) q_c0).bind fun z1 =>
        (if (z1) = true then
          some s2
        else
          rec1 (IntKind.i64.wrap (s2 + 1)))
      else
        k1 ())) bigF 0)

/-- dormouse/octets.has -/
def octets_has (p_many : Int) (p_at : Int) (size : Int) : Option (Bool) :=
  let1 (IntKind.u64.wrap p_many) fun all_1 =>
  jn (fun (s1 : Bool) =>
    some s1) (fun k1 =>
    (if (decide (p_at ≤ all_1)) = true then
    k1 (decide (size ≤ (IntKind.u64.wrap (all_1 - p_at))))
    else
    k1 false))

def slices_Clone_byte_byte (s : List Int) : Option (List Int) := gd (s.length * 1 ≤ 140737488355328) <| some s

/-- dormouse/octets.Cut -/
def octets_Cut (b : List Int) (p_at : Int) (size : Int) : Option ((List Int) × Int) :=
  (octets_has ((b.length : Nat) : Int) p_at size).bind fun z1 =>
  (if (!z1) = true then
    some ([], 10)
  else
    gd ((0 : Int) ≤ p_at ∧ (p_at : Int) ≤ (IntKind.u64.wrap (p_at + size)) ∧ (IntKind.u64.wrap (p_at + size)) ≤ ((b.length : Nat) : Int)) <|
    (slices_Clone_byte_byte (cutL b p_at (IntKind.u64.wrap (p_at + size)))).bind fun z2 =>
    some (z2, 0))

/-- dormouse/dedup.Origin -/
def dedup_Origin (file : List UInt8) (off : Int) (files : List ((List UInt8) × (List Int))) : Option ((List Int) × Bool) :=
  (slices_IndexFunc_api_File_api_File_Origin_1 files file).bind fun z1 =>
  jn (fun (s1 : Bool) =>
    (if (s1) = true then
      some ([], false)
    else
      gd ((0 : Int) ≤ z1 ∧ z1 < ((files.length : Nat) : Int)) <|
      (octets_Cut ((gt files z1).2) off 256).bind fun z2 =>
      some (z2.1, z2.2 == 0))) (fun k1 =>
    (if (file == []) = true then
    k1 true
    else
    k1 (decide (z1 < 0))))

/-- slices.Equal[[]byte,byte] -/
def slices_Equal_byte_byte (p_s1 : List Int) (p_s2 : List Int) : Option (Bool) :=
  (if (((p_s1.length : Nat) : Int) != ((p_s2.length : Nat) : Int)) = true then
    some false
  else
    jn (fun (_ : Unit) =>
      some true) (fun k1 =>
      loopK (fun (s2 : Int) rec1 =>
        (if (decide (s2 < ((p_s1.length : Nat) : Int))) = true then
          gd ((0 : Int) ≤ s2 ∧ s2 < ((p_s1.length : Nat) : Int)) <|
          gd ((0 : Int) ≤ s2 ∧ s2 < ((p_s2.length : Nat) : Int)) <|
          (if ((gt p_s1 s2) != (gt p_s2 s2)) = true then
            some false
          else
            rec1 (IntKind.i64.wrap (s2 + 1)))
        else
          k1 ())) bigF 0))

/-- dormouse/dedup.Sum -/
def dedup_Sum (b : List Int) : Option (Int) :=
  jn (fun (s1 : Int × Int) =>
    some (bor .u32 (shl .u32 s1.2 16) s1.1)) (fun k1 =>
    loopK (fun (s2 : Int × Int × Int) rec1 =>
      (if (decide (s2.2.2 < ((b.length : Nat) : Int))) = true then
        gd ((0 : Int) ≤ s2.2.2 ∧ s2.2.2 < ((b.length : Nat) : Int)) <|
        let1 (gt b s2.2.2) fun c_1 =>
        let1 (Int.tmod (IntKind.u32.wrap (s2.1 + (IntKind.u32.wrap c_1))) 65521) fun x_1 =>
        let1 (Int.tmod (IntKind.u32.wrap (s2.2.1 + x_1)) 65521) fun y_1 =>
        rec1 (x_1, y_1, IntKind.i64.wrap (s2.2.2 + 1))
      else
        k1 (s2.1, s2.2.1))) bigF (1, 0, 0))

/-- dormouse/dedup.Split -/
def dedup_Split (p_l : List (Int × Int × Bool × (List UInt8) × Int × (List Int))) (files : List ((List UInt8) × (List Int))) : Option ((List (Int × Int × Bool × (List UInt8) × Int × Bool × Int)) × (List Int)) :=
  jn (fun (s1 : (List (Int × Int × Bool × (List UInt8) × Int × Bool × Int)) × (List Int)) =>
    some (s1.1, s1.2)) (fun k1 =>
    loopK (fun (s2 : (List (Int × Int × Bool × (List UInt8) × Int × Bool × Int)) × (List Int) × Int) rec1 =>
      (if (decide (s2.2.2 < ((p_l.length : Nat) : Int))) = true then
        gd ((0 : Int) ≤ s2.2.2 ∧ s2.2.2 < ((p_l.length : Nat) : Int)) <|
        (dedup_Origin ((gt p_l s2.2.2).2.2.2.1) ((gt p_l s2.2.2).2.2.2.2.1) files).bind fun z1 =>
        jn (fun (s3 : Bool) =>
          jn (fun (s4 : (List Int) × (Int × Int × Bool × (List UInt8) × Int × Bool × Int)) =>
            gd ((s2.1.length + ([(s4.2.1, s4.2.2.1, s4.2.2.2.1, s4.2.2.2.2.1, s4.2.2.2.2.2.1, s4.2.2.2.2.2.2.1, s4.2.2.2.2.2.2.2)] : List (Int × Int × Bool × (List UInt8) × Int × Bool × Int)).length) * 56 ≤ 140737488355328) <|
            rec1 ((s2.1 ++ ([(s4.2.1, s4.2.2.1, s4.2.2.2.1, s4.2.2.2.2.1, s4.2.2.2.2.2.1, s4.2.2.2.2.2.2.1, s4.2.2.2.2.2.2.2)] : List (Int × Int × Bool × (List UInt8) × Int × Bool × Int))), s4.1, IntKind.i64.wrap (s2.2.2 + 1))) (fun k3 =>
            (if (s3) = true then
              (dedup_Sum z1.1).bind fun z3 =>
              k3 (s2.2.1, ((gt p_l s2.2.2).1, (gt p_l s2.2.2).2.1, (gt p_l s2.2.2).2.2.1, (gt p_l s2.2.2).2.2.2.1, (gt p_l s2.2.2).2.2.2.2.1, false, z3))
            else
              gd ((s2.2.1.length + ((gt p_l s2.2.2).2.2.2.2.2).length) * 1 ≤ 140737488355328) <|
              k3 ((s2.2.1 ++ ((gt p_l s2.2.2).2.2.2.2.2)), ((gt p_l s2.2.2).1, (gt p_l s2.2.2).2.1, (gt p_l s2.2.2).2.2.1, (gt p_l s2.2.2).2.2.2.1, (gt p_l s2.2.2).2.2.2.2.1, true, 0))))) (fun k2 =>
          (if (z1.2) = true then
          (slices_Equal_byte_byte z1.1 ((gt p_l s2.2.2).2.2.2.2.2)).bind fun z2 =>
          k2 z2
          else
          k2 false))
      else
        k1 (s2.1, s2.2.1))) bigF ([], [], 0))

/-- dormouse/dedup.Join$1 -/
def dedup_Join_1 (p_x : Int × Int × Bool × (List UInt8) × Int × Bool × Int) (q_1 : List ((List UInt8) × (List Int))) (q_2 : List Int) : Option ((List Int) × Int × (List Int)) :=
  (if (!p_x.2.2.2.2.2.1) = true then
    (dedup_Origin p_x.2.2.2.1 p_x.2.2.2.2.1 q_1).bind fun z1 =>
    jn (fun (s1 : Bool) =>
      (if (s1) = true then
        some ([], 61, q_2)
      else
        some (z1.1, 0, q_2))) (fun k1 =>
      (if (!z1.2) = true then
      k1 true
      else
      (dedup_Sum z1.1).bind fun z2 =>
      k1 (z2 != p_x.2.2.2.2.2.2)))
  else
    jn (fun (s2 : Bool) =>
      (if (s2) = true then
        some ([], 60, q_2)
      else
        gd ((0 : Int) ≤ 0 ∧ (0 : Int) ≤ 256 ∧ 256 ≤ ((q_2.length : Nat) : Int)) <|
        (slices_Clone_byte_byte (cutL q_2 0 256)).bind fun z3 =>
        gd ((0 : Int) ≤ 256 ∧ (256 : Int) ≤ ((q_2.length : Nat) : Int) ∧ ((q_2.length : Nat) : Int) ≤ ((q_2.length : Nat) : Int)) <|
        some (z3, 0, (cutL q_2 256 ((q_2.length : Nat) : Int))))) (fun k2 =>
      (if (decide (((q_2.length : Nat) : Int) < 256)) = true then
      k2 true
      else
      k2 (p_x.2.2.2.2.2.2 != 0))))

/-- dormouse/dedup.Join$1 -/
def dedup_Join_1_b (p_x : Int × Int × Bool × (List UInt8) × Int × Bool × Int) (q_1 : List ((List UInt8) × (List Int))) (q_2 : List Int) : Option ((List Int) × Int × (List ((List UInt8) × (List Int))) × (List Int)) :=
  (if (!p_x.2.2.2.2.2.1) = true then
    (dedup_Origin p_x.2.2.2.1 p_x.2.2.2.2.1 q_1).bind fun z1 =>
    jn (fun (s1 : Bool) =>
      (if (s1) = true then
        some ([], 61, q_1, q_2)
      else
        some (z1.1, 0, q_1, q_2))) (fun k1 =>
      (if (!z1.2) = true then
      k1 true
      else
      (dedup_Sum z1.1).bind fun z2 =>
      k1 (z2 != p_x.2.2.2.2.2.2)))
  else
    jn (fun (s2 : Bool) =>
      (if (s2) = true then
        some ([], 60, q_1, q_2)
      else
        gd ((0 : Int) ≤ 0 ∧ (0 : Int) ≤ 256 ∧ 256 ≤ ((q_2.length : Nat) : Int)) <|
        (slices_Clone_byte_byte (cutL q_2 0 256)).bind fun z3 =>
        gd ((0 : Int) ≤ 256 ∧ (256 : Int) ≤ ((q_2.length : Nat) : Int) ∧ ((q_2.length : Nat) : Int) ≤ ((q_2.length : Nat) : Int)) <|
        some (z3, 0, q_1, (cutL q_2 256 ((q_2.length : Nat) : Int))))) (fun k2 =>
      (if (decide (((q_2.length : Nat) : Int) < 256)) = true then
      k2 true
      else
      k2 (p_x.2.2.2.2.2.2 != 0))))

/-- dormouse/dedup.Join -/
def dedup_Join (p_l : List (Int × Int × Bool × (List UInt8) × Int × Bool × Int)) (kept : List Int) (files : List ((List UInt8) × (List Int))) : Option ((List (Int × Int × Bool × (List UInt8) × Int × (List Int))) × Int) :=
  jn (fun (s1 : (List (Int × Int × Bool × (List UInt8) × Int × (List Int))) × (List Int)) =>
    (if (decide (((s1.2.length : Nat) : Int) > 0)) = true then
      some ([], 60)
    else
      some (s1.1, 0))) (fun k1 =>
    loopK (fun (s2 : (List (Int × Int × Bool × (List UInt8) × Int × (List Int))) × Int × (List ((List UInt8) × (List Int))) × (List Int)) rec1 =>
      (if (decide (s2.2.1 < ((p_l.length : Nat) : Int))) = true then
        gd ((0 : Int) ≤ s2.2.1 ∧ s2.2.1 < ((p_l.length : Nat) : Int)) <|
        (dedup_Join_1_b ((gt p_l s2.2.1).1, (gt p_l s2.2.1).2.1, (gt p_l s2.2.1).2.2.1, (gt p_l s2.2.1).2.2.2.1, (gt p_l s2.2.1).2.2.2.2.1, (gt p_l s2.2.1).2.2.2.2.2.1, (gt p_l s2.2.1).2.2.2.2.2.2) s2.2.2.1 s2.2.2.2).bind fun z1 =>
        (if (z1.2.1 != 0) = true then
          some ([], z1.2.1)
        else
          gd ((s2.1.length + ([((gt p_l s2.2.1).1, (gt p_l s2.2.1).2.1, (gt p_l s2.2.1).2.2.1, (gt p_l s2.2.1).2.2.2.1, (gt p_l s2.2.1).2.2.2.2.1, z1.1)] : List (Int × Int × Bool × (List UInt8) × Int × (List Int))).length) * 72 ≤ 140737488355328) <|
          rec1 ((s2.1 ++ ([((gt p_l s2.2.1).1, (gt p_l s2.2.1).2.1, (gt p_l s2.2.1).2.2.1, (gt p_l s2.2.1).2.2.2.1, (gt p_l s2.2.1).2.2.2.2.1, z1.1)] : List (Int × Int × Bool × (List UInt8) × Int × (List Int)))), IntKind.i64.wrap (s2.2.1 + 1), z1.2.2.1, z1.2.2.2))
      else
        k1 (s2.1, s2.2.2.2))) bigF ([], 0, files, kept))

/-- dormouse/dormouselaw21.awake -/
def law21_awake  : Option (Bool) :=
  gd ((0 : Int) ≤ 300 ∧ 300 * ((1 : Nat) : Int) ≤ 281474976710656) <|
  gd ((0 : Int) ≤ 256 ∧ 256 * ((1 : Nat) : Int) ≤ 281474976710656) <|
  gd ((0 : Int) ≤ 256 ∧ 256 * ((1 : Nat) : Int) ≤ 281474976710656) <|
  (dedup_Split ([(256, 0, false, [102], 20, (List.replicate (Int.toNat 256) (0 : Int))), (512, 0, false, [], 0, (List.replicate (Int.toNat 256) (0 : Int)))] : List (Int × Int × Bool × (List UInt8) × Int × (List Int))) ([([102], (List.replicate (Int.toNat 300) (0 : Int)))] : List ((List UInt8) × (List Int)))).bind fun z1 =>
  jn (fun (s1 : Bool) =>
    (if (s1) = true then
      some false
    else
      (dedup_Join z1.1 z1.2 ([([102], (List.replicate (Int.toNat 300) (0 : Int)))] : List ((List UInt8) × (List Int)))).bind fun z2 =>
      (dedup_Join z1.1 z1.2 ([] : List ((List UInt8) × (List Int)))).bind fun z3 =>
      (dedup_Origin [102] 44 ([([102], (List.replicate (Int.toNat 300) (0 : Int)))] : List ((List UInt8) × (List Int)))).bind fun z4 =>
      jn (fun (s2 : Bool) =>
        some s2) (fun k2 =>
        (dedup_Sum ([97, 98, 99] : List Int)).bind fun z5 =>
        (if (z5 == 38600999) = true then
        gd ((0 : Int) ≤ 0 ∧ 0 < ((z1.1.length : Nat) : Int)) <|
        (if (!((gt z1.1 0).2.2.2.2.2.1)) = true then
        gd ((0 : Int) ≤ 1 ∧ 1 < ((z1.1.length : Nat) : Int)) <|
        (if ((gt z1.1 1).2.2.2.2.2.1) = true then
        (if (z2.2 == 0) = true then
        (if (((z2.1.length : Nat) : Int) == 2) = true then
        (if (z3.2 == 61) = true then
        (if (z4.2) = true then
        k2 (((z4.1.length : Nat) : Int) == 256)
        else
        k2 false)
        else
        k2 false)
        else
        k2 false)
        else
        k2 false)
        else
        k2 false)
        else
        k2 false)
        else
        k2 false)))) (fun k1 =>
    (if (((z1.1.length : Nat) : Int) != 2) = true then
    k1 true
    else
    k1 (((z1.2.length : Nat) : Int) != 256)))

/-- dormouse/dormouselaw21.few -/
def law21_few (p_l : List (Int × Int × Bool × (List UInt8) × Int × (List Int))) (files : List ((List UInt8) × (List Int))) : Option (Bool) :=
  jn (fun (s1 : Bool) =>
    (if (s1) = true then
      some false
    else
      jn (fun (_ : Unit) =>
        jn (fun (_ : Unit) =>
          some true) (fun k3 =>
          loopK (fun (s5 : Int) rec2 =>
            (if (decide (s5 < ((files.length : Nat) : Int))) = true then
              gd ((0 : Int) ≤ s5 ∧ s5 < ((files.length : Nat) : Int)) <|
              (if (decide (((((gt files s5).2).length : Nat) : Int) > 3000)) = true then
                some false
              else
                let1 (IntKind.i64.wrap (s5 + 1)) fun i_2 =>
                rec2 i_2)
            else
              k3 ())) bigF 0)) (fun k2 =>
        loopK (fun (s3 : Int) rec1 =>
          (if (decide (s3 < ((p_l.length : Nat) : Int))) = true then
            gd ((0 : Int) ≤ s3 ∧ s3 < ((p_l.length : Nat) : Int)) <|
            (if (decide (((((gt p_l s3).2.2.2.2.2).length : Nat) : Int) > 300)) = true then
              some false
            else
              let1 (IntKind.i64.wrap (s3 + 1)) fun i_1 =>
              rec1 i_1)
          else
            k2 ())) bigF 0))) (fun k1 =>
    (if (decide (((p_l.length : Nat) : Int) > 20)) = true then
    k1 true
    else
    k1 (decide (((files.length : Nat) : Int) > 10))))

/-- dormouse/dormouseref21.Origin -/
def ref21_Origin (file : List UInt8) (off : Int) (files : List ((List UInt8) × (List Int))) : Option ((List UInt8) × Bool) :=
  (if (file == []) = true then
    some ([], false)
  else
    jn (fun (_ : Unit) =>
      some ([], false)) (fun k1 =>
      loopK (fun (s2 : Int) rec1 =>
        (if (decide (s2 < ((files.length : Nat) : Int))) = true then
          gd ((0 : Int) ≤ s2 ∧ s2 < ((files.length : Nat) : Int)) <|
          (if (!(((gt files s2).1) == file)) = true then
            let1 (IntKind.i64.wrap (s2 + 1)) fun i_1 =>
            rec1 i_1
          else
            gd ((0 : Int) ≤ s2 ∧ s2 < ((files.length : Nat) : Int)) <|
            let1 (IntKind.u64.wrap ((((gt files s2).2).length : Nat) : Int)) fun n_1 =>
            jn (fun (s3 : Bool) =>
              (if (s3) = true then
                some ([], false)
              else
                gd ((0 : Int) ≤ s2 ∧ s2 < ((files.length : Nat) : Int)) <|
                gd ((0 : Int) ≤ off ∧ (off : Int) ≤ (IntKind.u64.wrap (off + 256)) ∧ (IntKind.u64.wrap (off + 256)) ≤ ((((gt files s2).2).length : Nat) : Int)) <|
                some (toStr (cutL ((gt files s2).2) off (IntKind.u64.wrap (off + 256))), true))) (fun k2 =>
              (if (decide (n_1 < 256)) = true then
              k2 true
              else
              k2 (decide (off > (IntKind.u64.wrap (n_1 - 256)))))))
        else
          k1 ())) bigF 0))

/-- dormouse/dormouseref21.Sum -/
def ref21_Sum (b : List UInt8) : Option (Int) :=
  jn (fun (s1 : Int × Int) =>
    some (IntKind.u32.wrap ((IntKind.u32.wrap ((IntKind.u32.wrap s1.2) * 65536)) + (IntKind.u32.wrap s1.1)))) (fun k1 =>
    loopK (fun (s2 : Int × Int × Int) rec1 =>
      (if (decide (s2.2.2 < ((b.length : Nat) : Int))) = true then
        gd ((0 : Int) ≤ s2.2.2 ∧ s2.2.2 < ((b.length : Nat) : Int)) <|
        let1 (Int.tmod (IntKind.i64.wrap (s2.1 + (IntKind.i64.wrap ((b.getD (Int.toNat s2.2.2) 0).toNat : Int)))) 65521) fun x_1 =>
        let1 (Int.tmod (IntKind.i64.wrap (s2.2.1 + x_1)) 65521) fun y_1 =>
        let1 (IntKind.i64.wrap (s2.2.2 + 1)) fun i_1 =>
        rec1 (x_1, y_1, i_1)
      else
        k1 (s2.1, s2.2.1))) bigF (1, 0, 0))

/-- dormouse/dormouselaw21.DedupSums -/
def law21_DedupSums (b : List Int) (file : List UInt8) (off : Int) (files : List ((List UInt8) × (List Int))) : Option (Bool) :=
  (law21_awake).bind fun z1 =>
  (if (!z1) = true then
    some false
  else
    (law21_few ([] : List (Int × Int × Bool × (List UInt8) × Int × (List Int))) files).bind fun z2 =>
    jn (fun (s1 : Bool) =>
      (if (s1) = true then
        some true
      else
        (dedup_Origin file off files).bind fun z3 =>
        (ref21_Origin file off files).bind fun z4 =>
        jn (fun (s2 : Bool) =>
          some s2) (fun k2 =>
          (dedup_Sum b).bind fun z5 =>
          (ref21_Sum (toStr b)).bind fun z6 =>
          (if (z5 == z6) = true then
          (if ((toStr z3.1) == z4.1) = true then
          k2 (z3.2 == z4.2)
          else
          k2 false)
          else
          k2 false)))) (fun k1 =>
      (if (!z2) = true then
      k1 true
      else
      k1 (decide (((b.length : Nat) : Int) > 5000)))))

/-- dormouse/dormouselaw21.pages -/
def law21_pages (p_l : List (Int × Int × Bool × (List UInt8) × Int × (List Int))) : Option (List (Int × Int × Bool × (List UInt8) × Int × (List UInt8))) :=
  jn (fun (s1 : List (Int × Int × Bool × (List UInt8) × Int × (List UInt8))) =>
    some s1) (fun k1 =>
    loopK (fun (s2 : (List (Int × Int × Bool × (List UInt8) × Int × (List UInt8))) × Int) rec1 =>
      (if (decide (s2.2 < ((p_l.length : Nat) : Int))) = true then
        gd ((0 : Int) ≤ s2.2 ∧ s2.2 < ((p_l.length : Nat) : Int)) <|
        gd ((0 : Int) ≤ s2.2 ∧ s2.2 < ((p_l.length : Nat) : Int)) <|
        gd ((0 : Int) ≤ s2.2 ∧ s2.2 < ((p_l.length : Nat) : Int)) <|
        gd ((0 : Int) ≤ s2.2 ∧ s2.2 < ((p_l.length : Nat) : Int)) <|
        gd ((0 : Int) ≤ s2.2 ∧ s2.2 < ((p_l.length : Nat) : Int)) <|
        gd ((0 : Int) ≤ s2.2 ∧ s2.2 < ((p_l.length : Nat) : Int)) <|
        gd ((s2.1.length + ([((gt p_l s2.2).1, (gt p_l s2.2).2.1, (gt p_l s2.2).2.2.1, (gt p_l s2.2).2.2.2.1, (gt p_l s2.2).2.2.2.2.1, toStr ((gt p_l s2.2).2.2.2.2.2))] : List (Int × Int × Bool × (List UInt8) × Int × (List UInt8))).length) * 64 ≤ 140737488355328) <|
        let1 (IntKind.i64.wrap (s2.2 + 1)) fun i_1 =>
        rec1 ((s2.1 ++ ([((gt p_l s2.2).1, (gt p_l s2.2).2.1, (gt p_l s2.2).2.2.1, (gt p_l s2.2).2.2.2.1, (gt p_l s2.2).2.2.2.2.1, toStr ((gt p_l s2.2).2.2.2.2.2))] : List (Int × Int × Bool × (List UInt8) × Int × (List UInt8)))), i_1)
      else
        k1 s2.1)) bigF ([], 0))

/-- dormouse/dormouseref21.Split -/
def ref21_Split (p_l : List (Int × Int × Bool × (List UInt8) × Int × (List UInt8))) (files : List ((List UInt8) × (List Int))) : Option ((List ((Int × Int × Bool × (List UInt8) × Int × (List UInt8)) × Bool × Int)) × (List UInt8)) :=
  jn (fun (s1 : (List ((Int × Int × Bool × (List UInt8) × Int × (List UInt8)) × Bool × Int)) × (List UInt8)) =>
    some (s1.1, s1.2)) (fun k1 =>
    loopK (fun (s2 : (List ((Int × Int × Bool × (List UInt8) × Int × (List UInt8)) × Bool × Int)) × (List UInt8) × Int) rec1 =>
      (if (decide (s2.2.2 < ((p_l.length : Nat) : Int))) = true then
        gd ((0 : Int) ≤ s2.2.2 ∧ s2.2.2 < ((p_l.length : Nat) : Int)) <|
        (ref21_Origin ((gt p_l s2.2.2).2.2.2.1) ((gt p_l s2.2.2).2.2.2.2.1) files).bind fun z1 =>
        jn (fun (s3 : Bool) =>
          jn (fun (s4 : (List UInt8) × ((Int × Int × Bool × (List UInt8) × Int × (List UInt8)) × Bool × Int)) =>
            gd ((s2.1.length + ([((s4.2.1.1, s4.2.1.2.1, s4.2.1.2.2.1, s4.2.1.2.2.2.1, s4.2.1.2.2.2.2.1, []), s4.2.2.1, s4.2.2.2)] : List ((Int × Int × Bool × (List UInt8) × Int × (List UInt8)) × Bool × Int)).length) * 72 ≤ 140737488355328) <|
            let1 (IntKind.i64.wrap (s2.2.2 + 1)) fun i_1 =>
            rec1 ((s2.1 ++ ([((s4.2.1.1, s4.2.1.2.1, s4.2.1.2.2.1, s4.2.1.2.2.2.1, s4.2.1.2.2.2.2.1, []), s4.2.2.1, s4.2.2.2)] : List ((Int × Int × Bool × (List UInt8) × Int × (List UInt8)) × Bool × Int))), s4.1, i_1)) (fun k3 =>
            (if (s3) = true then
              (ref21_Sum z1.1).bind fun z2 =>
              k3 (s2.2.1, (((gt p_l s2.2.2).1, (gt p_l s2.2.2).2.1, (gt p_l s2.2.2).2.2.1, (gt p_l s2.2.2).2.2.2.1, (gt p_l s2.2.2).2.2.2.2.1, (gt p_l s2.2.2).2.2.2.2.2), false, z2))
            else
              gd (s2.2.1.length + ((gt p_l s2.2.2).2.2.2.2.2).length ≤ 9223372036854775807) <|
              let1 (s2.2.1 ++ ((gt p_l s2.2.2).2.2.2.2.2)) fun kept_1 =>
              k3 (kept_1, (((gt p_l s2.2.2).1, (gt p_l s2.2.2).2.1, (gt p_l s2.2.2).2.2.1, (gt p_l s2.2.2).2.2.2.1, (gt p_l s2.2.2).2.2.2.2.1, (gt p_l s2.2.2).2.2.2.2.2), true, 0))))) (fun k2 =>
          (if (z1.2) = true then
          k2 (z1.1 == ((gt p_l s2.2.2).2.2.2.2.2))
          else
          k2 false))
      else
        k1 (s2.1, s2.2.1))) bigF ([], [], 0))

/-- dormouse/dormouselaw21.entries -/
def law21_entries (p_l : List (Int × Int × Bool × (List UInt8) × Int × Bool × Int)) : Option (List ((Int × Int × Bool × (List UInt8) × Int × (List UInt8)) × Bool × Int)) :=
  jn (fun (s1 : List ((Int × Int × Bool × (List UInt8) × Int × (List UInt8)) × Bool × Int)) =>
    some s1) (fun k1 =>
    loopK (fun (s2 : (List ((Int × Int × Bool × (List UInt8) × Int × (List UInt8)) × Bool × Int)) × Int) rec1 =>
      (if (decide (s2.2 < ((p_l.length : Nat) : Int))) = true then
        gd ((0 : Int) ≤ s2.2 ∧ s2.2 < ((p_l.length : Nat) : Int)) <|
        gd ((0 : Int) ≤ s2.2 ∧ s2.2 < ((p_l.length : Nat) : Int)) <|
        gd ((0 : Int) ≤ s2.2 ∧ s2.2 < ((p_l.length : Nat) : Int)) <|
        gd ((0 : Int) ≤ s2.2 ∧ s2.2 < ((p_l.length : Nat) : Int)) <|
        gd ((0 : Int) ≤ s2.2 ∧ s2.2 < ((p_l.length : Nat) : Int)) <|
        gd ((0 : Int) ≤ s2.2 ∧ s2.2 < ((p_l.length : Nat) : Int)) <|
        gd ((0 : Int) ≤ s2.2 ∧ s2.2 < ((p_l.length : Nat) : Int)) <|
        gd ((s2.1.length + ([(((gt p_l s2.2).1, (gt p_l s2.2).2.1, (gt p_l s2.2).2.2.1, (gt p_l s2.2).2.2.2.1, (gt p_l s2.2).2.2.2.2.1, []), (gt p_l s2.2).2.2.2.2.2.1, (gt p_l s2.2).2.2.2.2.2.2)] : List ((Int × Int × Bool × (List UInt8) × Int × (List UInt8)) × Bool × Int)).length) * 72 ≤ 140737488355328) <|
        let1 (IntKind.i64.wrap (s2.2 + 1)) fun i_1 =>
        rec1 ((s2.1 ++ ([(((gt p_l s2.2).1, (gt p_l s2.2).2.1, (gt p_l s2.2).2.2.1, (gt p_l s2.2).2.2.2.1, (gt p_l s2.2).2.2.2.2.1, []), (gt p_l s2.2).2.2.2.2.2.1, (gt p_l s2.2).2.2.2.2.2.2)] : List ((Int × Int × Bool × (List UInt8) × Int × (List UInt8)) × Bool × Int))), i_1)
      else
        k1 s2.1)) bigF ([], 0))

/-- dormouse/dormouselaw21.DedupSplits -/
def law21_DedupSplits (p_l : List (Int × Int × Bool × (List UInt8) × Int × (List Int))) (files : List ((List UInt8) × (List Int))) : Option (Bool) :=
  (law21_awake).bind fun z1 =>
  (if (!z1) = true then
    some false
  else
    (law21_few p_l files).bind fun z2 =>
    (if (!z2) = true then
      some true
    else
      (dedup_Split p_l files).bind fun z3 =>
      (law21_pages p_l).bind fun z4 =>
      (ref21_Split z4 files).bind fun z5 =>
      (law21_entries z3.1).bind fun z6 =>
      jn (fun (s1 : Bool) =>
        (if (s1) = true then
          some false
        else
          jn (fun (_ : Unit) =>
            some true) (fun k2 =>
            loopK (fun (s3 : Int) rec1 =>
              (if (decide (s3 < ((z6.length : Nat) : Int))) = true then
                gd ((0 : Int) ≤ s3 ∧ s3 < ((z6.length : Nat) : Int)) <|
                gd ((0 : Int) ≤ s3 ∧ s3 < ((z5.1.length : Nat) : Int)) <|
                (if (!((((((gt z6 s3).1).1) == (((gt z5.1 s3).1).1)) && (((((gt z6 s3).1).2.1) == (((gt z5.1 s3).1).2.1)) && (((((gt z6 s3).1).2.2.1) == (((gt z5.1 s3).1).2.2.1)) && (((((gt z6 s3).1).2.2.2.1) == (((gt z5.1 s3).1).2.2.2.1)) && (((((gt z6 s3).1).2.2.2.2.1) == (((gt z5.1 s3).1).2.2.2.2.1)) && ((((gt z6 s3).1).2.2.2.2.2) == (((gt z5.1 s3).1).2.2.2.2.2))))))) && ((((gt z6 s3).2.1) == ((gt z5.1 s3).2.1)) && (((gt z6 s3).2.2) == ((gt z5.1 s3).2.2))))) = true then
                  some false
                else
                  let1 (IntKind.i64.wrap (s3 + 1)) fun i_1 =>
                  rec1 i_1)
              else
                k2 ())) bigF 0))) (fun k1 =>
        (if (!((toStr z3.2) == z5.2)) = true then
        k1 true
        else
        k1 (((z6.length : Nat) : Int) != ((z5.1.length : Nat) : Int))))))

/-- dormouse/dormouseref21.Join -/
def ref21_Join (p_l : List ((Int × Int × Bool × (List UInt8) × Int × (List UInt8)) × Bool × Int)) (kept : List UInt8) (files : List ((List UInt8) × (List Int))) : Option ((List (Int × Int × Bool × (List UInt8) × Int × (List UInt8))) × Int) :=
  jn (fun (s1 : (List UInt8) × (List (Int × Int × Bool × (List UInt8) × Int × (List UInt8)))) =>
    (if (!(s1.1 == [])) = true then
      some ([], 60)
    else
      some (s1.2, 0))) (fun k1 =>
    loopK (fun (s2 : (List UInt8) × (List (Int × Int × Bool × (List UInt8) × Int × (List UInt8))) × Int) rec1 =>
      (if (decide (s2.2.2 < ((p_l.length : Nat) : Int))) = true then
        gd ((0 : Int) ≤ s2.2.2 ∧ s2.2.2 < ((p_l.length : Nat) : Int)) <|
        gd ((0 : Int) ≤ s2.2.2 ∧ s2.2.2 < ((p_l.length : Nat) : Int)) <|
        jn (fun (s3 : (List UInt8) × (Int × Int × Bool × (List UInt8) × Int × (List UInt8))) =>
          gd ((s2.2.1.length + ([(s3.2.1, s3.2.2.1, s3.2.2.2.1, s3.2.2.2.2.1, s3.2.2.2.2.2.1, s3.2.2.2.2.2.2)] : List (Int × Int × Bool × (List UInt8) × Int × (List UInt8))).length) * 64 ≤ 140737488355328) <|
          let1 (IntKind.i64.wrap (s2.2.2 + 1)) fun i_1 =>
          rec1 (s3.1, (s2.2.1 ++ ([(s3.2.1, s3.2.2.1, s3.2.2.2.1, s3.2.2.2.2.1, s3.2.2.2.2.2.1, s3.2.2.2.2.2.2)] : List (Int × Int × Bool × (List UInt8) × Int × (List UInt8)))), i_1)) (fun k2 =>
          (if ((gt p_l s2.2.2).2.1) = true then
            jn (fun (s4 : Bool) =>
              (if (s4) = true then
                some ([], 60)
              else
                gd ((0 : Int) ≤ 0 ∧ (0 : Int) ≤ 256 ∧ 256 ≤ ((s2.1.length : Nat) : Int)) <|
                gd ((0 : Int) ≤ 256 ∧ (256 : Int) ≤ ((s2.1.length : Nat) : Int) ∧ ((s2.1.length : Nat) : Int) ≤ ((s2.1.length : Nat) : Int)) <|
                let1 ((cutL s2.1 256 ((s2.1.length : Nat) : Int))) fun kept_1 =>
                k2 (kept_1, (((gt p_l s2.2.2).1).1, ((gt p_l s2.2.2).1).2.1, ((gt p_l s2.2.2).1).2.2.1, ((gt p_l s2.2.2).1).2.2.2.1, ((gt p_l s2.2.2).1).2.2.2.2.1, (cutL s2.1 0 256))))) (fun k3 =>
              (if (decide (((s2.1.length : Nat) : Int) < 256)) = true then
              k3 true
              else
              gd ((0 : Int) ≤ s2.2.2 ∧ s2.2.2 < ((p_l.length : Nat) : Int)) <|
              k3 (((gt p_l s2.2.2).2.2) != 0)))
          else
            (ref21_Origin (((gt p_l s2.2.2).1).2.2.2.1) (((gt p_l s2.2.2).1).2.2.2.2.1) files).bind fun z1 =>
            jn (fun (s5 : Bool) =>
              (if (s5) = true then
                some ([], 61)
              else
                k2 (s2.1, (((gt p_l s2.2.2).1).1, ((gt p_l s2.2.2).1).2.1, ((gt p_l s2.2.2).1).2.2.1, ((gt p_l s2.2.2).1).2.2.2.1, ((gt p_l s2.2.2).1).2.2.2.2.1, z1.1)))) (fun k4 =>
              (if (!z1.2) = true then
              k4 true
              else
              (ref21_Sum z1.1).bind fun z2 =>
              gd ((0 : Int) ≤ s2.2.2 ∧ s2.2.2 < ((p_l.length : Nat) : Int)) <|
              k4 (z2 != ((gt p_l s2.2.2).2.2))))))
      else
        k1 (s2.1, s2.2.1))) bigF (kept, [], 0))

/-- dormouse/dormouselaw21.DedupJoins -/
def law21_DedupJoins (p_l : List (Int × Int × Bool × (List UInt8) × Int × Bool × Int)) (kept : List Int) (files : List ((List UInt8) × (List Int))) : Option (Bool) :=
  (law21_awake).bind fun z1 =>
  (if (!z1) = true then
    some false
  else
    (law21_few ([] : List (Int × Int × Bool × (List UInt8) × Int × (List Int))) files).bind fun z2 =>
    jn (fun (s1 : Bool) =>
      (if (s1) = true then
        some true
      else
        (dedup_Join p_l kept files).bind fun z3 =>
        (law21_entries p_l).bind fun z4 =>
        (ref21_Join z4 (toStr kept) files).bind fun z5 =>
        (law21_pages z3.1).bind fun z6 =>
        jn (fun (s2 : Bool) =>
          (if (s2) = true then
            some false
          else
            jn (fun (_ : Unit) =>
              some true) (fun k3 =>
              loopK (fun (s4 : Int) rec1 =>
                (if (decide (s4 < ((z6.length : Nat) : Int))) = true then
                  gd ((0 : Int) ≤ s4 ∧ s4 < ((z6.length : Nat) : Int)) <|
                  gd ((0 : Int) ≤ s4 ∧ s4 < ((z5.1.length : Nat) : Int)) <|
                  (if (!((((gt z6 s4).1) == ((gt z5.1 s4).1)) && ((((gt z6 s4).2.1) == ((gt z5.1 s4).2.1)) && ((((gt z6 s4).2.2.1) == ((gt z5.1 s4).2.2.1)) && ((((gt z6 s4).2.2.2.1) == ((gt z5.1 s4).2.2.2.1)) && ((((gt z6 s4).2.2.2.2.1) == ((gt z5.1 s4).2.2.2.2.1)) && (((gt z6 s4).2.2.2.2.2) == ((gt z5.1 s4).2.2.2.2.2)))))))) = true then
                    some false
                  else
                    let1 (IntKind.i64.wrap (s4 + 1)) fun i_1 =>
                    rec1 i_1)
                else
                  k3 ())) bigF 0))) (fun k2 =>
          (if (z3.2 != z5.2) = true then
          k2 true
          else
          k2 (((z6.length : Nat) : Int) != ((z5.1.length : Nat) : Int)))))) (fun k1 =>
      (if (!z2) = true then
      k1 true
      else
      (if (decide (((p_l.length : Nat) : Int) > 20)) = true then
      k1 true
      else
      k1 (decide (((kept.length : Nat) : Int) > 6000))))))

/-- dormouse/dormouselaw21.DedupBack -/
def law21_DedupBack (p_l : List (Int × Int × Bool × (List UInt8) × Int × (List Int))) (files : List ((List UInt8) × (List Int))) : Option (Bool) :=
  (law21_awake).bind fun z1 =>
  (if (!z1) = true then
    some false
  else
    (law21_few p_l files).bind fun z2 =>
    (if (!z2) = true then
      some true
    else
      jn (fun (_ : Unit) =>
        (dedup_Split p_l files).bind fun z3 =>
        (dedup_Join z3.1 z3.2 files).bind fun z4 =>
        (law21_pages p_l).bind fun z5 =>
        (law21_pages z4.1).bind fun z6 =>
        jn (fun (s3 : Bool) =>
          (if (s3) = true then
            some false
          else
            jn (fun (s5 : Int) =>
              some (s5 == ((z3.2.length : Nat) : Int))) (fun k4 =>
              loopK (fun (s6 : Int × Int) rec2 =>
                (if (decide (s6.2 < ((z5.length : Nat) : Int))) = true then
                  jn (fun (s7 : Int) =>
                    let1 (IntKind.i64.wrap (s6.2 + 1)) fun i_2 =>
                    rec2 (s7, i_2)) (fun k5 =>
                    gd ((0 : Int) ≤ s6.2 ∧ s6.2 < ((z5.length : Nat) : Int)) <|
                    gd ((0 : Int) ≤ s6.2 ∧ s6.2 < ((z6.length : Nat) : Int)) <|
                    (if (!((((gt z5 s6.2).1) == ((gt z6 s6.2).1)) && ((((gt z5 s6.2).2.1) == ((gt z6 s6.2).2.1)) && ((((gt z5 s6.2).2.2.1) == ((gt z6 s6.2).2.2.1)) && ((((gt z5 s6.2).2.2.2.1) == ((gt z6 s6.2).2.2.2.1)) && ((((gt z5 s6.2).2.2.2.2.1) == ((gt z6 s6.2).2.2.2.2.1)) && (((gt z5 s6.2).2.2.2.2.2) == ((gt z6 s6.2).2.2.2.2.2)))))))) = true then
                      some false
                    else
                      gd ((0 : Int) ≤ s6.2 ∧ s6.2 < ((z3.1.length : Nat) : Int)) <|
                      jn (fun (s8 : Int) =>
                        k5 s8) (fun k6 =>
                        (if ((gt z3.1 s6.2).2.2.2.2.2.1) = true then
                          let1 (IntKind.i64.wrap (s6.1 + 256)) fun n_1 =>
                          gd ((0 : Int) ≤ s6.2 ∧ s6.2 < ((z5.length : Nat) : Int)) <|
                          gd ((0 : Int) ≤ s6.2 ∧ s6.2 < ((z5.length : Nat) : Int)) <|
                          (dedup_Origin ((gt z5 s6.2).2.2.2.1) ((gt z5 s6.2).2.2.2.2.1) files).bind fun z7 =>
                          jn (fun (s9 : Bool) =>
                            (if (s9) = true then
                              some false
                            else
                              k6 n_1)) (fun k7 =>
                            (if (z7.2) = true then
                            gd ((0 : Int) ≤ s6.2 ∧ s6.2 < ((z5.length : Nat) : Int)) <|
                            k7 ((toStr z7.1) == ((gt z5 s6.2).2.2.2.2.2))
                            else
                            k7 false))
                        else
                          k6 s6.1))))
                else
                  k4 s6.1)) bigF (0, 0)))) (fun k2 =>
          (if (z4.2 != 0) = true then
          k2 true
          else
          k2 (((z5.length : Nat) : Int) != ((z6.length : Nat) : Int))))) (fun k1 =>
        loopK (fun (s2 : Int) rec1 =>
          (if (decide (s2 < ((p_l.length : Nat) : Int))) = true then
            gd ((0 : Int) ≤ s2 ∧ s2 < ((p_l.length : Nat) : Int)) <|
            (if (((((gt p_l s2).2.2.2.2.2).length : Nat) : Int) != 256) = true then
              some true
            else
              let1 (IntKind.i64.wrap (s2 + 1)) fun i_1 =>
              rec1 i_1)
          else
            k1 ())) bigF 0)))

/-- dormouse/dormouselaw21.DedupOther -/
def law21_DedupOther (b : List Int) (p_at : Int) (p_c : Int) (short : Bool) : Option (Bool) :=
  (law21_awake).bind fun z1 =>
  (if (!z1) = true then
    some false
  else
    gd ((0 : Int) ≤ 0 ∧ (0 : Int) ≤ ((b.length : Nat) : Int) ∧ ((b.length : Nat) : Int) ≤ ((b.length : Nat) : Int)) <|
    gd ((0 : Int) ≤ 0 ∧ (0 : Int) ≤ ((b.length : Nat) : Int) ∧ ((b.length : Nat) : Int) ≤ ((b.length : Nat) : Int)) <|
    (dedup_Split ([(256, 0, false, [102], 0, (cutL b 0 ((b.length : Nat) : Int)))] : List (Int × Int × Bool × (List UInt8) × Int × (List Int))) ([([102], (cutL b 0 ((b.length : Nat) : Int)))] : List ((List UInt8) × (List Int)))).bind fun z2 =>
    jn (fun (s1 : Bool) =>
      (if (s1) = true then
        some false
      else
        gd ((0 : Int) ≤ 0 ∧ (0 : Int) ≤ ((b.length : Nat) : Int) ∧ ((b.length : Nat) : Int) ≤ ((b.length : Nat) : Int)) <|
        gd ((([] : List Int).length + (cutL b 0 ((b.length : Nat) : Int)).length) * 1 ≤ 140737488355328) <|
        gd ((0 : Int) ≤ p_at ∧ p_at < (((([] : List Int) ++ (cutL b 0 ((b.length : Nat) : Int))).length : Nat) : Int)) <|
        jn (fun (s2 : List Int) =>
          (dedup_Join z2.1 ([] : List Int) ([([102], s2)] : List ((List UInt8) × (List Int)))).bind fun z3 =>
          (dedup_Join z2.1 ([] : List Int) ([] : List ((List UInt8) × (List Int)))).bind fun z4 =>
          jn (fun (s3 : Bool) =>
            (if (s3) = true then
              jn (fun (s4 : Bool) =>
                some s4) (fun k4 =>
                (if (z3.2 == 61) = true then
                (if (((z3.1.length : Nat) : Int) == 0) = true then
                k4 (z4.2 == 61)
                else
                k4 false)
                else
                k4 false))
            else
              jn (fun (s5 : Bool) =>
                some s5) (fun k5 =>
                (if (z3.2 == 0) = true then
                (if (((z3.1.length : Nat) : Int) == 1) = true then
                gd ((0 : Int) ≤ 0 ∧ 0 < ((z3.1.length : Nat) : Int)) <|
                (if ((toStr ((gt z3.1 0).2.2.2.2.2)) == (toStr s2)) = true then
                k5 (z4.2 == 61)
                else
                k5 false)
                else
                k5 false)
                else
                k5 false)))) (fun k3 =>
            (if (short) = true then
              k3 true
            else
              (dedup_Sum s2).bind fun z5 =>
              gd ((0 : Int) ≤ 0 ∧ (0 : Int) ≤ ((b.length : Nat) : Int) ∧ ((b.length : Nat) : Int) ≤ ((b.length : Nat) : Int)) <|
              (dedup_Sum (cutL b 0 ((b.length : Nat) : Int))).bind fun z6 =>
              k3 (z5 != z6)))) (fun k2 =>
          (if (short) = true then
            gd ((0 : Int) ≤ 0 ∧ (0 : Int) ≤ 255 ∧ 255 ≤ ((((([] : List Int) ++ (cutL b 0 ((b.length : Nat) : Int))).set (Int.toNat p_at) p_c).length : Nat) : Int)) <|
            k2 (cutL ((([] : List Int) ++ (cutL b 0 ((b.length : Nat) : Int))).set (Int.toNat p_at) p_c) 0 255)
          else
            k2 ((([] : List Int) ++ (cutL b 0 ((b.length : Nat) : Int))).set (Int.toNat p_at) p_c))))) (fun k1 =>
      (if (((z2.1.length : Nat) : Int) != 1) = true then
      k1 true
      else
      (if (((z2.2.length : Nat) : Int) != 0) = true then
      k1 true
      else
      gd ((0 : Int) ≤ 0 ∧ 0 < ((z2.1.length : Nat) : Int)) <|
      k1 ((gt z2.1 0).2.2.2.2.2.1)))))

/-- dormouse/octets.width -/
def octets_width (n : Int) : Option (Bool) :=
  jn (fun (s1 : Bool) =>
    some s1) (fun k1 =>
    (if (n == 1) = true then
    k1 true
    else
    (if (n == 2) = true then
    k1 true
    else
    (if (n == 4) = true then
    k1 true
    else
    k1 (n == 8)))))

/-- dormouse/octets.fits -/
def octets_fits (b : List Int) (p_at : Int) (n : Int) : Option (Int) :=
  (octets_width n).bind fun z1 =>
  (if (!z1) = true then
    some 1
  else
    (octets_has ((b.length : Nat) : Int) p_at (IntKind.u64.wrap n)).bind fun z2 =>
    (if (!z2) = true then
      some 10
    else
      some 0))

/-- dormouse/octets.Set -/
def octets_Set (b : List Int) (p_at : Int) (n : Int) (p_x : Int) : Option ((List Int) × Int) :=
  (octets_fits b p_at n).bind fun z1 =>
  (if (z1 != 0) = true then
    some ([], z1)
  else
    (slices_Clone_byte_byte b).bind fun z2 =>
    jn (fun (s1 : List Int) =>
      some (s1, 0)) (fun k1 =>
      loopK (fun (s2 : Int × (List Int)) rec1 =>
        (if (decide (s2.1 < n)) = true then
          gd ((0 : Int) ≤ (IntKind.u64.wrap (IntKind.i64.wrap (8 * s2.1)))) <|
          gd ((0 : Int) ≤ (IntKind.i64.wrap ((IntKind.i64.wrap p_at) + s2.1)) ∧ (IntKind.i64.wrap ((IntKind.i64.wrap p_at) + s2.1)) < ((s2.2.length : Nat) : Int)) <|
          rec1 (IntKind.i64.wrap (s2.1 + 1), (s2.2.set (Int.toNat (IntKind.i64.wrap ((IntKind.i64.wrap p_at) + s2.1))) (IntKind.u8.wrap (shr .u64 p_x (IntKind.u64.wrap (IntKind.i64.wrap (8 * s2.1)))))))
        else
          k1 s2.2)) bigF (0, z2)))

/-- dormouse/symbols.Put$1 -/
def symbols_Put_1 (p_x : Int) (n : Int) (q_2 : List Int) : Option (List Int) :=
  gd ((0 : Int) ≤ n ∧ n * ((1 : Nat) : Int) ≤ 281474976710656) <|
  (octets_Set (List.replicate (Int.toNat n) (0 : Int)) 0 n p_x).bind fun z1 =>
  gd ((q_2.length + z1.1.length) * 1 ≤ 140737488355328) <|
  some (q_2 ++ z1.1)

/-- dormouse/symbols.Put -/
def symbols_Put (p_s : Int × Int × Int × Int × Int × Int) : Option (List Int) :=
  (symbols_Put_1 (IntKind.u64.wrap p_s.1) 4 []).bind fun z1 =>
  (symbols_Put_1 (IntKind.u64.wrap p_s.2.1) 1 z1).bind fun z2 =>
  (symbols_Put_1 (IntKind.u64.wrap p_s.2.2.1) 1 z2).bind fun z3 =>
  (symbols_Put_1 (IntKind.u64.wrap p_s.2.2.2.1) 2 z3).bind fun z4 =>
  (symbols_Put_1 p_s.2.2.2.2.1 8 z4).bind fun z5 =>
  (symbols_Put_1 p_s.2.2.2.2.2 8 z5).bind fun z6 =>
  some z6

/-- dormouse/octets.Get -/
def octets_Get (b : List Int) (p_at : Int) (n : Int) : Option (Int × Int) :=
  (octets_fits b p_at n).bind fun z1 =>
  (if (z1 != 0) = true then
    some (0, z1)
  else
    jn (fun (s1 : Int) =>
      some (s1, 0)) (fun k1 =>
      loopK (fun (s2 : Int × Int) rec1 =>
        (if (decide (s2.2 < n)) = true then
          gd ((0 : Int) ≤ (IntKind.i64.wrap ((IntKind.i64.wrap p_at) + s2.2)) ∧ (IntKind.i64.wrap ((IntKind.i64.wrap p_at) + s2.2)) < ((b.length : Nat) : Int)) <|
          gd ((0 : Int) ≤ (IntKind.u64.wrap (IntKind.i64.wrap (8 * s2.2)))) <|
          let1 (bor .u64 s2.1 (shl .u64 (IntKind.u64.wrap (gt b (IntKind.i64.wrap ((IntKind.i64.wrap p_at) + s2.2)))) (IntKind.u64.wrap (IntKind.i64.wrap (8 * s2.2))))) fun x_1 =>
          rec1 (x_1, IntKind.i64.wrap (s2.2 + 1))
        else
          k1 s2.1)) bigF (0, 0)))

/-- dormouse/symbols.one$1 -/
def symbols_one_1 (place : Int) (n : Int) (q_2 : List Int) : Option (Int) :=
  (octets_Get q_2 place n).bind fun z1 =>
  some z1.1

/-- dormouse/symbols.one -/
def symbols_one (b : List Int) : Option (Int × Int × Int × Int × Int × Int) :=
  (symbols_one_1 0 4 b).bind fun z1 =>
  (symbols_one_1 4 1 b).bind fun z2 =>
  (symbols_one_1 5 1 b).bind fun z3 =>
  (symbols_one_1 6 2 b).bind fun z4 =>
  (symbols_one_1 8 8 b).bind fun z5 =>
  (symbols_one_1 16 8 b).bind fun z6 =>
  some (IntKind.u32.wrap z1, IntKind.u8.wrap z2, IntKind.u8.wrap z3, IntKind.u16.wrap z4, z5, z6)

/-- dormouse/symbols.Table -/
def symbols_Table (b : List Int) : Option ((List (Int × Int × Int × Int × Int × Int)) × Int) :=
  (if ((Int.tmod ((b.length : Nat) : Int) 24) != 0) = true then
    some ([], 10)
  else
    jn (fun (s1 : List (Int × Int × Int × Int × Int × Int)) =>
      some (s1, 0)) (fun k1 =>
      loopK (fun (s2 : (List Int) × (List (Int × Int × Int × Int × Int × Int))) rec1 =>
        (if (decide (((s2.1.length : Nat) : Int) > 0)) = true then
          gd (((0 : Int) ≤ 0 ∧ (0 : Int) ≤ 24 ∧ 24 ≤ ((s2.1.length : Nat) : Int)) ∧ (24 : Int) ≤ 24 ∧ 24 ≤ ((s2.1.length : Nat) : Int)) <|
          (symbols_one (cutL s2.1 0 24)).bind fun z1 =>
          gd ((s2.2.length + ([(z1.1, z1.2.1, z1.2.2.1, z1.2.2.2.1, z1.2.2.2.2.1, z1.2.2.2.2.2)] : List (Int × Int × Int × Int × Int × Int)).length) * 24 ≤ 140737488355328) <|
          gd ((0 : Int) ≤ 24 ∧ (24 : Int) ≤ ((s2.1.length : Nat) : Int) ∧ ((s2.1.length : Nat) : Int) ≤ ((s2.1.length : Nat) : Int)) <|
          rec1 ((cutL s2.1 24 ((s2.1.length : Nat) : Int)), (s2.2 ++ ([(z1.1, z1.2.1, z1.2.2.1, z1.2.2.2.1, z1.2.2.2.2.1, z1.2.2.2.2.2)] : List (Int × Int × Int × Int × Int × Int))))
        else
          k1 s2.2)) bigF (b, [])))

/-- dormouse/symbols.Bind -/
def symbols_Bind (p_s : Int × Int × Int × Int × Int × Int) : Option (Int) :=
  some (IntKind.i64.wrap (shr .u8 p_s.2.1 4))

/-- dormouse/symbols.Kind -/
def symbols_Kind (p_s : Int × Int × Int × Int × Int × Int) : Option (Int) :=
  some (IntKind.i64.wrap (band .u8 p_s.2.1 15))

/-- dormouse/symbols.Defined -/
def symbols_Defined (p_s : Int × Int × Int × Int × Int × Int) : Option (Bool) :=
  some (p_s.2.2.2.1 != 0)

/-- slices.Index[[]int,int] -/
def slices_Index_int_int (p_s : List Int) (p_v : Int) : Option (Int) :=
  jn (fun (_ : Unit) =>
    some (-1)) (fun k1 =>
    loopK (fun (s2 : Int) rec1 =>
      (if (decide (s2 < ((p_s.length : Nat) : Int))) = true then
        gd ((0 : Int) ≤ s2 ∧ s2 < ((p_s.length : Nat) : Int)) <|
        (if (p_v == (gt p_s s2)) = true then
          some s2
        else
          rec1 (IntKind.i64.wrap (s2 + 1)))
      else
        k1 ())) bigF 0)

/-- slices.Contains[[]int,int] -/
def slices_Contains_int_int (p_s : List Int) (p_v : Int) : Option (Bool) :=
  (slices_Index_int_int p_s p_v).bind fun z1 =>
  some (decide (z1 ≥ 0))

/-- dormouse/symbols.may -/
def symbols_may (p_s : Int × Int × Int × Int × Int × Int) : Option (Bool) :=
  jn (fun (s1 : Bool) =>
    jn (fun (s2 : Bool) =>
      some s2) (fun k2 =>
      (symbols_Bind (p_s.1, p_s.2.1, p_s.2.2.1, p_s.2.2.2.1, p_s.2.2.2.2.1, p_s.2.2.2.2.2)).bind fun z3 =>
      (if (decide (z3 ≤ 2)) = true then
      (symbols_Kind (p_s.1, p_s.2.1, p_s.2.2.1, p_s.2.2.2.1, p_s.2.2.2.2.1, p_s.2.2.2.2.2)).bind fun z4 =>
      (slices_Contains_int_int ([0, 1, 2, 6] : List Int) z4).bind fun z5 =>
      (if (z5) = true then
      (if (p_s.2.2.1 == 0) = true then
      (if (decide (p_s.2.2.2.1 ≤ 1)) = true then
      (if (p_s.1 != 0) = true then
      k2 s1
      else
      k2 false)
      else
      k2 false)
      else
      k2 false)
      else
      k2 false)
      else
      k2 false))) (fun k1 =>
    (symbols_Defined (p_s.1, p_s.2.1, p_s.2.2.1, p_s.2.2.2.1, p_s.2.2.2.2.1, p_s.2.2.2.2.2)).bind fun z1 =>
    (if (z1) = true then
    k1 true
    else
    (if (p_s.2.2.2.2.1 == 0) = true then
    (if (p_s.2.2.2.2.2 == 0) = true then
    (symbols_Bind (p_s.1, p_s.2.1, p_s.2.2.1, p_s.2.2.2.1, p_s.2.2.2.2.1, p_s.2.2.2.2.2)).bind fun z2 =>
    let1 (z2 != 0) fun free_1 =>
    k1 free_1
    else
    k1 false)
    else
    k1 false)))

/-- dormouse/symbols.Check -/
def symbols_Check (p_l : List (Int × Int × Int × Int × Int × Int)) : Option (Int) :=
  jn (fun (_ : Unit) =>
    some 0) (fun k1 =>
    loopK (fun (s2 : Int) rec1 =>
      (if (decide (s2 < ((p_l.length : Nat) : Int))) = true then
        gd ((0 : Int) ≤ s2 ∧ s2 < ((p_l.length : Nat) : Int)) <|
        jn (fun (s3 : Bool) =>
          (if (s3) = true then
            some 11
          else
            rec1 (IntKind.i64.wrap (s2 + 1)))) (fun k2 =>
          (if (s2 == 0) = true then
          (if (!((((gt p_l s2).1) == 0) && ((((gt p_l s2).2.1) == 0) && ((((gt p_l s2).2.2.1) == 0) && ((((gt p_l s2).2.2.2.1) == 0) && ((((gt p_l s2).2.2.2.2.1) == 0) && (((gt p_l s2).2.2.2.2.2) == 0))))))) = true then
          k2 true
          else
          (if (decide (s2 > 0)) = true then
          (symbols_may ((gt p_l s2).1, (gt p_l s2).2.1, (gt p_l s2).2.2.1, (gt p_l s2).2.2.2.1, (gt p_l s2).2.2.2.2.1, (gt p_l s2).2.2.2.2.2)).bind fun z1 =>
          k2 (!z1)
          else
          k2 false))
          else
          (if (decide (s2 > 0)) = true then
          (symbols_may ((gt p_l s2).1, (gt p_l s2).2.1, (gt p_l s2).2.2.1, (gt p_l s2).2.2.2.1, (gt p_l s2).2.2.2.2.1, (gt p_l s2).2.2.2.2.2)).bind fun z2 =>
          k2 (!z2)
          else
          k2 false)))
      else
        k1 ())) bigF 0)

/-- dormouse/dormouselaw06.awake -/
def law06_awake  : Option (Bool) :=
  (symbols_Put (5, 18, 0, 1, 7, 0)).bind fun z1 =>
  (symbols_Table z1).bind fun z2 =>
  jn (fun (s1 : Bool) =>
    some s1) (fun k1 =>
    (if (((z1.length : Nat) : Int) == 24) = true then
      gd ((0 : Int) ≤ 0 ∧ 0 < ((z1.length : Nat) : Int)) <|
      (if ((gt z1 0) == 5) = true then
        (if (z2.2 == 0) = true then
          (if (((z2.1.length : Nat) : Int) == 1) = true then
            gd ((0 : Int) ≤ 0 ∧ 0 < ((z2.1.length : Nat) : Int)) <|
            (if ((((gt z2.1 0).1) == 5) && ((((gt z2.1 0).2.1) == 18) && ((((gt z2.1 0).2.2.1) == 0) && ((((gt z2.1 0).2.2.2.1) == 1) && ((((gt z2.1 0).2.2.2.2.1) == 7) && (((gt z2.1 0).2.2.2.2.2) == 0)))))) = true then
              (symbols_Bind (5, 18, 0, 1, 7, 0)).bind fun z3 =>
              (if (z3 == 1) = true then
                (symbols_Kind (5, 18, 0, 1, 7, 0)).bind fun z4 =>
                (if (z4 == 2) = true then
                  (symbols_Defined (5, 18, 0, 1, 7, 0)).bind fun z5 =>
                  (if (z5) = true then
                    (symbols_Check ([(5, 18, 0, 1, 7, 0)] : List (Int × Int × Int × Int × Int × Int))).bind fun z6 =>
                    (if (z6 == 11) = true then
                      (symbols_Check ([(0, 0, 0, 0, 0, 0), (5, 18, 0, 1, 7, 0)] : List (Int × Int × Int × Int × Int × Int))).bind fun z7 =>
                      k1 (z7 == 0)
                    else
                      none)
                  else
                    none)
                else
                  none)
              else
                none)
            else
              none)
          else
            none)
        else
          none)
      else
        none)
    else
      none))

/-- dormouse/dormouseref06.number -/
def ref06_number (b : List Int) (p_x : Int) (n : Int) : Option (List Int) :=
  jn (fun (s1 : List Int) =>
    some s1) (fun k1 =>
    loopK (fun (s2 : (List Int) × Int × Int) rec1 =>
      (if (decide (s2.2.2 < n)) = true then
        gd ((s2.1.length + ([IntKind.u8.wrap (Int.tmod s2.2.1 256)] : List Int).length) * 1 ≤ 140737488355328) <|
        let1 (IntKind.u64.wrap (Int.tdiv s2.2.1 256)) fun x_1 =>
        let1 (IntKind.i64.wrap (s2.2.2 + 1)) fun i_1 =>
        rec1 ((s2.1 ++ ([IntKind.u8.wrap (Int.tmod s2.2.1 256)] : List Int)), x_1, i_1)
      else
        k1 s2.1)) bigF (b, p_x, 0))

/-- dormouse/dormouseref06.Put -/
def ref06_Put (p_s : Int × Int × Int × Int × Int × Int) : Option (List Int) :=
  (ref06_number ([] : List Int) (IntKind.u64.wrap p_s.1) 4).bind fun z1 =>
  gd ((z1.length + ([p_s.2.1, p_s.2.2.1] : List Int).length) * 1 ≤ 140737488355328) <|
  (ref06_number (z1 ++ ([p_s.2.1, p_s.2.2.1] : List Int)) (IntKind.u64.wrap p_s.2.2.2.1) 2).bind fun z2 =>
  (ref06_number z2 p_s.2.2.2.2.1 8).bind fun z3 =>
  (ref06_number z3 p_s.2.2.2.2.2 8).bind fun z4 =>
  some z4

/-- dormouse/dormouselaw06.SymbolsPuts -/
def law06_SymbolsPuts (p_s : Int × Int × Int × Int × Int × Int) : Option (Bool) :=
  (law06_awake).bind fun z1 =>
  (if (!z1) = true then
    some false
  else
    jn (fun (s1 : Bool) =>
      some s1) (fun k1 =>
      (symbols_Put (p_s.1, p_s.2.1, p_s.2.2.1, p_s.2.2.2.1, p_s.2.2.2.2.1, p_s.2.2.2.2.2)).bind fun z2 =>
      (ref06_Put (p_s.1, p_s.2.1, p_s.2.2.1, p_s.2.2.2.1, p_s.2.2.2.2.1, p_s.2.2.2.2.2)).bind fun z3 =>
      (if ((toStr z2) == (toStr z3)) = true then
        (symbols_Bind (p_s.1, p_s.2.1, p_s.2.2.1, p_s.2.2.2.1, p_s.2.2.2.2.1, p_s.2.2.2.2.2)).bind fun z4 =>
        (if (z4 == (IntKind.i64.wrap (Int.tdiv (IntKind.i64.wrap p_s.2.1) 16))) = true then
          (symbols_Kind (p_s.1, p_s.2.1, p_s.2.2.1, p_s.2.2.2.1, p_s.2.2.2.2.1, p_s.2.2.2.2.2)).bind fun z5 =>
          (if (z5 == (Int.tmod (IntKind.i64.wrap p_s.2.1) 16)) = true then
            (symbols_Defined (p_s.1, p_s.2.1, p_s.2.2.1, p_s.2.2.2.1, p_s.2.2.2.2.1, p_s.2.2.2.2.2)).bind fun z6 =>
            k1 (z6 == (decide (p_s.2.2.2.1 > 0)))
          else
            k1 false)
        else
          k1 false)
      else
        k1 false)))

/-- dormouse/dormouseref01.width -/
def ref01_width (n : Int) : Option (Bool) :=
  jn (fun (s1 : Bool) =>
    some s1) (fun k1 =>
    (if (n == 1) = true then
    k1 true
    else
    (if (n == 2) = true then
    k1 true
    else
    (if (n == 4) = true then
    k1 true
    else
    k1 (n == 8)))))

/-- dormouse/dormouseref01.Inside -/
def ref01_Inside (p_many : Int) (p_at : Int) (size : Int) : Option (Bool) :=
  (if (decide (p_at > (IntKind.u64.wrap p_many))) = true then
    some false
  else
    some (decide (size ≤ (IntKind.u64.wrap ((IntKind.u64.wrap p_many) - p_at)))))

/-- dormouse/dormouseref01.Get -/
def ref01_Get (b : List Int) (p_at : Int) (n : Int) : Option (Int × Int) :=
  (ref01_width n).bind fun z1 =>
  (if (!z1) = true then
    some (0, 1)
  else
    (ref01_Inside ((b.length : Nat) : Int) p_at (IntKind.u64.wrap n)).bind fun z2 =>
    (if (!z2) = true then
      some (0, 10)
    else
      let1 (IntKind.i64.wrap (n - 1)) fun i_1 =>
      jn (fun (s1 : Int) =>
        some (s1, 0)) (fun k1 =>
        loopK (fun (s2 : Int × Int) rec1 =>
          (if (decide (s2.2 ≥ 0)) = true then
            gd ((0 : Int) ≤ (IntKind.i64.wrap ((IntKind.i64.wrap p_at) + s2.2)) ∧ (IntKind.i64.wrap ((IntKind.i64.wrap p_at) + s2.2)) < ((b.length : Nat) : Int)) <|
            let1 (IntKind.u64.wrap ((IntKind.u64.wrap (s2.1 * 256)) + (IntKind.u64.wrap (gt b (IntKind.i64.wrap ((IntKind.i64.wrap p_at) + s2.2)))))) fun x_1 =>
            let1 (IntKind.i64.wrap (s2.2 - 1)) fun i_2 =>
            rec1 (x_1, i_2)
          else
            k1 s2.1)) bigF (0, i_1))))

/-- dormouse/dormouseref06.Table -/
def ref06_Table (b : List Int) : Option ((List (Int × Int × Int × Int × Int × Int)) × Int) :=
  (if ((Int.tmod ((b.length : Nat) : Int) 24) != 0) = true then
    some ([], 10)
  else
    jn (fun (s1 : List (Int × Int × Int × Int × Int × Int)) =>
      some (s1, 0)) (fun k1 =>
      loopK (fun (s2 : (List (Int × Int × Int × Int × Int × Int)) × Int) rec1 =>
        (if (decide (s2.2 < ((b.length : Nat) : Int))) = true then
          (ref01_Get b (IntKind.u64.wrap s2.2) 4).bind fun z1 =>
          (ref01_Get b (IntKind.u64.wrap (IntKind.i64.wrap (s2.2 + 6))) 2).bind fun z2 =>
          (ref01_Get b (IntKind.u64.wrap (IntKind.i64.wrap (s2.2 + 8))) 8).bind fun z3 =>
          (ref01_Get b (IntKind.u64.wrap (IntKind.i64.wrap (s2.2 + 16))) 8).bind fun z4 =>
          gd ((0 : Int) ≤ (IntKind.i64.wrap (s2.2 + 4)) ∧ (IntKind.i64.wrap (s2.2 + 4)) < ((b.length : Nat) : Int)) <|
          gd ((0 : Int) ≤ (IntKind.i64.wrap (s2.2 + 5)) ∧ (IntKind.i64.wrap (s2.2 + 5)) < ((b.length : Nat) : Int)) <|
          gd ((s2.1.length + ([(IntKind.u32.wrap z1.1, gt b (IntKind.i64.wrap (s2.2 + 4)), gt b (IntKind.i64.wrap (s2.2 + 5)), IntKind.u16.wrap z2.1, z3.1, z4.1)] : List (Int × Int × Int × Int × Int × Int)).length) * 24 ≤ 140737488355328) <|
          let1 (IntKind.i64.wrap (s2.2 + 24)) fun i_1 =>
          rec1 ((s2.1 ++ ([(IntKind.u32.wrap z1.1, gt b (IntKind.i64.wrap (s2.2 + 4)), gt b (IntKind.i64.wrap (s2.2 + 5)), IntKind.u16.wrap z2.1, z3.1, z4.1)] : List (Int × Int × Int × Int × Int × Int))), i_1)
        else
          k1 s2.1)) bigF ([], 0)))

/-- dormouse/dormouselaw06.SymbolsTables -/
def law06_SymbolsTables (b : List Int) : Option (Bool) :=
  (law06_awake).bind fun z1 =>
  (if (!z1) = true then
    some false
  else
    (if (decide (((b.length : Nat) : Int) > 4000)) = true then
      some true
    else
      (symbols_Table b).bind fun z2 =>
      (ref06_Table b).bind fun z3 =>
      jn (fun (s1 : Bool) =>
        (if (s1) = true then
          some false
        else
          jn (fun (_ : Unit) =>
            some true) (fun k2 =>
            loopK (fun (s3 : Int) rec1 =>
              (if (decide (s3 < ((z2.1.length : Nat) : Int))) = true then
                gd ((0 : Int) ≤ s3 ∧ s3 < ((z2.1.length : Nat) : Int)) <|
                gd ((0 : Int) ≤ s3 ∧ s3 < ((z3.1.length : Nat) : Int)) <|
                (if (!((((gt z2.1 s3).1) == ((gt z3.1 s3).1)) && ((((gt z2.1 s3).2.1) == ((gt z3.1 s3).2.1)) && ((((gt z2.1 s3).2.2.1) == ((gt z3.1 s3).2.2.1)) && ((((gt z2.1 s3).2.2.2.1) == ((gt z3.1 s3).2.2.2.1)) && ((((gt z2.1 s3).2.2.2.2.1) == ((gt z3.1 s3).2.2.2.2.1)) && (((gt z2.1 s3).2.2.2.2.2) == ((gt z3.1 s3).2.2.2.2.2)))))))) = true then
                  some false
                else
                  let1 (IntKind.i64.wrap (s3 + 1)) fun i_1 =>
                  rec1 i_1)
              else
                k2 ())) bigF 0))) (fun k1 =>
        (if (z2.2 != z3.2) = true then
        k1 true
        else
        k1 (((z2.1.length : Nat) : Int) != ((z3.1.length : Nat) : Int))))))

/-- dormouse/dormouseref06.Check -/
def ref06_Check (p_l : List (Int × Int × Int × Int × Int × Int)) : Option (Int) :=
  jn (fun (_ : Unit) =>
    some 0) (fun k1 =>
    loopK (fun (s2 : Int) rec1 =>
      (if (decide (s2 < ((p_l.length : Nat) : Int))) = true then
        jn (fun (_ : Unit) =>
          let1 (IntKind.i64.wrap (s2 + 1)) fun i_1 =>
          rec1 i_1) (fun k2 =>
          gd ((0 : Int) ≤ s2 ∧ s2 < ((p_l.length : Nat) : Int)) <|
          (if (s2 == 0) = true then
            jn (fun (s4 : Bool) =>
              (if (s4) = true then
                some 11
              else
                k2 ())) (fun k3 =>
              (if (((gt p_l s2).1) != 0) = true then
              k3 true
              else
              (if (((gt p_l s2).2.1) != 0) = true then
              k3 true
              else
              (if (((gt p_l s2).2.2.1) != 0) = true then
              k3 true
              else
              (if (((gt p_l s2).2.2.2.1) != 0) = true then
              k3 true
              else
              (if (((gt p_l s2).2.2.2.2.1) != 0) = true then
              k3 true
              else
              k3 (((gt p_l s2).2.2.2.2.2) != 0)))))))
          else
            let1 (IntKind.u8.wrap (Int.tdiv ((gt p_l s2).2.1) 16)) fun bind_1 =>
            let1 (Int.tmod ((gt p_l s2).2.1) 16) fun kind_1 =>
            jn (fun (s5 : Bool) =>
              (if (s5) = true then
                some 11
              else
                jn (fun (s6 : Bool) =>
                  (if (s6) = true then
                    some 11
                  else
                    k2 ())) (fun k5 =>
                  (if (((gt p_l s2).2.2.2.1) == 0) = true then
                  (if (((gt p_l s2).2.2.2.2.1) != 0) = true then
                  k5 true
                  else
                  (if (((gt p_l s2).2.2.2.2.2) != 0) = true then
                  k5 true
                  else
                  k5 (bind_1 == 0)))
                  else
                  k5 false)))) (fun k4 =>
              (if (decide (bind_1 > 2)) = true then
              k4 true
              else
              (if (kind_1 != 0) = true then
              (if (kind_1 != 1) = true then
              (if (kind_1 != 2) = true then
              (if (kind_1 != 6) = true then
              k4 true
              else
              (if (((gt p_l s2).2.2.1) != 0) = true then
              k4 true
              else
              (if (decide (((gt p_l s2).2.2.2.1) > 1)) = true then
              k4 true
              else
              k4 (((gt p_l s2).1) == 0))))
              else
              (if (((gt p_l s2).2.2.1) != 0) = true then
              k4 true
              else
              (if (decide (((gt p_l s2).2.2.2.1) > 1)) = true then
              k4 true
              else
              k4 (((gt p_l s2).1) == 0))))
              else
              (if (((gt p_l s2).2.2.1) != 0) = true then
              k4 true
              else
              (if (decide (((gt p_l s2).2.2.2.1) > 1)) = true then
              k4 true
              else
              k4 (((gt p_l s2).1) == 0))))
              else
              (if (((gt p_l s2).2.2.1) != 0) = true then
              k4 true
              else
              (if (decide (((gt p_l s2).2.2.2.1) > 1)) = true then
              k4 true
              else
              k4 (((gt p_l s2).1) == 0))))))))
      else
        k1 ())) bigF 0)

/-- dormouse/dormouselaw06.SymbolsChecks -/
def law06_SymbolsChecks (p_l : List (Int × Int × Int × Int × Int × Int)) : Option (Bool) :=
  (law06_awake).bind fun z1 =>
  (if (!z1) = true then
    some false
  else
    (if (decide (((p_l.length : Nat) : Int) > 200)) = true then
      some true
    else
      (symbols_Check p_l).bind fun z2 =>
      (ref06_Check p_l).bind fun z3 =>
      some (z2 == z3)))

/-- dormouse/dormouselaw06.SymbolsBack -/
def law06_SymbolsBack (p_l : List (Int × Int × Int × Int × Int × Int)) : Option (Bool) :=
  (law06_awake).bind fun z1 =>
  (if (!z1) = true then
    some false
  else
    (if (decide (((p_l.length : Nat) : Int) > 200)) = true then
      some true
    else
      jn (fun (s1 : List Int) =>
        (symbols_Table s1).bind fun z3 =>
        jn (fun (s3 : Bool) =>
          (if (s3) = true then
            some false
          else
            jn (fun (_ : Unit) =>
              gd ((s1.length + ([0] : List Int).length) * 1 ≤ 140737488355328) <|
              (symbols_Table (s1 ++ ([0] : List Int))).bind fun z4 =>
              some (z4.2 == 10)) (fun k3 =>
              loopK (fun (s5 : Int) rec2 =>
                (if (decide (s5 < ((p_l.length : Nat) : Int))) = true then
                  gd ((0 : Int) ≤ s5 ∧ s5 < ((z3.1.length : Nat) : Int)) <|
                  gd ((0 : Int) ≤ s5 ∧ s5 < ((p_l.length : Nat) : Int)) <|
                  (if (!((((gt z3.1 s5).1) == ((gt p_l s5).1)) && ((((gt z3.1 s5).2.1) == ((gt p_l s5).2.1)) && ((((gt z3.1 s5).2.2.1) == ((gt p_l s5).2.2.1)) && ((((gt z3.1 s5).2.2.2.1) == ((gt p_l s5).2.2.2.1)) && ((((gt z3.1 s5).2.2.2.2.1) == ((gt p_l s5).2.2.2.2.1)) && (((gt z3.1 s5).2.2.2.2.2) == ((gt p_l s5).2.2.2.2.2)))))))) = true then
                    some false
                  else
                    let1 (IntKind.i64.wrap (s5 + 1)) fun i_2 =>
                    rec2 i_2)
                else
                  k3 ())) bigF 0))) (fun k2 =>
          (if (z3.2 != 0) = true then
          k2 true
          else
          k2 (((z3.1.length : Nat) : Int) != ((p_l.length : Nat) : Int))))) (fun k1 =>
        loopK (fun (s2 : (List Int) × Int) rec1 =>
          (if (decide (s2.2 < ((p_l.length : Nat) : Int))) = true then
            gd ((0 : Int) ≤ s2.2 ∧ s2.2 < ((p_l.length : Nat) : Int)) <|
            (symbols_Put (gt p_l s2.2)).bind fun z2 =>
            gd ((s2.1.length + z2.length) * 1 ≤ 140737488355328) <|
            let1 (IntKind.i64.wrap (s2.2 + 1)) fun i_1 =>
            rec1 ((s2.1 ++ z2), i_1)
          else
            k1 s2.1)) bigF ([], 0))))

/-- dormouse/dormouselaw06.SymbolsOne -/
def law06_SymbolsOne (p_s : Int × Int × Int × Int × Int × Int) : Option (Bool) :=
  (law06_awake).bind fun z1 =>
  (if (!z1) = true then
    some false
  else
    jn (fun (s1 : Bool) =>
      some s1) (fun k1 =>
      (symbols_Check ([(0, 0, 0, 0, 0, 0), (p_s.1, p_s.2.1, p_s.2.2.1, p_s.2.2.2.1, p_s.2.2.2.2.1, p_s.2.2.2.2.2)] : List (Int × Int × Int × Int × Int × Int))).bind fun z2 =>
      (ref06_Check ([(0, 0, 0, 0, 0, 0), (p_s.1, p_s.2.1, p_s.2.2.1, p_s.2.2.2.1, p_s.2.2.2.2.1, p_s.2.2.2.2.2)] : List (Int × Int × Int × Int × Int × Int))).bind fun z3 =>
      (if (z2 == z3) = true then
      gd ((0 : Int) ≤ 1 ∧ (1 : Int) ≤ ((([(0, 0, 0, 0, 0, 0), (p_s.1, p_s.2.1, p_s.2.2.1, p_s.2.2.2.1, p_s.2.2.2.2.1, p_s.2.2.2.2.2)] : List (Int × Int × Int × Int × Int × Int)).length : Nat) : Int) ∧ ((([(0, 0, 0, 0, 0, 0), (p_s.1, p_s.2.1, p_s.2.2.1, p_s.2.2.2.1, p_s.2.2.2.2.1, p_s.2.2.2.2.2)] : List (Int × Int × Int × Int × Int × Int)).length : Nat) : Int) ≤ ((([(0, 0, 0, 0, 0, 0), (p_s.1, p_s.2.1, p_s.2.2.1, p_s.2.2.2.1, p_s.2.2.2.2.1, p_s.2.2.2.2.2)] : List (Int × Int × Int × Int × Int × Int)).length : Nat) : Int)) <|
      (symbols_Check (cutL ([(0, 0, 0, 0, 0, 0), (p_s.1, p_s.2.1, p_s.2.2.1, p_s.2.2.2.1, p_s.2.2.2.2.1, p_s.2.2.2.2.2)] : List (Int × Int × Int × Int × Int × Int)) 1 ((([(0, 0, 0, 0, 0, 0), (p_s.1, p_s.2.1, p_s.2.2.1, p_s.2.2.2.1, p_s.2.2.2.2.1, p_s.2.2.2.2.2)] : List (Int × Int × Int × Int × Int × Int)).length : Nat) : Int))).bind fun z4 =>
      gd ((0 : Int) ≤ 1 ∧ (1 : Int) ≤ ((([(0, 0, 0, 0, 0, 0), (p_s.1, p_s.2.1, p_s.2.2.1, p_s.2.2.2.1, p_s.2.2.2.2.1, p_s.2.2.2.2.2)] : List (Int × Int × Int × Int × Int × Int)).length : Nat) : Int) ∧ ((([(0, 0, 0, 0, 0, 0), (p_s.1, p_s.2.1, p_s.2.2.1, p_s.2.2.2.1, p_s.2.2.2.2.1, p_s.2.2.2.2.2)] : List (Int × Int × Int × Int × Int × Int)).length : Nat) : Int) ≤ ((([(0, 0, 0, 0, 0, 0), (p_s.1, p_s.2.1, p_s.2.2.1, p_s.2.2.2.1, p_s.2.2.2.2.1, p_s.2.2.2.2.2)] : List (Int × Int × Int × Int × Int × Int)).length : Nat) : Int)) <|
      (ref06_Check (cutL ([(0, 0, 0, 0, 0, 0), (p_s.1, p_s.2.1, p_s.2.2.1, p_s.2.2.2.1, p_s.2.2.2.2.1, p_s.2.2.2.2.2)] : List (Int × Int × Int × Int × Int × Int)) 1 ((([(0, 0, 0, 0, 0, 0), (p_s.1, p_s.2.1, p_s.2.2.1, p_s.2.2.2.1, p_s.2.2.2.2.1, p_s.2.2.2.2.2)] : List (Int × Int × Int × Int × Int × Int)).length : Nat) : Int))).bind fun z5 =>
      k1 (z4 == z5)
      else
      k1 false)))

end Dm
