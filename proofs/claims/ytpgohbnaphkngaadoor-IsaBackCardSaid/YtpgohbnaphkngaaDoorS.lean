/-
  The shallow forms of the Go functions: plain functions in the Option monad, printed by a program of this repo. No condition.
-/
import Derived.Test.YtpgohbnaphkngaaDoorPreT
namespace Dm
open Go

def gx0 : List (Int × List UInt8 × List UInt8) := [(1, [110, 111, 112], []), (2, [109, 111, 118], [97, 98]), (3, [97, 100, 100], [97, 98, 99]), (4, [115, 117, 98], [97, 98, 99]), (5, [109, 117, 108], [97, 98, 99]), (6, [100, 105, 118], [97, 98, 99]), (7, [114, 101, 109], [97, 98, 99]), (8, [97, 110, 100], [97, 98, 99]), (9, [111, 114], [97, 98, 99]), (10, [120, 111, 114], [97, 98, 99]), (11, [115, 104, 108], [97, 98, 99]), (12, [115, 104, 114], [97, 98, 99]), (13, [115, 97, 114], [97, 98, 99]), (14, [115, 108, 116], [97, 98, 99]), (15, [115, 108, 116, 117], [97, 98, 99]), (16, [97, 100, 100, 105], [97, 98, 105]), (17, [109, 111, 118, 105], [97, 105]), (18, [109, 111, 118, 104, 105], [97, 105]), (20, [108, 100, 49], [97, 98, 105]), (21, [108, 100, 50], [97, 98, 105]), (22, [108, 100, 52], [97, 98, 105]), (23, [108, 100, 56], [97, 98, 105]), (24, [115, 116, 49], [97, 98, 105]), (25, [115, 116, 50], [97, 98, 105]), (26, [115, 116, 52], [97, 98, 105]), (27, [115, 116, 56], [97, 98, 105]), (30, [98, 101, 113], [97, 98, 105]), (31, [98, 110, 101], [97, 98, 105]), (32, [98, 108, 116], [97, 98, 105]), (33, [98, 108, 116, 117], [97, 98, 105]), (34, [106, 109, 112], [105]), (35, [99, 97, 108, 108], [97, 105]), (36, [106, 114], [98]), (37, [99, 97, 108, 108, 114], [97, 98]), (38, [108, 101, 97], [97, 105]), (39, [116, 108, 115], [97, 105]), (40, [115, 121, 115], []), (41, [116, 114, 97, 112], [105])]

/-- dormouse/isa.may$1 -/
def isa_may_1 (o : Int × (List UInt8) × (List UInt8)) (q_1 : Int × Int × Int × Int × Int) : Option (Bool) :=
  some (o.1 == q_1.1)

/-- slices.IndexFunc[[]dormouse/isa.op,dormouse/isa.op] -/
def slices_IndexFunc_isa_op_isa_op_may_1 (p_s : List (Int × (List UInt8) × (List UInt8))) (q_c0 : Int × Int × Int × Int × Int) : Option (Int) :=
  jn (fun (_ : Unit) =>
    some (-1)) (fun k1 =>
    loopK (fun (s2 : Int) rec1 =>
      (if (decide (s2 < ((p_s.length : Nat) : Int))) = true then
        gd ((0 : Int) ≤ s2 ∧ s2 < ((p_s.length : Nat) : Int)) <|
        (isa_may_1 (gt p_s s2) (q_c0.1, q_c0.2.1, q_c0.2.2.1, q_c0.2.2.2.1, q_c0.2.2.2.2)).bind fun z1 =>
        (if (z1) = true then
          some s2
        else
          rec1 (IntKind.i64.wrap (s2 + 1)))
      else
        k1 ())) bigF 0)

/-- dormouse/isa.find -/
def isa_find_may_1 (q_c0 : Int × Int × Int × Int × Int) : Option ((Int × (List UInt8) × (List UInt8)) × Bool) :=
  (slices_IndexFunc_isa_op_isa_op_may_1 gx0 (q_c0.1, q_c0.2.1, q_c0.2.2.1, q_c0.2.2.2.1, q_c0.2.2.2.2)).bind fun z1 =>
  (if (decide (z1 < 0)) = true then
    some ((0, [], []), false)
  else
    gd ((0 : Int) ≤ z1 ∧ z1 < ((gx0.length : Nat) : Int)) <|
    some (((gt gx0 z1).1, (gt gx0 z1).2.1, (gt gx0 z1).2.2), true))

def strings_Contains (s sub : List UInt8) : Option Bool := match sub with
  | [c] => some (hasB s c)
  | _ => none

/-- dormouse/isa.may -/
def isa_may (i : Int × Int × Int × Int × Int) : Option ((Int × (List UInt8) × (List UInt8)) × Bool) :=
  (isa_find_may_1 (i.1, i.2.1, i.2.2.1, i.2.2.2.1, i.2.2.2.2)).bind fun z1 =>
  (if (!z1.2) = true then
    some ((0, [], []), false)
  else
    jn (fun (_ : Unit) =>
      some ((z1.1.1, z1.1.2.1, z1.1.2.2), true)) (fun k1 =>
      loopK (fun (s2 : Int) rec1 =>
        (if (decide (s2 < 4)) = true then
          gd ((0 : Int) ≤ s2 ∧ s2 < ((4 : Nat) : Int)) <|
          let1 (gt ([i.2.1, i.2.2.1, i.2.2.2.1, IntKind.i64.wrap i.2.2.2.2] : List Int) s2) fun x_1 =>
          gd ((0 : Int) ≤ s2 ∧ (s2 : Int) ≤ (IntKind.i64.wrap (s2 + 1)) ∧ (IntKind.i64.wrap (s2 + 1)) ≤ ((([97, 98, 99, 105] : List UInt8).length : Nat) : Int)) <|
          (strings_Contains z1.1.2.2 (cutL ([97, 98, 99, 105] : List UInt8) s2 (IntKind.i64.wrap (s2 + 1)))).bind fun z2 =>
          jn (fun (s3 : Bool) =>
            (if (s3) = true then
              some ((0, [], []), false)
            else
              rec1 (IntKind.i64.wrap (s2 + 1)))) (fun k2 =>
            (if (!z2) = true then
            (if (x_1 != 0) = true then
            k2 true
            else
            (if (decide (s2 < 3)) = true then
            (if (decide (x_1 < 0)) = true then
            k2 true
            else
            k2 (decide (x_1 > 31)))
            else
            k2 false))
            else
            (if (decide (s2 < 3)) = true then
            (if (decide (x_1 < 0)) = true then
            k2 true
            else
            k2 (decide (x_1 > 31)))
            else
            k2 false)))
        else
          k1 ())) bigF 0))

/-- dormouse/isa.Encode -/
def isa_Encode (i : Int × Int × Int × Int × Int) : Option (Int × Int) :=
  (isa_may (i.1, i.2.1, i.2.2.1, i.2.2.2.1, i.2.2.2.2)).bind fun z1 =>
  (if (!z1.2) = true then
    some (0, 42)
  else
    some (bor .u64 (bor .u64 (bor .u64 (bor .u64 (IntKind.u64.wrap i.1) (shl .u64 (IntKind.u64.wrap i.2.1) 8)) (shl .u64 (IntKind.u64.wrap i.2.2.1) 13)) (shl .u64 (IntKind.u64.wrap i.2.2.2.1) 18)) (shl .u64 (IntKind.u64.wrap (IntKind.u32.wrap i.2.2.2.2)) 32), 0))

/-- dormouse/isa.Decode -/
def isa_Decode (p_w : Int) : Option ((Int × Int × Int × Int × Int) × Int) :=
  (isa_Encode (IntKind.i64.wrap (band .u64 p_w 255), IntKind.i64.wrap (band .u64 (shr .u64 p_w 8) 31), IntKind.i64.wrap (band .u64 (shr .u64 p_w 13) 31), IntKind.i64.wrap (band .u64 (shr .u64 p_w 18) 31), IntKind.i32.wrap (shr .u64 p_w 32))).bind fun z1 =>
  jn (fun (s1 : Bool) =>
    (if (s1) = true then
      some ((0, 0, 0, 0, 0), 42)
    else
      some ((IntKind.i64.wrap (band .u64 p_w 255), IntKind.i64.wrap (band .u64 (shr .u64 p_w 8) 31), IntKind.i64.wrap (band .u64 (shr .u64 p_w 13) 31), IntKind.i64.wrap (band .u64 (shr .u64 p_w 18) 31), IntKind.i32.wrap (shr .u64 p_w 32)), 0))) (fun k1 =>
    (if (z1.2 != 0) = true then
    k1 true
    else
    k1 (z1.1 != p_w)))

def strconv_Itoa (i : Int) : Option (List UInt8) := gd ((-9223372036854775808 ≤ i ∧ i ≤ 9223372036854775807)) <| some (itoaD i)

/-- dormouse/isa.Text -/
def isa_Text (i : Int × Int × Int × Int × Int) : Option ((List UInt8) × Int) :=
  (isa_may (i.1, i.2.1, i.2.2.1, i.2.2.2.1, i.2.2.2.2)).bind fun z1 =>
  (if (!z1.2) = true then
    some ([], 42)
  else
    jn (fun (s1 : List UInt8) =>
      some (s1, 0)) (fun k1 =>
      loopK (fun (s2 : (List UInt8) × Int) rec1 =>
        (if (decide (s2.2 < 4)) = true then
          jn (fun (s3 : List UInt8) =>
            rec1 (s3, IntKind.i64.wrap (s2.2 + 1))) (fun k2 =>
            gd ((0 : Int) ≤ s2.2 ∧ s2.2 < ((4 : Nat) : Int)) <|
            let1 (gt ([i.2.1, i.2.2.1, i.2.2.2.1, IntKind.i64.wrap i.2.2.2.2] : List Int) s2.2) fun x_1 =>
            gd ((0 : Int) ≤ s2.2 ∧ (s2.2 : Int) ≤ (IntKind.i64.wrap (s2.2 + 1)) ∧ (IntKind.i64.wrap (s2.2 + 1)) ≤ ((([97, 98, 99, 105] : List UInt8).length : Nat) : Int)) <|
            (strings_Contains z1.1.2.2 (cutL ([97, 98, 99, 105] : List UInt8) s2.2 (IntKind.i64.wrap (s2.2 + 1)))).bind fun z2 =>
            jn (fun (s4 : List UInt8) =>
              k2 s4) (fun k3 =>
              (if (z2) = true then
                (strconv_Itoa x_1).bind fun z3 =>
                gd (([32] : List UInt8).length + z3.length ≤ 9223372036854775807) <|
                gd (s2.1.length + (([32] : List UInt8) ++ z3).length ≤ 9223372036854775807) <|
                let1 (s2.1 ++ (([32] : List UInt8) ++ z3)) fun out_1 =>
                k3 out_1
              else
                k3 s2.1)))
        else
          k1 s2.1)) bigF (z1.1.2.1, 0)))

def strings_FieldsFunc_Parse_1 (s : List UInt8) : Option (List (List UInt8)) := gd (s.length ≤ 4294967296) <| some (wordsB 32 [] s)

/-- dormouse/isa.Parse$2 -/
def isa_Parse_2 (o : Int × (List UInt8) × (List UInt8)) (q_1 : List (List UInt8)) : Option (Bool) :=
  gd ((0 : Int) ≤ 0 ∧ 0 < ((q_1.length : Nat) : Int)) <|
  some (o.2.1 == (gt q_1 0))

/-- slices.IndexFunc[[]dormouse/isa.op,dormouse/isa.op] -/
def slices_IndexFunc_isa_op_isa_op_Parse_2 (p_s : List (Int × (List UInt8) × (List UInt8))) (q_c0 : List (List UInt8)) : Option (Int) :=
  jn (fun (_ : Unit) =>
    some (-1)) (fun k1 =>
    loopK (fun (s2 : Int) rec1 =>
      (if (decide (s2 < ((p_s.length : Nat) : Int))) = true then
        gd ((0 : Int) ≤ s2 ∧ s2 < ((p_s.length : Nat) : Int)) <|
        (isa_Parse_2 (gt p_s s2) q_c0).bind fun z1 =>
        (if (z1) = true then
          some s2
        else
          rec1 (IntKind.i64.wrap (s2 + 1)))
      else
        k1 ())) bigF 0)

/-- dormouse/isa.find -/
def isa_find_Parse_2 (q_c0 : List (List UInt8)) : Option ((Int × (List UInt8) × (List UInt8)) × Bool) :=
  (slices_IndexFunc_isa_op_isa_op_Parse_2 gx0 q_c0).bind fun z1 =>
  (if (decide (z1 < 0)) = true then
    some ((0, [], []), false)
  else
    gd ((0 : Int) ≤ z1 ∧ z1 < ((gx0.length : Nat) : Int)) <|
    some (((gt gx0 z1).1, (gt gx0 z1).2.1, (gt gx0 z1).2.2), true))

def strings_TrimPrefix (s p : List UInt8) : Option (List UInt8) := some (cutPre s p)

def strconv_FormatInt (i : Int) (base : Int) : Option (List UInt8) := gd (base = 10 ∧ (-9223372036854775808 ≤ i ∧ i ≤ 9223372036854775807)) <| some (itoaD i)

/-- dormouse/isa.number -/
def isa_number (p_s : List UInt8) : Option (Int × Bool) :=
  (strings_TrimPrefix p_s [45]).bind fun z1 =>
  gd (z1.length ≤ 140737488355328) <|
  jn (fun (s1 : Int) =>
    jn (fun (s4 : Int) =>
      jn (fun (s5 : Int × Bool) =>
        some (s5.1, s5.2)) (fun k4 =>
        (strconv_FormatInt s4 10).bind fun z2 =>
        (if (z2 == p_s) = true then
        (if (decide (s4 ≥ (-2147483648))) = true then
        k4 (s4, decide (s4 < 2147483648))
        else
        k4 (s4, false))
        else
        k4 (s4, false)))) (fun k3 =>
      (if (!(p_s == z1)) = true then
        let1 (IntKind.i64.wrap (0 - s1)) fun n_2 =>
        k3 n_2
      else
        k3 s1))) (fun k1 =>
    loopK (fun (s2 : Int × Int) rec1 =>
      (if (decide (s2.2 < (((ofStr z1).length : Nat) : Int))) = true then
        gd ((0 : Int) ≤ s2.2 ∧ s2.2 < (((ofStr z1).length : Nat) : Int)) <|
        let1 (gt (ofStr z1) s2.2) fun c_1 =>
        jn (fun (s3 : Bool) =>
          (if (s3) = true then
            some (0, false)
          else
            let1 (imin (IntKind.i64.wrap ((IntKind.i64.wrap (10 * s2.1)) + (IntKind.i64.wrap (IntKind.u8.wrap (c_1 - 48))))) 1099511627776) fun n_1 =>
            rec1 (n_1, IntKind.i64.wrap (s2.2 + 1)))) (fun k2 =>
          (if (decide (c_1 < 48)) = true then
          k2 true
          else
          k2 (decide (c_1 > 57))))
      else
        k1 s2.1)) bigF (0, 0))

/-- dormouse/isa.Parse -/
def isa_Parse (p_s : List UInt8) : Option ((Int × Int × Int × Int × Int) × Int) :=
  (strings_FieldsFunc_Parse_1 p_s).bind fun z1 =>
  (if (((z1.length : Nat) : Int) == 0) = true then
    some ((0, 0, 0, 0, 0), 11)
  else
    (isa_find_Parse_2 z1).bind fun z2 =>
    jn (fun (s1 : Bool) =>
      (if (s1) = true then
        some ((0, 0, 0, 0, 0), 11)
      else
        gd (z2.1.2.2.length ≤ 140737488355328) <|
        jn (fun (s2 : Int × Int × Int × Int × Int) =>
          (isa_may (s2.1, s2.2.1, s2.2.2.1, s2.2.2.2.1, s2.2.2.2.2)).bind fun z4 =>
          (if (!z4.2) = true then
            some ((0, 0, 0, 0, 0), 11)
          else
            some ((s2.1, s2.2.1, s2.2.2.1, s2.2.2.2.1, s2.2.2.2.2), 0))) (fun k2 =>
          loopK (fun (s3 : Int × (Int × Int × Int × Int × Int)) rec1 =>
            (if (decide (s3.1 < (((ofStr z2.1.2.2).length : Nat) : Int))) = true then
              jn (fun (s4 : Int × Int × Int × Int × Int) =>
                rec1 (IntKind.i64.wrap (s3.1 + 1), (s4.1, s4.2.1, s4.2.2.1, s4.2.2.2.1, s4.2.2.2.2))) (fun k3 =>
                gd ((0 : Int) ≤ s3.1 ∧ s3.1 < (((ofStr z2.1.2.2).length : Nat) : Int)) <|
                let1 (gt (ofStr z2.1.2.2) s3.1) fun f_1 =>
                gd ((0 : Int) ≤ (IntKind.i64.wrap (1 + s3.1)) ∧ (IntKind.i64.wrap (1 + s3.1)) < ((z1.length : Nat) : Int)) <|
                (isa_number (gt z1 (IntKind.i64.wrap (1 + s3.1)))).bind fun z3 =>
                (if (!z3.2) = true then
                  some ((0, 0, 0, 0, 0), 11)
                else
                  jn (fun (s5 : Int × Int × Int × Int × Int) =>
                    k3 (s5.1, s5.2.1, s5.2.2.1, s5.2.2.2.1, s5.2.2.2.2)) (fun k4 =>
                    jn (fun (s6 : Int × Int × Int × Int × Int) =>
                      k4 (s6.1, s6.2.1, s6.2.2.1, s6.2.2.2.1, s6.2.2.2.2)) (fun k5 =>
                      (if (f_1 == 97) = true then
                        k5 (s3.2.1, z3.1, s3.2.2.2.1, s3.2.2.2.2.1, s3.2.2.2.2.2)
                      else
                        jn (fun (s7 : Int × Int × Int × Int × Int) =>
                          k5 (s7.1, s7.2.1, s7.2.2.1, s7.2.2.2.1, s7.2.2.2.2)) (fun k6 =>
                          (if (f_1 == 98) = true then
                            k6 (s3.2.1, s3.2.2.1, z3.1, s3.2.2.2.2.1, s3.2.2.2.2.2)
                          else
                            jn (fun (s8 : Int × Int × Int × Int × Int) =>
                              k6 (s8.1, s8.2.1, s8.2.2.1, s8.2.2.2.1, s8.2.2.2.2)) (fun k7 =>
                              (if (f_1 == 99) = true then
                                k7 (s3.2.1, s3.2.2.1, s3.2.2.2.1, z3.1, s3.2.2.2.2.2)
                              else
                                k7 (s3.2.1, s3.2.2.1, s3.2.2.2.1, s3.2.2.2.2.1, IntKind.i32.wrap z3.1))))))))))
            else
              k2 (s3.2.1, s3.2.2.1, s3.2.2.2.1, s3.2.2.2.2.1, s3.2.2.2.2.2))) bigF (0, (z2.1.1, 0, 0, 0, 0))))) (fun k1 =>
      (if (!z2.2) = true then
      k1 true
      else
      k1 (((z1.length : Nat) : Int) != (IntKind.i64.wrap (1 + ((z2.1.2.2.length : Nat) : Int)))))))

def strings_Split (s sep : List UInt8) : Option (List (List UInt8)) := match sep with
  | [c] => gd (s.length < 4294967281) <| some (linesB c [] s)
  | _ => none

def strings_Trim (s cs : List UInt8) : Option (List UInt8) := match cs with
  | [c] => gd (s.length ≤ 9223372036854775807 ∧ c.toNat < 128) <| some (trimC s c)
  | _ => none

/-- dormouse/octets.width -/
def octets_width (n : Int) : Option (Bool) :=
  jn (fun (s1 : Bool) =>
    some s1) (fun k1 =>
    (if (n == 1) = true then
    k1 true
    else
    (if (n == 2) = true then
    k1 true
    else
    (if (n == 4) = true then
    k1 true
    else
    k1 (n == 8)))))

/-- dormouse/octets.has -/
def octets_has (p_many : Int) (p_at : Int) (size : Int) : Option (Bool) :=
  let1 (IntKind.u64.wrap p_many) fun all_1 =>
  jn (fun (s1 : Bool) =>
    some s1) (fun k1 =>
    (if (decide (p_at ≤ all_1)) = true then
    k1 (decide (size ≤ (IntKind.u64.wrap (all_1 - p_at))))
    else
    k1 false))

/-- dormouse/octets.fits -/
def octets_fits (b : List Int) (p_at : Int) (n : Int) : Option (Int) :=
  (octets_width n).bind fun z1 =>
  (if (!z1) = true then
    some 1
  else
    (octets_has ((b.length : Nat) : Int) p_at (IntKind.u64.wrap n)).bind fun z2 =>
    (if (!z2) = true then
      some 10
    else
      some 0))

def slices_Clone_byte_byte (s : List Int) : Option (List Int) := gd (s.length * 1 ≤ 140737488355328) <| some s

/-- dormouse/octets.Set -/
def octets_Set (b : List Int) (p_at : Int) (n : Int) (p_x : Int) : Option ((List Int) × Int) :=
  (octets_fits b p_at n).bind fun z1 =>
  (if (z1 != 0) = true then
    some ([], z1)
  else
    (slices_Clone_byte_byte b).bind fun z2 =>
    jn (fun (s1 : List Int) =>
      some (s1, 0)) (fun k1 =>
      loopK (fun (s2 : Int × (List Int)) rec1 =>
        (if (decide (s2.1 < n)) = true then
          gd ((0 : Int) ≤ (IntKind.u64.wrap (IntKind.i64.wrap (8 * s2.1)))) <|
          gd ((0 : Int) ≤ (IntKind.i64.wrap ((IntKind.i64.wrap p_at) + s2.1)) ∧ (IntKind.i64.wrap ((IntKind.i64.wrap p_at) + s2.1)) < ((s2.2.length : Nat) : Int)) <|
          rec1 (IntKind.i64.wrap (s2.1 + 1), (s2.2.set (Int.toNat (IntKind.i64.wrap ((IntKind.i64.wrap p_at) + s2.1))) (IntKind.u8.wrap (shr .u64 p_x (IntKind.u64.wrap (IntKind.i64.wrap (8 * s2.1)))))))
        else
          k1 s2.2)) bigF (0, z2)))

/-- dormouse/isa.Code -/
def isa_Code (text : List UInt8) : Option ((List Int) × Int × Int) :=
  (if (decide (((text.length : Nat) : Int) > 65536)) = true then
    some ([], 13, 0)
  else
    (strings_Split text [10]).bind fun z1 =>
    jn (fun (s1 : List Int) =>
      some (s1, 0, 0)) (fun k1 =>
      loopK (fun (s2 : (List Int) × Int) rec1 =>
        (if (decide (s2.2 < ((z1.length : Nat) : Int))) = true then
          jn (fun (s3 : List Int) =>
            rec1 (s3, IntKind.i64.wrap (s2.2 + 1))) (fun k2 =>
            gd ((0 : Int) ≤ s2.2 ∧ s2.2 < ((z1.length : Nat) : Int)) <|
            let1 (gt z1 s2.2) fun line_1 =>
            (strings_Trim line_1 [32]).bind fun z2 =>
            jn (fun (s4 : Bool) =>
              (if (s4) = true then
                k2 s2.1
              else
                (isa_Parse line_1).bind fun z3 =>
                (if (z3.2 != 0) = true then
                  some ([], z3.2, IntKind.i64.wrap (s2.2 + 1))
                else
                  (isa_Encode (z3.1.1, z3.1.2.1, z3.1.2.2.1, z3.1.2.2.2.1, z3.1.2.2.2.2)).bind fun z4 =>
                  gd ((0 : Int) ≤ 8 ∧ 8 * ((1 : Nat) : Int) ≤ 281474976710656) <|
                  (octets_Set (List.replicate (Int.toNat 8) (0 : Int)) 0 8 z4.1).bind fun z5 =>
                  gd ((s2.1.length + z5.1.length) * 1 ≤ 140737488355328) <|
                  k2 (s2.1 ++ z5.1)))) (fun k3 =>
              (if (z2 == []) = true then
              k3 true
              else
              gd ((0 : Int) ≤ 0 ∧ 0 < ((z2.length : Nat) : Int)) <|
              k3 (((z2.getD (Int.toNat 0) 0).toNat : Int) == 35))))
        else
          k1 s2.1)) bigF ([], 0)))

/-- dormouse/dormouselaw12.awake -/
def law12_awake  : Option (Bool) :=
  (isa_Encode (16, 1, 2, 0, (-1))).bind fun z1 =>
  (isa_Decode z1.1).bind fun z2 =>
  (isa_Text (23, 3, 4, 0, 16)).bind fun z3 =>
  (isa_Parse [32, 108, 100, 56, 32, 51, 32, 32, 52, 32, 49, 54]).bind fun z4 =>
  (isa_Code [110, 111, 112, 10, 35, 32, 120, 10, 115, 121, 115]).bind fun z5 =>
  jn (fun (s1 : Bool) =>
    some s1) (fun k1 =>
    (if (z1.1 == 18446744069414600976) = true then
    (if (z1.2 == 0) = true then
    (if (z2.1.2.2.2.2 == (-1)) = true then
    (if (z2.2 == 0) = true then
    (if (z3.1 == [108, 100, 56, 32, 51, 32, 52, 32, 49, 54]) = true then
    (if (z3.2 == 0) = true then
    (if (z4.1.2.1 == 3) = true then
    (if (z4.2 == 0) = true then
    (if (((z5.1.length : Nat) : Int) == 16) = true then
    (if (z5.2.1 == 0) = true then
    k1 (z5.2.2 == 0)
    else
    none)
    else
    none)
    else
    none)
    else
    none)
    else
    none)
    else
    none)
    else
    none)
    else
    none)
    else
    none)
    else
    none))

/-- dormouse/dormouselaw12.model -/
def law12_model (i : Int × Int × Int × Int × Int) : Option (Int × Int × Int × Int × Int) :=
  some (i.1, i.2.1, i.2.2.1, i.2.2.2.1, IntKind.i64.wrap i.2.2.2.2)

/-- dormouse/dormouseref12.Word -/
def ref12_Word (op : Int) : Option (List UInt8) :=
  jn (fun (s1 : Bool) =>
    (if (s1) = true then
      some []
    else
      gd ((0 : Int) ≤ op ∧ op < ((([[], [110, 111, 112], [109, 111, 118], [97, 100, 100], [115, 117, 98], [109, 117, 108], [100, 105, 118], [114, 101, 109], [97, 110, 100], [111, 114], [120, 111, 114], [115, 104, 108], [115, 104, 114], [115, 97, 114], [115, 108, 116], [115, 108, 116, 117], [97, 100, 100, 105], [109, 111, 118, 105], [109, 111, 118, 104, 105], [], [108, 100, 49], [108, 100, 50], [108, 100, 52], [108, 100, 56], [115, 116, 49], [115, 116, 50], [115, 116, 52], [115, 116, 56], [], [], [98, 101, 113], [98, 110, 101], [98, 108, 116], [98, 108, 116, 117], [106, 109, 112], [99, 97, 108, 108], [106, 114], [99, 97, 108, 108, 114], [108, 101, 97], [116, 108, 115], [115, 121, 115], [116, 114, 97, 112]] : List (List UInt8)).length : Nat) : Int)) <|
      some (gt ([[], [110, 111, 112], [109, 111, 118], [97, 100, 100], [115, 117, 98], [109, 117, 108], [100, 105, 118], [114, 101, 109], [97, 110, 100], [111, 114], [120, 111, 114], [115, 104, 108], [115, 104, 114], [115, 97, 114], [115, 108, 116], [115, 108, 116, 117], [97, 100, 100, 105], [109, 111, 118, 105], [109, 111, 118, 104, 105], [], [108, 100, 49], [108, 100, 50], [108, 100, 52], [108, 100, 56], [115, 116, 49], [115, 116, 50], [115, 116, 52], [115, 116, 56], [], [], [98, 101, 113], [98, 110, 101], [98, 108, 116], [98, 108, 116, 117], [106, 109, 112], [99, 97, 108, 108], [106, 114], [99, 97, 108, 108, 114], [108, 101, 97], [116, 108, 115], [115, 121, 115], [116, 114, 97, 112]] : List (List UInt8)) op))) (fun k1 =>
    (if (decide (op < 0)) = true then
    k1 true
    else
    k1 (decide (op ≥ ((([[], [110, 111, 112], [109, 111, 118], [97, 100, 100], [115, 117, 98], [109, 117, 108], [100, 105, 118], [114, 101, 109], [97, 110, 100], [111, 114], [120, 111, 114], [115, 104, 108], [115, 104, 114], [115, 97, 114], [115, 108, 116], [115, 108, 116, 117], [97, 100, 100, 105], [109, 111, 118, 105], [109, 111, 118, 104, 105], [], [108, 100, 49], [108, 100, 50], [108, 100, 52], [108, 100, 56], [115, 116, 49], [115, 116, 50], [115, 116, 52], [115, 116, 56], [], [], [98, 101, 113], [98, 110, 101], [98, 108, 116], [98, 108, 116, 117], [106, 109, 112], [99, 97, 108, 108], [106, 114], [99, 97, 108, 108, 114], [108, 101, 97], [116, 108, 115], [115, 121, 115], [116, 114, 97, 112]] : List (List UInt8)).length : Nat) : Int)))))

/-- dormouse/dormouseref12.has -/
def ref12_has (op : Int) : Option (Int) :=
  jn (fun (s1 : Bool) =>
    (if (s1) = true then
      some 0
    else
      jn (fun (s2 : Bool) =>
        (if (s2) = true then
          some 3
        else
          (if (decide (op ≤ 15)) = true then
            some 7
          else
            jn (fun (s3 : Bool) =>
              (if (s3) = true then
                some 11
              else
                jn (fun (s4 : Bool) =>
                  (if (s4) = true then
                    some 9
                  else
                    jn (fun (s5 : Bool) =>
                      (if (s5) = true then
                        some 8
                      else
                        some 2)) (fun k5 =>
                      (if (op == 34) = true then
                      k5 true
                      else
                      k5 (op == 41))))) (fun k4 =>
                  (if (op == 17) = true then
                  k4 true
                  else
                  (if (op == 18) = true then
                  k4 true
                  else
                  (if (op == 35) = true then
                  k4 true
                  else
                  (if (op == 38) = true then
                  k4 true
                  else
                  k4 (op == 39)))))))) (fun k3 =>
              (if (op == 16) = true then
              k3 true
              else
              (if (decide (op ≥ 20)) = true then
              k3 (decide (op ≤ 33))
              else
              k3 false)))))) (fun k2 =>
        (if (op == 2) = true then
        k2 true
        else
        k2 (op == 37))))) (fun k1 =>
    (if (op == 1) = true then
    k1 true
    else
    k1 (op == 40)))

/-- dormouse/dormouseref12.May -/
def ref12_May (i : Int × Int × Int × Int × Int) : Option (Bool) :=
  (ref12_Word i.1).bind fun z1 =>
  (if (z1 == []) = true then
    some false
  else
    (ref12_has i.1).bind fun z2 =>
    jn (fun (_ : Unit) =>
      jn (fun (s4 : Bool) =>
        some s4) (fun k3 =>
        (if (decide (i.2.2.2.2 ≥ (-2147483648))) = true then
        k3 (decide (i.2.2.2.2 ≤ 2147483647))
        else
        k3 false))) (fun k1 =>
      loopK (fun (s2 : Int × Int) rec1 =>
        (if (decide (s2.2 < 4)) = true then
          jn (fun (s3 : Bool) =>
            (if (s3) = true then
              some false
            else
              let1 (IntKind.i64.wrap (Int.tdiv s2.1 2)) fun h_1 =>
              let1 (IntKind.i64.wrap (s2.2 + 1)) fun k_1 =>
              rec1 (h_1, k_1))) (fun k2 =>
            (if ((Int.tmod s2.1 2) == 0) = true then
            gd ((0 : Int) ≤ s2.2 ∧ s2.2 < ((([i.2.1, i.2.2.1, i.2.2.2.1, i.2.2.2.2] : List Int).length : Nat) : Int)) <|
            (if ((gt ([i.2.1, i.2.2.1, i.2.2.2.1, i.2.2.2.2] : List Int) s2.2) != 0) = true then
            k2 true
            else
            (if (decide (s2.2 < 3)) = true then
            gd ((0 : Int) ≤ s2.2 ∧ s2.2 < ((([i.2.1, i.2.2.1, i.2.2.2.1, i.2.2.2.2] : List Int).length : Nat) : Int)) <|
            (if (decide ((gt ([i.2.1, i.2.2.1, i.2.2.2.1, i.2.2.2.2] : List Int) s2.2) < 0)) = true then
            k2 true
            else
            gd ((0 : Int) ≤ s2.2 ∧ s2.2 < ((([i.2.1, i.2.2.1, i.2.2.2.1, i.2.2.2.2] : List Int).length : Nat) : Int)) <|
            k2 (decide ((gt ([i.2.1, i.2.2.1, i.2.2.2.1, i.2.2.2.2] : List Int) s2.2) > 31)))
            else
            k2 false))
            else
            (if (decide (s2.2 < 3)) = true then
            gd ((0 : Int) ≤ s2.2 ∧ s2.2 < ((([i.2.1, i.2.2.1, i.2.2.2.1, i.2.2.2.2] : List Int).length : Nat) : Int)) <|
            (if (decide ((gt ([i.2.1, i.2.2.1, i.2.2.2.1, i.2.2.2.2] : List Int) s2.2) < 0)) = true then
            k2 true
            else
            gd ((0 : Int) ≤ s2.2 ∧ s2.2 < ((([i.2.1, i.2.2.1, i.2.2.2.1, i.2.2.2.2] : List Int).length : Nat) : Int)) <|
            k2 (decide ((gt ([i.2.1, i.2.2.1, i.2.2.2.1, i.2.2.2.2] : List Int) s2.2) > 31)))
            else
            k2 false)))
        else
          k1 ())) bigF (z2, 0)))

/-- dormouse/dormouseref12.Encode -/
def ref12_Encode (i : Int × Int × Int × Int × Int) : Option (Int × Int) :=
  (ref12_May (i.1, i.2.1, i.2.2.1, i.2.2.2.1, i.2.2.2.2)).bind fun z1 =>
  (if (!z1) = true then
    some (0, 42)
  else
    jn (fun (s1 : Int) =>
      some (IntKind.u64.wrap ((IntKind.u64.wrap ((IntKind.u64.wrap ((IntKind.u64.wrap ((IntKind.u64.wrap i.1) + (IntKind.u64.wrap (256 * (IntKind.u64.wrap i.2.1))))) + (IntKind.u64.wrap (8192 * (IntKind.u64.wrap i.2.2.1))))) + (IntKind.u64.wrap (262144 * (IntKind.u64.wrap i.2.2.2.1))))) + (IntKind.u64.wrap (4294967296 * (IntKind.u64.wrap s1)))), 0)) (fun k1 =>
      (if (decide (i.2.2.2.2 < 0)) = true then
        let1 (IntKind.i64.wrap (i.2.2.2.2 + 4294967296)) fun m_1 =>
        k1 m_1
      else
        k1 i.2.2.2.2)))

/-- dormouse/dormouseref12.Number -/
def ref12_Number_f : Nat → Int → Option (List UInt8)
  | 0, _ => none
  | fu + 1, n =>
    (if (decide (n < 0)) = true then
      (ref12_Number_f fu (IntKind.i64.wrap (0 - n))).bind fun z1 =>
      gd (([45] : List UInt8).length + z1.length ≤ 9223372036854775807) <|
      some (([45] : List UInt8) ++ z1)
    else
      (if (decide (n < 10)) = true then
        gd ((0 : Int) ≤ n ∧ (n : Int) ≤ (IntKind.i64.wrap (n + 1)) ∧ (IntKind.i64.wrap (n + 1)) ≤ ((([48, 49, 50, 51, 52, 53, 54, 55, 56, 57] : List UInt8).length : Nat) : Int)) <|
        some (cutL ([48, 49, 50, 51, 52, 53, 54, 55, 56, 57] : List UInt8) n (IntKind.i64.wrap (n + 1)))
      else
        (ref12_Number_f fu (IntKind.i64.wrap (Int.tdiv n 10))).bind fun z2 =>
        (ref12_Number_f fu (Int.tmod n 10)).bind fun z3 =>
        gd (z2.length + z3.length ≤ 9223372036854775807) <|
        some (z2 ++ z3)))

def ref12_Number (n : Int) : Option (List UInt8) := ref12_Number_f 100 n

/-- dormouse/dormouseref12.Text -/
def ref12_Text (i : Int × Int × Int × Int × Int) : Option ((List UInt8) × Int) :=
  (ref12_May (i.1, i.2.1, i.2.2.1, i.2.2.2.1, i.2.2.2.2)).bind fun z1 =>
  (if (!z1) = true then
    some ([], 42)
  else
    (ref12_Word i.1).bind fun z2 =>
    (ref12_has i.1).bind fun z3 =>
    jn (fun (s1 : List UInt8) =>
      some (s1, 0)) (fun k1 =>
      loopK (fun (s2 : (List UInt8) × Int × Int) rec1 =>
        (if (decide (s2.2.2 < 4)) = true then
          jn (fun (s3 : List UInt8) =>
            let1 (IntKind.i64.wrap (Int.tdiv s2.2.1 2)) fun h_1 =>
            let1 (IntKind.i64.wrap (s2.2.2 + 1)) fun k_1 =>
            rec1 (s3, h_1, k_1)) (fun k2 =>
            (if ((Int.tmod s2.2.1 2) == 1) = true then
              gd ((0 : Int) ≤ s2.2.2 ∧ s2.2.2 < ((([i.2.1, i.2.2.1, i.2.2.2.1, i.2.2.2.2] : List Int).length : Nat) : Int)) <|
              (ref12_Number (gt ([i.2.1, i.2.2.1, i.2.2.2.1, i.2.2.2.2] : List Int) s2.2.2)).bind fun z4 =>
              gd (([32] : List UInt8).length + z4.length ≤ 9223372036854775807) <|
              gd (s2.1.length + (([32] : List UInt8) ++ z4).length ≤ 9223372036854775807) <|
              let1 (s2.1 ++ (([32] : List UInt8) ++ z4)) fun s_1 =>
              k2 s_1
            else
              k2 s2.1))
        else
          k1 s2.1)) bigF (z2, z3, 0)))

/-- dormouse/dormouselaw12.IsaEncodes -/
def law12_IsaEncodes (op : Int) (p_a : Int) (b : Int) (p_c : Int) (imm : Int) : Option (Bool) :=
  (law12_awake).bind fun z1 =>
  (if (!z1) = true then
    some false
  else
    (isa_Encode (op, p_a, b, p_c, imm)).bind fun z2 =>
    (law12_model (op, p_a, b, p_c, imm)).bind fun z3 =>
    (ref12_Encode z3).bind fun z4 =>
    (isa_Text (op, p_a, b, p_c, imm)).bind fun z5 =>
    (law12_model (op, p_a, b, p_c, imm)).bind fun z6 =>
    (ref12_Text z6).bind fun z7 =>
    jn (fun (s1 : Bool) =>
      some s1) (fun k1 =>
      (if (z2.1 == z4.1) = true then
      (if (z2.2 == z4.2) = true then
      (if (z5.1 == z7.1) = true then
      k1 (z5.2 == z7.2)
      else
      k1 false)
      else
      k1 false)
      else
      k1 false)))

/-- dormouse/dormouseref12.Decode -/
def ref12_Decode (p_w : Int) : Option ((Int × Int × Int × Int × Int) × Int) :=
  let1 (IntKind.i64.wrap (IntKind.u64.wrap (Int.tdiv p_w 4294967296))) fun m_1 =>
  jn (fun (s1 : Int) =>
    (ref12_Encode (IntKind.i64.wrap (Int.tmod p_w 256), IntKind.i64.wrap (Int.tmod (IntKind.u64.wrap (Int.tdiv p_w 256)) 32), IntKind.i64.wrap (Int.tmod (IntKind.u64.wrap (Int.tdiv p_w 8192)) 32), IntKind.i64.wrap (Int.tmod (IntKind.u64.wrap (Int.tdiv p_w 262144)) 32), s1)).bind fun z1 =>
    jn (fun (s2 : Bool) =>
      (if (s2) = true then
        some ((0, 0, 0, 0, 0), 42)
      else
        some ((IntKind.i64.wrap (Int.tmod p_w 256), IntKind.i64.wrap (Int.tmod (IntKind.u64.wrap (Int.tdiv p_w 256)) 32), IntKind.i64.wrap (Int.tmod (IntKind.u64.wrap (Int.tdiv p_w 8192)) 32), IntKind.i64.wrap (Int.tmod (IntKind.u64.wrap (Int.tdiv p_w 262144)) 32), s1), 0))) (fun k2 =>
      (if (z1.2 != 0) = true then
      k2 true
      else
      k2 (z1.1 != p_w)))) (fun k1 =>
    (if (decide (m_1 ≥ 2147483648)) = true then
      let1 (IntKind.i64.wrap (m_1 - 4294967296)) fun m_2 =>
      k1 m_2
    else
      k1 m_1))

/-- dormouse/dormouselaw12.IsaDecodes -/
def law12_IsaDecodes (p_w : Int) : Option (Bool) :=
  (law12_awake).bind fun z1 =>
  (if (!z1) = true then
    some false
  else
    (isa_Decode p_w).bind fun z2 =>
    (ref12_Decode p_w).bind fun z3 =>
    jn (fun (s1 : Bool) =>
      some s1) (fun k1 =>
      (law12_model (z2.1.1, z2.1.2.1, z2.1.2.2.1, z2.1.2.2.2.1, z2.1.2.2.2.2)).bind fun z4 =>
      (if ((z4.1 == z3.1.1) && ((z4.2.1 == z3.1.2.1) && ((z4.2.2.1 == z3.1.2.2.1) && ((z4.2.2.2.1 == z3.1.2.2.2.1) && (z4.2.2.2.2 == z3.1.2.2.2.2))))) = true then
      k1 (z2.2 == z3.2)
      else
      k1 false)))

/-- dormouse/dormouselaw12.IsaWords -/
def law12_IsaWords (op : Int) (fields : Int) (rest : Int) (imm : Int) (p_which : Int) : Option (Bool) :=
  (law12_awake).bind fun z1 =>
  (if (!z1) = true then
    some false
  else
    let1 (bor .u64 (IntKind.u64.wrap (band .u8 op 63)) (shl .u64 (IntKind.u64.wrap imm) 32)) fun w_1 =>
    jn (fun (s1 : Int) =>
      jn (fun (s2 : Int) =>
        jn (fun (s3 : Int) =>
          jn (fun (s4 : Int) =>
            jn (fun (s5 : Int) =>
              (isa_Decode s5).bind fun z2 =>
              (ref12_Decode s5).bind fun z3 =>
              jn (fun (s6 : Bool) =>
                some s6) (fun k6 =>
                (law12_model (z2.1.1, z2.1.2.1, z2.1.2.2.1, z2.1.2.2.2.1, z2.1.2.2.2.2)).bind fun z4 =>
                (if ((z4.1 == z3.1.1) && ((z4.2.1 == z3.1.2.1) && ((z4.2.2.1 == z3.1.2.2.1) && ((z4.2.2.2.1 == z3.1.2.2.2.1) && (z4.2.2.2.2 == z3.1.2.2.2.2))))) = true then
                k6 (z2.2 == z3.2)
                else
                k6 false))) (fun k5 =>
              (if (decide ((band .u8 p_which 32) > 0)) = true then
                let1 (Int.tmod s4 4294967296) fun w_6 =>
                k5 w_6
              else
                k5 s4))) (fun k4 =>
            (if ((band .u8 p_which 24) == 24) = true then
              let1 (IntKind.u64.wrap (s3 + (shl .u64 (IntKind.u64.wrap (band .u16 rest 511)) 23))) fun w_5 =>
              k4 w_5
            else
              k4 s3))) (fun k3 =>
          (if (decide ((band .u8 p_which 4) > 0)) = true then
            let1 (IntKind.u64.wrap (s2 + (shl .u64 (IntKind.u64.wrap (band .u16 (shr .u16 fields 10) 31)) 18))) fun w_4 =>
            k3 w_4
          else
            k3 s2))) (fun k2 =>
        (if (decide ((band .u8 p_which 2) > 0)) = true then
          let1 (IntKind.u64.wrap (s1 + (shl .u64 (IntKind.u64.wrap (band .u16 (shr .u16 fields 5) 31)) 13))) fun w_3 =>
          k2 w_3
        else
          k2 s1))) (fun k1 =>
      (if (decide ((band .u8 p_which 1) > 0)) = true then
        let1 (IntKind.u64.wrap (w_1 + (shl .u64 (IntKind.u64.wrap (band .u16 fields 31)) 8))) fun w_2 =>
        k1 w_2
      else
        k1 w_1)))

/-- dormouse/dormouseref12.Split -/
def ref12_Split (p_s : List UInt8) : Option (List (List UInt8)) :=
  jn (fun (s1 : List (List UInt8)) =>
    some s1) (fun k1 =>
    loopK (fun (s2 : (List (List UInt8)) × Int × Int) rec1 =>
      (if (decide (s2.2.2 ≤ ((p_s.length : Nat) : Int))) = true then
        jn (fun (s3 : (List (List UInt8)) × Int) =>
          let1 (IntKind.i64.wrap (s2.2.2 + 1)) fun i_1 =>
          rec1 (s3.1, s3.2, i_1)) (fun k2 =>
          jn (fun (s4 : Bool) =>
            jn (fun (s5 : (List (List UInt8)) × Int) =>
              k2 (s5.1, s5.2)) (fun k4 =>
              (if (s4) = true then
                jn (fun (s6 : List (List UInt8)) =>
                  let1 (IntKind.i64.wrap (s2.2.2 + 1)) fun from_1 =>
                  k4 (s6, from_1)) (fun k5 =>
                  (if (decide (s2.2.2 > s2.2.1)) = true then
                    gd ((0 : Int) ≤ s2.2.1 ∧ (s2.2.1 : Int) ≤ s2.2.2 ∧ s2.2.2 ≤ ((p_s.length : Nat) : Int)) <|
                    gd ((s2.1.length + ([(cutL p_s s2.2.1 s2.2.2)] : List (List UInt8)).length) * 16 ≤ 140737488355328) <|
                    k5 (s2.1 ++ ([(cutL p_s s2.2.1 s2.2.2)] : List (List UInt8)))
                  else
                    k5 s2.1))
              else
                k4 (s2.1, s2.2.1)))) (fun k3 =>
            (if (s2.2.2 == ((p_s.length : Nat) : Int)) = true then
            k3 true
            else
            gd ((0 : Int) ≤ s2.2.2 ∧ s2.2.2 < ((p_s.length : Nat) : Int)) <|
            k3 (((p_s.getD (Int.toNat s2.2.2) 0).toNat : Int) == 32))))
      else
        k1 s2.1)) bigF ([], 0, 0))

/-- dormouse/dormouseref12.read -/
def ref12_read (p_s : List UInt8) : Option (Int) :=
  jn (fun (s1 : Bool) =>
    jn (fun (s2 : Int) =>
      jn (fun (s3 : Int) =>
        jn (fun (s6 : Int) =>
          (ref12_Number s6).bind fun z1 =>
          (if (!(z1 == p_s)) = true then
            some 1000000000000
          else
            some s6)) (fun k5 =>
          (if (s2 == 1) = true then
            let1 (IntKind.i64.wrap (0 - s3)) fun n_2 =>
            k5 n_2
          else
            k5 s3))) (fun k3 =>
        loopK (fun (s4 : Int × Int) rec1 =>
          (if (decide (s4.2 < ((p_s.length : Nat) : Int))) = true then
            jn (fun (s5 : Bool) =>
              (if (s5) = true then
                some 1000000000000
              else
                gd ((0 : Int) ≤ s4.2 ∧ s4.2 < ((p_s.length : Nat) : Int)) <|
                let1 (IntKind.i64.wrap ((IntKind.i64.wrap ((IntKind.i64.wrap (s4.1 * 10)) + (IntKind.i64.wrap ((p_s.getD (Int.toNat s4.2) 0).toNat : Int)))) - 48)) fun n_1 =>
                let1 (IntKind.i64.wrap (s4.2 + 1)) fun i_1 =>
                rec1 (n_1, i_1))) (fun k4 =>
              gd ((0 : Int) ≤ s4.2 ∧ s4.2 < ((p_s.length : Nat) : Int)) <|
              (if (decide (((p_s.getD (Int.toNat s4.2) 0).toNat : Int) < 48)) = true then
              k4 true
              else
              gd ((0 : Int) ≤ s4.2 ∧ s4.2 < ((p_s.length : Nat) : Int)) <|
              (if (decide (((p_s.getD (Int.toNat s4.2) 0).toNat : Int) > 57)) = true then
              k4 true
              else
              k4 (decide (s4.1 > 1000000000000)))))
          else
            k3 s4.1)) bigF (0, s2))) (fun k2 =>
      (if (s1) = true then
        k2 1
      else
        k2 0))) (fun k1 =>
    (if (decide (((p_s.length : Nat) : Int) > 0)) = true then
    gd ((0 : Int) ≤ 0 ∧ 0 < ((p_s.length : Nat) : Int)) <|
    k1 (((p_s.getD (Int.toNat 0) 0).toNat : Int) == 45)
    else
    k1 false))

/-- dormouse/dormouseref12.Parse -/
def ref12_Parse (p_s : List UInt8) : Option ((Int × Int × Int × Int × Int) × Int) :=
  (ref12_Split p_s).bind fun z1 =>
  (if (((z1.length : Nat) : Int) == 0) = true then
    some ((0, 0, 0, 0, 0), 11)
  else
    jn (fun (s1 : Int) =>
      (if (s1 == 0) = true then
        some ((0, 0, 0, 0, 0), 11)
      else
        gd ((0 : Int) ≤ 4 ∧ 4 * ((8 : Nat) : Int) ≤ 281474976710656) <|
        (ref12_has s1).bind fun z3 =>
        jn (fun (s5 : Int × (List Int)) =>
          jn (fun (_ : Unit) =>
            gd ((0 : Int) ≤ 0 ∧ 0 < ((s5.2.length : Nat) : Int)) <|
            gd ((0 : Int) ≤ 1 ∧ 1 < ((s5.2.length : Nat) : Int)) <|
            gd ((0 : Int) ≤ 2 ∧ 2 < ((s5.2.length : Nat) : Int)) <|
            gd ((0 : Int) ≤ 3 ∧ 3 < ((s5.2.length : Nat) : Int)) <|
            (ref12_May (s1, gt s5.2 0, gt s5.2 1, gt s5.2 2, gt s5.2 3)).bind fun z5 =>
            jn (fun (s11 : Bool) =>
              (if (s11) = true then
                some ((0, 0, 0, 0, 0), 11)
              else
                some ((s1, gt s5.2 0, gt s5.2 1, gt s5.2 2, gt s5.2 3), 0))) (fun k8 =>
              (if (s5.1 != ((z1.length : Nat) : Int)) = true then
              k8 true
              else
              k8 (!z5)))) (fun k6 =>
            loopK (fun (s9 : Int) rec3 =>
              (if (decide (s9 < 3)) = true then
                jn (fun (s10 : Bool) =>
                  (if (s10) = true then
                    some ((0, 0, 0, 0, 0), 11)
                  else
                    let1 (IntKind.i64.wrap (s9 + 1)) fun k_3 =>
                    rec3 k_3)) (fun k7 =>
                  gd ((0 : Int) ≤ s9 ∧ s9 < ((s5.2.length : Nat) : Int)) <|
                  (if (decide ((gt s5.2 s9) < 0)) = true then
                  k7 true
                  else
                  gd ((0 : Int) ≤ s9 ∧ s9 < ((s5.2.length : Nat) : Int)) <|
                  k7 (decide ((gt s5.2 s9) > 31))))
              else
                k6 ())) bigF 0)) (fun k4 =>
          loopK (fun (s6 : Int × Int × Int × (List Int)) rec2 =>
            (if (decide (s6.2.2.1 < 4)) = true then
              jn (fun (s7 : Int × (List Int)) =>
                let1 (IntKind.i64.wrap (Int.tdiv s6.1 2)) fun h_1 =>
                let1 (IntKind.i64.wrap (s6.2.2.1 + 1)) fun k_2 =>
                rec2 (h_1, s7.1, k_2, s7.2)) (fun k5 =>
                (if ((Int.tmod s6.1 2) == 1) = true then
                  (if (decide (s6.2.1 ≥ ((z1.length : Nat) : Int))) = true then
                    some ((0, 0, 0, 0, 0), 11)
                  else
                    gd ((0 : Int) ≤ s6.2.1 ∧ s6.2.1 < ((z1.length : Nat) : Int)) <|
                    (ref12_read (gt z1 s6.2.1)).bind fun z4 =>
                    gd ((0 : Int) ≤ s6.2.2.1 ∧ s6.2.2.1 < ((s6.2.2.2.length : Nat) : Int)) <|
                    let1 (IntKind.i64.wrap (s6.2.1 + 1)) fun at_1 =>
                    k5 (at_1, (s6.2.2.2.set (Int.toNat s6.2.2.1) z4)))
                else
                  k5 (s6.2.1, s6.2.2.2)))
            else
              k4 (s6.2.1, s6.2.2.2))) bigF (z3, 1, 0, (List.replicate (Int.toNat 4) (0 : Int)))))) (fun k1 =>
      loopK (fun (s2 : Int × Int) rec1 =>
        (if (decide (s2.2 ≤ 41)) = true then
          jn (fun (s3 : Int) =>
            let1 (IntKind.i64.wrap (s2.2 + 1)) fun k_1 =>
            rec1 (s3, k_1)) (fun k2 =>
            (ref12_Word s2.2).bind fun z2 =>
            gd ((0 : Int) ≤ 0 ∧ 0 < ((z1.length : Nat) : Int)) <|
            jn (fun (s4 : Int) =>
              k2 s4) (fun k3 =>
              (if (z2 == (gt z1 0)) = true then
                k3 s2.2
              else
                k3 s2.1)))
        else
          k1 s2.1)) bigF (0, 1)))

/-- dormouse/dormouselaw12.IsaParses -/
def law12_IsaParses (p_s : List UInt8) : Option (Bool) :=
  (law12_awake).bind fun z1 =>
  (if (!z1) = true then
    some false
  else
    (if (decide (((p_s.length : Nat) : Int) > 1000)) = true then
      some true
    else
      (isa_Parse p_s).bind fun z2 =>
      (ref12_Parse p_s).bind fun z3 =>
      jn (fun (s1 : Bool) =>
        some s1) (fun k1 =>
        (law12_model (z2.1.1, z2.1.2.1, z2.1.2.2.1, z2.1.2.2.2.1, z2.1.2.2.2.2)).bind fun z4 =>
        (if ((z4.1 == z3.1.1) && ((z4.2.1 == z3.1.2.1) && ((z4.2.2.1 == z3.1.2.2.1) && ((z4.2.2.2.1 == z3.1.2.2.2.1) && (z4.2.2.2.2 == z3.1.2.2.2.2))))) = true then
        k1 (z2.2 == z3.2)
        else
        k1 false))))

/-- dormouse/dormouseref12.Code -/
def ref12_Code (text : List UInt8) : Option ((List Int) × Int × Int) :=
  (if (decide (((text.length : Nat) : Int) > 65536)) = true then
    some ([], 13, 0)
  else
    jn (fun (s1 : List Int) =>
      some (s1, 0, 0)) (fun k1 =>
      loopK (fun (s2 : (List Int) × Int × Int × Int) rec1 =>
        (if (decide (s2.2.2.2 ≤ ((text.length : Nat) : Int))) = true then
          jn (fun (s3 : (List Int) × Int × Int) =>
            let1 (IntKind.i64.wrap (s2.2.2.2 + 1)) fun i_1 =>
            rec1 (s3.1, s3.2.1, s3.2.2, i_1)) (fun k2 =>
            jn (fun (s4 : Bool) =>
              (if (s4) = true then
                k2 (s2.1, s2.2.1, s2.2.2.1)
              else
                let1 (IntKind.i64.wrap (s2.2.2.1 + 1)) fun line_1 =>
                gd ((0 : Int) ≤ s2.2.1 ∧ (s2.2.1 : Int) ≤ s2.2.2.2 ∧ s2.2.2.2 ≤ ((text.length : Nat) : Int)) <|
                let1 ((cutL text s2.2.1 s2.2.2.2)) fun s_1 =>
                let1 (IntKind.i64.wrap (s2.2.2.2 + 1)) fun from_1 =>
                (ref12_Split s_1).bind fun z1 =>
                jn (fun (s5 : Bool) =>
                  (if (s5) = true then
                    k2 (s2.1, from_1, line_1)
                  else
                    (ref12_Parse s_1).bind fun z2 =>
                    (if (z2.2 != 0) = true then
                      some ([], z2.2, line_1)
                    else
                      (ref12_Encode (z2.1.1, z2.1.2.1, z2.1.2.2.1, z2.1.2.2.2.1, z2.1.2.2.2.2)).bind fun z3 =>
                      jn (fun (s6 : List Int) =>
                        k2 (s6, from_1, line_1)) (fun k5 =>
                        loopK (fun (s7 : (List Int) × Int × Int) rec2 =>
                          (if (decide (s7.2.2 < 8)) = true then
                            gd ((s7.1.length + ([IntKind.u8.wrap (Int.tmod s7.2.1 256)] : List Int).length) * 1 ≤ 140737488355328) <|
                            let1 (IntKind.u64.wrap (Int.tdiv s7.2.1 256)) fun n_1 =>
                            let1 (IntKind.i64.wrap (s7.2.2 + 1)) fun k_1 =>
                            rec2 ((s7.1 ++ ([IntKind.u8.wrap (Int.tmod s7.2.1 256)] : List Int)), n_1, k_1)
                          else
                            k5 s7.1)) bigF (s2.1, z3.1, 0))))) (fun k4 =>
                  (if (((z1.length : Nat) : Int) == 0) = true then
                  k4 true
                  else
                  gd ((0 : Int) ≤ 0 ∧ 0 < ((z1.length : Nat) : Int)) <|
                  gd ((0 : Int) ≤ 0 ∧ 0 < (((gt z1 0).length : Nat) : Int)) <|
                  k4 ((((gt z1 0).getD (Int.toNat 0) 0).toNat : Int) == 35))))) (fun k3 =>
              (if (decide (s2.2.2.2 < ((text.length : Nat) : Int))) = true then
              gd ((0 : Int) ≤ s2.2.2.2 ∧ s2.2.2.2 < ((text.length : Nat) : Int)) <|
              k3 (((text.getD (Int.toNat s2.2.2.2) 0).toNat : Int) != 10)
              else
              k3 false)))
        else
          k1 s2.1)) bigF ([], 0, 0, 0)))

/-- dormouse/dormouselaw12.IsaCodes -/
def law12_IsaCodes (text : List UInt8) : Option (Bool) :=
  (law12_awake).bind fun z1 =>
  (if (!z1) = true then
    some false
  else
    (if (decide (((text.length : Nat) : Int) > 3000)) = true then
      some true
    else
      (isa_Code text).bind fun z2 =>
      (ref12_Code text).bind fun z3 =>
      jn (fun (s1 : Bool) =>
        some s1) (fun k1 =>
        (if ((toStr z2.1) == (toStr z3.1)) = true then
        (if (z2.2.1 == z3.2.1) = true then
        k1 (z2.2.2 == z3.2.2)
        else
        k1 false)
        else
        k1 false))))

/-- dormouse/dormouselaw12.IsaBack -/
def law12_IsaBack (op : Int) (p_a : Int) (b : Int) (p_c : Int) (imm : Int) (p_w : Int) : Option (Bool) :=
  (law12_awake).bind fun z1 =>
  (if (!z1) = true then
    some false
  else
    (isa_Encode (op, p_a, b, p_c, imm)).bind fun z2 =>
    (isa_Text (op, p_a, b, p_c, imm)).bind fun z3 =>
    (if (z2.2 != z3.2) = true then
      some false
    else
      jn (fun (_ : Unit) =>
        (isa_Decode p_w).bind fun z6 =>
        (if (z6.2 != 0) = true then
          some ((z6.1.1 == 0) && ((z6.1.2.1 == 0) && ((z6.1.2.2.1 == 0) && ((z6.1.2.2.2.1 == 0) && (z6.1.2.2.2.2 == 0)))))
        else
          (isa_Encode (z6.1.1, z6.1.2.1, z6.1.2.2.1, z6.1.2.2.2.1, z6.1.2.2.2.2)).bind fun z7 =>
          jn (fun (s3 : Bool) =>
            some s3) (fun k3 =>
            (if (z7.2 == 0) = true then
            k3 (z7.1 == p_w)
            else
            k3 false)))) (fun k1 =>
        (if (z2.2 == 0) = true then
          (isa_Decode z2.1).bind fun z4 =>
          (isa_Parse z3.1).bind fun z5 =>
          jn (fun (s2 : Bool) =>
            (if (s2) = true then
              some false
            else
              k1 ())) (fun k2 =>
            (if (z4.2 != 0) = true then
            k2 true
            else
            (if (z5.2 != 0) = true then
            k2 true
            else
            (if (!((z4.1.1 == op) && ((z4.1.2.1 == p_a) && ((z4.1.2.2.1 == b) && ((z4.1.2.2.2.1 == p_c) && (z4.1.2.2.2.2 == imm)))))) = true then
            k2 true
            else
            k2 (!((z5.1.1 == op) && ((z5.1.2.1 == p_a) && ((z5.1.2.2.1 == b) && ((z5.1.2.2.2.1 == p_c) && (z5.1.2.2.2.2 == imm))))))))))
        else
          k1 ()))))

/-- dormouse/dormouselaw12.IsaNumbers -/
def law12_IsaNumbers (p_s : List UInt8) (p_which : Int) : Option (Bool) :=
  (law12_awake).bind fun z1 =>
  (if (!z1) = true then
    some false
  else
    (if (decide (((p_s.length : Nat) : Int) > 100)) = true then
      some true
    else
      gd ((0 : Int) ≤ (Int.tmod (band .i64 p_which 255) 5) ∧ (Int.tmod (band .i64 p_which 255) 5) < ((([[109, 111, 118, 105, 32, 49, 32], [106, 109, 112, 32], [106, 114, 32], [97, 100, 100, 105, 32, 49, 32, 50, 32], [109, 111, 118, 32, 51, 32]] : List (List UInt8)).length : Nat) : Int)) <|
      gd ((gt ([[109, 111, 118, 105, 32, 49, 32], [106, 109, 112, 32], [106, 114, 32], [97, 100, 100, 105, 32, 49, 32, 50, 32], [109, 111, 118, 32, 51, 32]] : List (List UInt8)) (Int.tmod (band .i64 p_which 255) 5)).length + p_s.length ≤ 9223372036854775807) <|
      let1 ((gt ([[109, 111, 118, 105, 32, 49, 32], [106, 109, 112, 32], [106, 114, 32], [97, 100, 100, 105, 32, 49, 32, 50, 32], [109, 111, 118, 32, 51, 32]] : List (List UInt8)) (Int.tmod (band .i64 p_which 255) 5)) ++ p_s) fun t_1 =>
      (isa_Parse t_1).bind fun z2 =>
      (ref12_Parse t_1).bind fun z3 =>
      jn (fun (s1 : Bool) =>
        some s1) (fun k1 =>
        (if (z2.2 == z3.2) = true then
        (law12_model (z2.1.1, z2.1.2.1, z2.1.2.2.1, z2.1.2.2.2.1, z2.1.2.2.2.2)).bind fun z4 =>
        k1 ((z4.1 == z3.1.1) && ((z4.2.1 == z3.1.2.1) && ((z4.2.2.1 == z3.1.2.2.1) && ((z4.2.2.2.1 == z3.1.2.2.2.1) && (z4.2.2.2.2 == z3.1.2.2.2.2)))))
        else
        k1 false))))

end Dm
