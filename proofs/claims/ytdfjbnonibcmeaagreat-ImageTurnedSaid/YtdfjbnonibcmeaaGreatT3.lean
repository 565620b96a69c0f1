/-
  What the proof of ImageTurned leans on, part 3: rules for the walks, plain facts. Conditions stand in each statement.
-/
import Derived.Test.YtdfjbnonibcmeaaGreatT2
namespace Dm
open Go
abbrev Yz0 := (Int × Int × Int × Int) × (List (Int × Int × Int × Int × Int × Int × Int)) × (List UInt8) × (List (List UInt8)) × (List (List UInt8)) × (List (Int × Int × Int × Int × Int × Int)) × (List (Int × Int × Int × Int)) × (List Int)
abbrev Yz1 := Int × (List UInt8) × (List (List UInt8)) × Int × (List Int) × (List Int) × Int × (List Int) × Int × (List ((List UInt8) × Int × Int × Bool)) × (List (Int × Int × Int × Int × Int))
abbrev Yz2 := Int × Int × Int × Int × Int × Int × Int × Int
abbrev Yz3 := Int × Int × Int × Int × Int × Int × Int
abbrev Yz4 := (List Int) × Int × Int × Int × Int × Int × Int × Int
abbrev Yz5 := Int × Int × Int × Int × Int × Int
abbrev Yz6 := Int × Int × Int × Int × Int
abbrev Yz7 := Int × Int × Int × Int
def image_may_1 (p_d : (List UInt8) × Int × Int × Bool) : Option (Bool) :=
 jn (fun (s1 : Bool) =>
  some s1) (fun k1 =>
  (if (decide (p_d.2.1 < 0)) = true then
  k1 true
  else
  k1 (decide (p_d.2.1 > 3))))
def slices_IndexFunc_image_Def_image_Def_may_1 (p_s : List ((List UInt8) × Int × Int × Bool)) : Option (Int) :=
 jn (fun (_ : Unit) =>
  some (-1)) (fun k1 =>
  loopK (fun (s2 : Int) rec1 =>
   (if (decide (s2 < ((p_s.length : Nat) : Int))) = true then
    gd ((0 : Int) <= s2 /\ s2 < ((p_s.length : Nat) : Int)) <|
    (image_may_1 (gt p_s s2)).bind fun z1 =>
    (if (z1) = true then
     some s2
    else
     rec1 (IntKind.i64.wrap (s2 + 1)))
   else
    k1 ())) bigF 0)
def slices_ContainsFunc_image_Def_image_Def_may_1 (p_s : List ((List UInt8) × Int × Int × Bool)) : Option (Bool) :=
 (slices_IndexFunc_image_Def_image_Def_may_1 p_s).bind fun z1 =>
 some (decide (z1 >= 0))
def image_may_2 (f : Yz6) (q_1 : Yz1) : Option (Bool) :=
 jn (fun (s1 : Bool) =>
  some s1) (fun k1 =>
  (if (f.1 != 1) = true then
  (if (f.1 != 2) = true then
  k1 true
  else
  k1 (decide (f.2.2.2.1 >= ((q_1.2.2.2.2.2.2.2.2.2.1.length : Nat) : Int))))
  else
  k1 (decide (f.2.2.2.1 >= ((q_1.2.2.2.2.2.2.2.2.2.1.length : Nat) : Int)))))
def slices_IndexFunc_image_Fix_image_Fix_may_2 (p_s : List Yz6) (q_c0 : Yz1) : Option (Int) :=
 jn (fun (_ : Unit) =>
  some (-1)) (fun k1 =>
  loopK (fun (s2 : Int) rec1 =>
   (if (decide (s2 < ((p_s.length : Nat) : Int))) = true then
    gd ((0 : Int) <= s2 /\ s2 < ((p_s.length : Nat) : Int)) <|
    (image_may_2 (gt p_s s2) (q_c0.1, q_c0.2.1, q_c0.2.2.1, q_c0.2.2.2.1, q_c0.2.2.2.2.1, q_c0.2.2.2.2.2.1, q_c0.2.2.2.2.2.2.1, q_c0.2.2.2.2.2.2.2.1, q_c0.2.2.2.2.2.2.2.2.1, q_c0.2.2.2.2.2.2.2.2.2.1, q_c0.2.2.2.2.2.2.2.2.2.2)).bind fun z1 =>
    (if (z1) = true then
     some s2
    else
     rec1 (IntKind.i64.wrap (s2 + 1)))
   else
    k1 ())) bigF 0)
def slices_ContainsFunc_image_Fix_image_Fix_may_2 (p_s : List Yz6) (q_c0 : Yz1) : Option (Bool) :=
 (slices_IndexFunc_image_Fix_image_Fix_may_2 p_s (q_c0.1, q_c0.2.1, q_c0.2.2.1, q_c0.2.2.2.1, q_c0.2.2.2.2.1, q_c0.2.2.2.2.2.1, q_c0.2.2.2.2.2.2.1, q_c0.2.2.2.2.2.2.2.1, q_c0.2.2.2.2.2.2.2.2.1, q_c0.2.2.2.2.2.2.2.2.2.1, q_c0.2.2.2.2.2.2.2.2.2.2)).bind fun z1 =>
 some (decide (z1 >= 0))
def image_may (p_s : Yz1) : Option (Int) :=
 jn (fun (s1 : Bool) =>
  jn (fun (s2 : Bool) =>
   (if (s2) = true then
    some 1
   else
    jn (fun (s3 : Bool) =>
     (if (s3) = true then
      some 13
     else
      some 0)) (fun k3 =>
     (if (decide (p_s.2.2.2.2.2.2.1 > 1048576)) = true then
     k3 true
     else
     (if (decide (p_s.2.2.2.2.2.2.2.2.1 > 1048576)) = true then
     k3 true
     else
     k3 (decide ((IntKind.i64.wrap ((IntKind.i64.wrap (((p_s.2.2.2.2.1.length : Nat) : Int) + ((p_s.2.2.2.2.2.1.length : Nat) : Int))) + ((p_s.2.2.2.2.2.2.2.1.length : Nat) : Int))) > 65536))))))) (fun k2 =>
   (if (p_s.1 != 2) = true then
   (if (p_s.1 != 3) = true then
   k2 true
   else
   k2 s1)
   else
   k2 s1))) (fun k1 =>
  (slices_ContainsFunc_image_Def_image_Def_may_1 p_s.2.2.2.2.2.2.2.2.2.1).bind fun z1 =>
  (if (z1) = true then
  k1 true
  else
  (slices_ContainsFunc_image_Fix_image_Fix_may_2 p_s.2.2.2.2.2.2.2.2.2.2 (p_s.1, p_s.2.1, p_s.2.2.1, p_s.2.2.2.1, p_s.2.2.2.2.1, p_s.2.2.2.2.2.1, p_s.2.2.2.2.2.2.1, p_s.2.2.2.2.2.2.2.1, p_s.2.2.2.2.2.2.2.2.1, p_s.2.2.2.2.2.2.2.2.2.1, p_s.2.2.2.2.2.2.2.2.2.2)).bind fun z2 =>
  k1 z2))
def strings_Contains (s sub : List UInt8) : Option Bool := match sub with
 | [c] => some (hasB s c)
 | _ => none
def names_Build (p_l : List (List UInt8)) : Option ((List Int) × (List Int) × Int) :=
 jn (fun (_ : Unit) =>
  jn (fun (s3 : (List Int) × (List Int)) =>
   some (s3.1, s3.2, 0)) (fun k2 =>
   loopK (fun (s4 : (List Int) × (List Int) × Int × (List ((List UInt8) × Int))) rec2 =>
    (if (decide (s4.2.2.1 < ((p_l.length : Nat) : Int))) = true then
     gd ((0 : Int) <= s4.2.2.1 /\ s4.2.2.1 < ((p_l.length : Nat) : Int)) <|
     let1 (gt p_l s4.2.2.1) fun s_2 =>
     let1 ((mpGet s4.2.2.2 (s_2 : (List UInt8))).getD 0) fun at_1 =>
     let1 ((mpGet s4.2.2.2 (s_2 : (List UInt8))).isSome) fun there_1 =>
     jn (fun (s5 : (List Int) × Int × (List ((List UInt8) × Int))) =>
      (if (decide (((s5.1.length : Nat) : Int) > 65536)) = true then
       some ([], [], 13)
      else
       gd ((s4.2.1.length + ([s5.2.1] : List Int).length) * 8 <= 140737488355328) <|
       rec2 (s5.1, (s4.2.1 ++ ([s5.2.1] : List Int)), IntKind.i64.wrap (s4.2.2.1 + 1), s5.2.2))) (fun k3 =>
      (if (!there_1) = true then
       let1 (IntKind.u64.wrap ((s4.1.length : Nat) : Int)) fun at_2 =>
       gd (s4.1.length + s_2.length <= 140737488355328) <|
       gd (((s4.1 ++ ofStr s_2).length + ([0] : List Int).length) * 1 <= 140737488355328) <|
       k3 (((s4.1 ++ ofStr s_2) ++ ([0] : List Int)), at_2, (mpPut s4.2.2.2 (s_2 : (List UInt8)) (at_2 : Int)))
      else
       k3 (s4.1, at_1, s4.2.2.2)))
    else
     k2 (s4.1, s4.2.1))) bigF (([0] : List Int), [], 0, (mpPut ([] : List ((List UInt8) × Int)) ([] : (List UInt8)) (0 : Int))))) (fun k1 =>
  loopK (fun (s2 : Int) rec1 =>
   (if (decide (s2 < ((p_l.length : Nat) : Int))) = true then
    gd ((0 : Int) <= s2 /\ s2 < ((p_l.length : Nat) : Int)) <|
    let1 (gt p_l s2) fun s_1 =>
    (strings_Contains s_1 [0]).bind fun z1 =>
    (if (z1) = true then
     some ([], [], 1)
    else
     rec1 (IntKind.i64.wrap (s2 + 1)))
   else
    k1 ())) bigF 0)
def octets_width (n : Int) : Option (Bool) :=
 jn (fun (s1 : Bool) =>
  some s1) (fun k1 =>
  (if (n == 1) = true then
  k1 true
  else
  (if (n == 2) = true then
  k1 true
  else
  (if (n == 4) = true then
  k1 true
  else
  k1 (n == 8)))))
def octets_has (p_many : Int) (p_at : Int) (size : Int) : Option (Bool) :=
 let1 (IntKind.u64.wrap p_many) fun all_1 =>
 jn (fun (s1 : Bool) =>
  some s1) (fun k1 =>
  (if (decide (p_at <= all_1)) = true then
  k1 (decide (size <= (IntKind.u64.wrap (all_1 - p_at))))
  else
  k1 false))
def octets_fits (b : List Int) (p_at : Int) (n : Int) : Option (Int) :=
 (octets_width n).bind fun z1 =>
 (if (!z1) = true then
  some 1
 else
  (octets_has ((b.length : Nat) : Int) p_at (IntKind.u64.wrap n)).bind fun z2 =>
  (if (!z2) = true then
   some 10
  else
   some 0))
def slices_Clone_byte_byte (s : List Int) : Option (List Int) := gd (s.length * 1 <= 140737488355328) <| some s
def octets_Set (b : List Int) (p_at : Int) (n : Int) (p_x : Int) : Option ((List Int) × Int) :=
 (octets_fits b p_at n).bind fun z1 =>
 (if (z1 != 0) = true then
  some ([], z1)
 else
  (slices_Clone_byte_byte b).bind fun z2 =>
  jn (fun (s1 : List Int) =>
   some (s1, 0)) (fun k1 =>
   loopK (fun (s2 : Int × (List Int)) rec1 =>
    (if (decide (s2.1 < n)) = true then
     gd ((0 : Int) <= (IntKind.u64.wrap (IntKind.i64.wrap (8 * s2.1)))) <|
     gd ((0 : Int) <= (IntKind.i64.wrap ((IntKind.i64.wrap p_at) + s2.1)) /\ (IntKind.i64.wrap ((IntKind.i64.wrap p_at) + s2.1)) < ((s2.2.length : Nat) : Int)) <|
     rec1 (IntKind.i64.wrap (s2.1 + 1), (s2.2.set (Int.toNat (IntKind.i64.wrap ((IntKind.i64.wrap p_at) + s2.1))) (IntKind.u8.wrap (shr .u64 p_x (IntKind.u64.wrap (IntKind.i64.wrap (8 * s2.1)))))))
    else
     k1 s2.2)) bigF (0, z2)))
def dynamic_Put_1 (tag : Int) (value : Int) (q_2 : List Int) : Option (List Int) :=
 jn (fun (s1 : List Int) =>
  some s1) (fun k1 =>
  loopK (fun (s2 : Int × (List Int)) rec1 =>
   (if (decide (s2.1 < ((([tag, value] : List Int).length : Nat) : Int))) = true then
    gd ((0 : Int) <= s2.1 /\ s2.1 < ((([tag, value] : List Int).length : Nat) : Int)) <|
    let1 (gt ([tag, value] : List Int) s2.1) fun w_1 =>
    gd ((0 : Int) <= 8 /\ 8 * ((1 : Nat) : Int) <= 281474976710656) <|
    (octets_Set (List.replicate (Int.toNat 8) (0 : Int)) 0 8 w_1).bind fun z1 =>
    gd ((s2.2.length + z1.1.length) * 1 <= 140737488355328) <|
    rec1 (IntKind.i64.wrap (s2.1 + 1), (s2.2 ++ z1.1))
   else
    k1 s2.2)) bigF (0, q_2))
def dynamic_Put (p_x : Yz4) : Option (List Int) :=
 jn (fun (s1 : List Int) =>
  jn (fun (s3 : List Int) =>
   (dynamic_Put_1 5 p_x.2.2.1 s3).bind fun z3 =>
   (dynamic_Put_1 10 p_x.2.2.2.1 z3).bind fun z4 =>
   jn (fun (s4 : List Int) =>
    jn (fun (s5 : List Int) =>
     (dynamic_Put_1 0 0 s5).bind fun z9 =>
     some z9) (fun k4 =>
     (if (p_x.2.2.2.2.2.2.2 != 0) = true then
      (dynamic_Put_1 7 p_x.2.2.2.2.2.2.1 s4).bind fun z7 =>
      (dynamic_Put_1 8 p_x.2.2.2.2.2.2.2 z7).bind fun z8 =>
      k4 z8
     else
      k4 s4))) (fun k3 =>
    (if (p_x.2.2.2.2.2.1 != 0) = true then
     (dynamic_Put_1 6 p_x.2.2.2.2.1 z4).bind fun z5 =>
     (dynamic_Put_1 1610612749 p_x.2.2.2.2.2.1 z5).bind fun z6 =>
     k3 z6
    else
     k3 z4))) (fun k2 =>
   (if (p_x.2.1 != 0) = true then
    (dynamic_Put_1 14 p_x.2.1 s1).bind fun z2 =>
    k2 z2
   else
    k2 s1))) (fun k1 =>
  loopK (fun (s2 : Int × (List Int)) rec1 =>
   (if (decide (s2.1 < ((p_x.1.length : Nat) : Int))) = true then
    gd ((0 : Int) <= s2.1 /\ s2.1 < ((p_x.1.length : Nat) : Int)) <|
    let1 (gt p_x.1 s2.1) fun n_1 =>
    (dynamic_Put_1 1 n_1 s2.2).bind fun z1 =>
    rec1 (IntKind.i64.wrap (s2.1 + 1), z1)
   else
    k1 s2.2)) bigF (0, []))
def image_hasData (p_s : Yz1) : Option (Bool) :=
 jn (fun (s1 : Bool) =>
  some s1) (fun k1 =>
  (if (decide (((p_s.2.2.2.2.2.1.length : Nat) : Int) > 0)) = true then
  k1 true
  else
  (if (decide (((p_s.2.2.2.2.2.2.2.1.length : Nat) : Int) > 0)) = true then
  k1 true
  else
  k1 (decide (p_s.2.2.2.2.2.2.1 > 0)))))
def image_hasTls (p_s : Yz1) : Option (Bool) :=
 jn (fun (s1 : Bool) =>
  some s1) (fun k1 =>
  (if (decide (((p_s.2.2.2.2.2.2.2.1.length : Nat) : Int) > 0)) = true then
  k1 true
  else
  k1 (decide (p_s.2.2.2.2.2.2.2.2.1 > 0))))
def image_plan_segments (p_p : Yz2) (p_s : Yz1) (dyn : Int) : Option (List Yz3) :=
 let1 (IntKind.u64.wrap ((p_s.2.2.2.2.1.length : Nat) : Int)) fun n_1 =>
 jn (fun (s1 : List Yz3) =>
  (image_hasData (p_s.1, p_s.2.1, p_s.2.2.1, p_s.2.2.2.1, p_s.2.2.2.2.1, p_s.2.2.2.2.2.1, p_s.2.2.2.2.2.2.1, p_s.2.2.2.2.2.2.2.1, p_s.2.2.2.2.2.2.2.2.1, p_s.2.2.2.2.2.2.2.2.2.1, p_s.2.2.2.2.2.2.2.2.2.2)).bind fun z1 =>
  jn (fun (s2 : List Yz3) =>
   gd ((s2.length + ([(2, 4, p_p.1, p_p.1, dyn, dyn, 8)] : List Yz3).length) * 48 <= 140737488355328) <|
   (image_hasTls (p_s.1, p_s.2.1, p_s.2.2.1, p_s.2.2.2.1, p_s.2.2.2.2.1, p_s.2.2.2.2.2.1, p_s.2.2.2.2.2.2.1, p_s.2.2.2.2.2.2.2.1, p_s.2.2.2.2.2.2.2.2.1, p_s.2.2.2.2.2.2.2.2.2.1, p_s.2.2.2.2.2.2.2.2.2.2)).bind fun z2 =>
   jn (fun (s5 : List Yz3) =>
    some s5) (fun k5 =>
    (if (z2) = true then
     let1 (IntKind.u64.wrap ((p_s.2.2.2.2.2.2.2.1.length : Nat) : Int)) fun n_4 =>
     jn (fun (s6 : Int) =>
      gd (((s2 ++ ([(2, 4, p_p.1, p_p.1, dyn, dyn, 8)] : List Yz3)).length + ([(7, 4, s6, s6, n_4, IntKind.u64.wrap (n_4 + p_s.2.2.2.2.2.2.2.2.1), 8)] : List Yz3).length) * 48 <= 140737488355328) <|
      k5 ((s2 ++ ([(2, 4, p_p.1, p_p.1, dyn, dyn, 8)] : List Yz3)) ++ ([(7, 4, s6, s6, n_4, IntKind.u64.wrap (n_4 + p_s.2.2.2.2.2.2.2.2.1), 8)] : List Yz3))) (fun k6 =>
      (if (n_4 == 0) = true then
       k6 0
      else
       k6 p_p.2.2.2.2.2.2.1))
    else
     k5 (s2 ++ ([(2, 4, p_p.1, p_p.1, dyn, dyn, 8)] : List Yz3))))) (fun k2 =>
   (if (z1) = true then
    let1 (IntKind.u64.wrap ((IntKind.u64.wrap (p_p.2.2.2.2.2.2.1 + (IntKind.u64.wrap ((p_s.2.2.2.2.2.2.2.1.length : Nat) : Int)))) - p_p.2.2.2.2.2.1)) fun n_2 =>
    jn (fun (s3 : Int) =>
     jn (fun (s4 : Int) =>
      gd ((s1.length + ([(1, 6, s4, p_p.2.2.2.2.2.1, s3, IntKind.u64.wrap (s3 + p_s.2.2.2.2.2.2.1), 256)] : List Yz3).length) * 48 <= 140737488355328) <|
      k2 (s1 ++ ([(1, 6, s4, p_p.2.2.2.2.2.1, s3, IntKind.u64.wrap (s3 + p_s.2.2.2.2.2.2.1), 256)] : List Yz3))) (fun k4 =>
      (if (s3 == 0) = true then
       k4 0
      else
       k4 p_p.2.2.2.2.2.1))) (fun k3 =>
     (if (((p_s.2.2.2.2.2.2.2.1.length : Nat) : Int) == 0) = true then
      let1 (IntKind.u64.wrap ((p_s.2.2.2.2.2.1.length : Nat) : Int)) fun n_3 =>
      k3 n_3
     else
      k3 n_2))
   else
    k2 s1))) (fun k1 =>
  (if (decide (n_1 > 0)) = true then
   gd ((([(1, 4, 0, 0, p_p.2.2.2.2.2.2.2, p_p.2.2.2.2.2.2.2, 256)] : List Yz3).length + ([(1, 5, p_p.2.2.2.2.1, p_p.2.2.2.2.1, n_1, n_1, 256)] : List Yz3).length) * 48 <= 140737488355328) <|
   k1 (([(1, 4, 0, 0, p_p.2.2.2.2.2.2.2, p_p.2.2.2.2.2.2.2, 256)] : List Yz3) ++ ([(1, 5, p_p.2.2.2.2.1, p_p.2.2.2.2.1, n_1, n_1, 256)] : List Yz3))
  else
   k1 ([(1, 4, 0, 0, p_p.2.2.2.2.2.2.2, p_p.2.2.2.2.2.2.2, 256)] : List Yz3)))
def octets_Down (p_x : Int) (p_a : Int) : Option (Int × Int) :=
 jn (fun (s1 : Bool) =>
  (if (s1) = true then
   some (0, 1)
  else
   some (bandn .u64 p_x (IntKind.u64.wrap (p_a - 1)), 0))) (fun k1 =>
  (if (p_a == 0) = true then
  k1 true
  else
  k1 ((band .u64 p_a (IntKind.u64.wrap (p_a - 1))) != 0)))
def octets_Up (p_x : Int) (p_a : Int) : Option (Int × Int) :=
 (octets_Down p_x p_a).bind fun z1 =>
 jn (fun (s1 : Bool) =>
  (if (s1) = true then
   some (z1.1, z1.2)
  else
   (if ((IntKind.u64.wrap (z1.1 + p_a)) == 0) = true then
    some (0, 10)
   else
    some (IntKind.u64.wrap (z1.1 + p_a), 0)))) (fun k1 =>
  (if (z1.2 != 0) = true then
  k1 true
  else
  k1 (z1.1 == p_x)))
def image_up (p_x : Int) (p_a : Int) : Option (Int) :=
 (octets_Up p_x p_a).bind fun z1 =>
 some z1.1
def head_row (fields : List (Int × Int)) : Option (List Int) :=
 jn (fun (s1 : List Int) =>
  some s1) (fun k1 =>
  loopK (fun (s2 : (List Int) × Int) rec1 =>
   (if (decide (s2.2 < ((fields.length : Nat) : Int))) = true then
    gd ((0 : Int) <= s2.2 /\ s2.2 < ((fields.length : Nat) : Int)) <|
    gd ((0 : Int) <= ((gt fields s2.2).1) /\ ((gt fields s2.2).1) * ((1 : Nat) : Int) <= 281474976710656) <|
    (octets_Set (List.replicate (Int.toNat ((gt fields s2.2).1)) (0 : Int)) 0 ((gt fields s2.2).1) ((gt fields s2.2).2)).bind fun z1 =>
    gd ((s2.1.length + z1.1.length) * 1 <= 140737488355328) <|
    rec1 ((s2.1 ++ z1.1), IntKind.i64.wrap (s2.2 + 1))
   else
    k1 s2.1)) bigF ([], 0))
def head_Put (p_h : Yz7) : Option ((List Int) × Int) :=
 jn (fun (s1 : Bool) =>
  (if (s1) = true then
   some ([], 1)
  else
   gd ((0 : Int) <= 9 /\ (([127, 69, 76, 70, 2, 1, 1] : List Int).length + Int.toNat 9) * 1 <= 140737488355328) <|
   (head_row ([(2, IntKind.u64.wrap p_h.1), (2, 19823), (4, 1), (8, p_h.2.1), (8, p_h.2.2.1), (8, 0), (4, 0), (2, 64), (2, 56), (2, IntKind.u64.wrap p_h.2.2.2), (2, 0), (2, 0), (2, 0)] : List (Int × Int))).bind fun z1 =>
   gd (((([127, 69, 76, 70, 2, 1, 1] : List Int) ++ List.replicate (Int.toNat 9) (0 : Int)).length + z1.length) * 1 <= 140737488355328) <|
   some (((([127, 69, 76, 70, 2, 1, 1] : List Int) ++ List.replicate (Int.toNat 9) (0 : Int)) ++ z1), 0))) (fun k1 =>
  (if (decide (p_h.1 < 2)) = true then
  k1 true
  else
  (if (decide (p_h.1 > 4)) = true then
  k1 true
  else
  (if (decide (p_h.2.2.2 < 0)) = true then
  k1 true
  else
  k1 (decide (p_h.2.2.2 > 64))))))
def segs_Put (p_s : Yz3) : Option (List Int) :=
 jn (fun (s1 : List Int) =>
  some s1) (fun k1 =>
  loopK (fun (s2 : (List Int) × Int) rec1 =>
   (if (decide (s2.2 < ((([bor .u64 (IntKind.u64.wrap p_s.1) (shl .u64 (IntKind.u64.wrap p_s.2.1) 32), p_s.2.2.1, p_s.2.2.2.1, p_s.2.2.2.1, p_s.2.2.2.2.1, p_s.2.2.2.2.2.1, p_s.2.2.2.2.2.2] : List Int).length : Nat) : Int))) = true then
    gd ((0 : Int) <= s2.2 /\ s2.2 < ((([bor .u64 (IntKind.u64.wrap p_s.1) (shl .u64 (IntKind.u64.wrap p_s.2.1) 32), p_s.2.2.1, p_s.2.2.2.1, p_s.2.2.2.1, p_s.2.2.2.2.1, p_s.2.2.2.2.2.1, p_s.2.2.2.2.2.2] : List Int).length : Nat) : Int)) <|
    let1 (gt ([bor .u64 (IntKind.u64.wrap p_s.1) (shl .u64 (IntKind.u64.wrap p_s.2.1) 32), p_s.2.2.1, p_s.2.2.2.1, p_s.2.2.2.1, p_s.2.2.2.2.1, p_s.2.2.2.2.2.1, p_s.2.2.2.2.2.2] : List Int) s2.2) fun x_1 =>
    gd ((0 : Int) <= 8 /\ 8 * ((1 : Nat) : Int) <= 281474976710656) <|
    (octets_Set (List.replicate (Int.toNat 8) (0 : Int)) 0 8 x_1).bind fun z1 =>
    gd ((s2.1.length + z1.1.length) * 1 <= 140737488355328) <|
    rec1 ((s2.1 ++ z1.1), IntKind.i64.wrap (s2.2 + 1))
   else
    k1 s2.1)) bigF ([], 0))
def symbols_Put_1 (p_x : Int) (n : Int) (q_2 : List Int) : Option (List Int) :=
 gd ((0 : Int) <= n /\ n * ((1 : Nat) : Int) <= 281474976710656) <|
 (octets_Set (List.replicate (Int.toNat n) (0 : Int)) 0 n p_x).bind fun z1 =>
 gd ((q_2.length + z1.1.length) * 1 <= 140737488355328) <|
 some (q_2 ++ z1.1)
def symbols_Put (p_s : Yz5) : Option (List Int) :=
 (symbols_Put_1 (IntKind.u64.wrap p_s.1) 4 []).bind fun z1 =>
 (symbols_Put_1 (IntKind.u64.wrap p_s.2.1) 1 z1).bind fun z2 =>
 (symbols_Put_1 (IntKind.u64.wrap p_s.2.2.1) 1 z2).bind fun z3 =>
 (symbols_Put_1 (IntKind.u64.wrap p_s.2.2.2.1) 2 z3).bind fun z4 =>
 (symbols_Put_1 p_s.2.2.2.2.1 8 z4).bind fun z5 =>
 (symbols_Put_1 p_s.2.2.2.2.2 8 z5).bind fun z6 =>
 some z6
def image_plan_place (p_p : Yz2) (p_where : Int) : Option (Int) :=
 (if (p_where == 1) = true then
  some p_p.2.2.2.2.1
 else
  (if (p_where == 2) = true then
   some p_p.2.2.2.2.2.1
  else
   some 0))
def image_kind (p_where : Int) : Option (Int) :=
 gd ((0 : Int) <= p_where /\ p_where < ((4 : Nat) : Int)) <|
 some (gt ([0, 2, 1, 6] : List Int) p_where)
def image_plan_entries (p_p : Yz2) (p_s : Yz1) (p_at : List Int) : Option (List Int) :=
 (if (((p_s.2.2.2.2.2.2.2.2.2.1.length : Nat) : Int) == 0) = true then
  some []
 else
  (symbols_Put (0, 0, 0, 0, 0, 0)).bind fun z1 =>
  gd ((([] : List Int).length + z1.length) * 1 <= 140737488355328) <|
  jn (fun (s1 : List Int) =>
   some s1) (fun k1 =>
   loopK (fun (s2 : (List Int) × Int) rec1 =>
    (if (decide (s2.2 < ((p_s.2.2.2.2.2.2.2.2.2.1.length : Nat) : Int))) = true then
     gd ((0 : Int) <= s2.2 /\ s2.2 < ((p_s.2.2.2.2.2.2.2.2.2.1.length : Nat) : Int)) <|
     gd ((0 : Int) <= s2.2 /\ s2.2 < ((p_at.length : Nat) : Int)) <|
     (image_plan_place (p_p.1, p_p.2.1, p_p.2.2.1, p_p.2.2.2.1, p_p.2.2.2.2.1, p_p.2.2.2.2.2.1, p_p.2.2.2.2.2.2.1, p_p.2.2.2.2.2.2.2) ((gt p_s.2.2.2.2.2.2.2.2.2.1 s2.2).2.1)).bind fun z2 =>
     jn (fun (s3 : Yz5) =>
      (image_kind ((gt p_s.2.2.2.2.2.2.2.2.2.1 s2.2).2.1)).bind fun z3 =>
      jn (fun (s4 : Yz5) =>
       (symbols_Put (s4.1, s4.2.1, s4.2.2.1, s4.2.2.2.1, s4.2.2.2.2.1, s4.2.2.2.2.2)).bind fun z4 =>
       gd ((s2.1.length + z4.length) * 1 <= 140737488355328) <|
       rec1 ((s2.1 ++ z4), IntKind.i64.wrap (s2.2 + 1))) (fun k3 =>
       (if (((gt p_s.2.2.2.2.2.2.2.2.2.1 s2.2).2.1) == 0) = true then
        k3 (s3.1, IntKind.u8.wrap (s3.2.1 + z3), s3.2.2.1, 0, 0, s3.2.2.2.2.2)
       else
        k3 (s3.1, IntKind.u8.wrap (s3.2.1 + z3), s3.2.2.1, s3.2.2.2.1, s3.2.2.2.2.1, s3.2.2.2.2.2)))) (fun k2 =>
      (if ((gt p_s.2.2.2.2.2.2.2.2.2.1 s2.2).2.2.2) = true then
       k2 (IntKind.u32.wrap (gt p_at s2.2), 32, 0, 1, IntKind.u64.wrap (z2 + ((gt p_s.2.2.2.2.2.2.2.2.2.1 s2.2).2.2.1)), 0)
      else
       k2 (IntKind.u32.wrap (gt p_at s2.2), 16, 0, 1, IntKind.u64.wrap (z2 + ((gt p_s.2.2.2.2.2.2.2.2.2.1 s2.2).2.2.1)), 0)))
    else
     k1 s2.1)) bigF ((([] : List Int) ++ z1), 0)))
def image_Build_1 (p_at : Int) (b : List Int) (q_2 : List Int) : Option (List Int) :=
 jn (fun (s1 : List Int) =>
  some s1) (fun k1 =>
  (if (decide (((b.length : Nat) : Int) > 0)) = true then
   gd ((0 : Int) <= (IntKind.u64.wrap (p_at - (IntKind.u64.wrap ((q_2.length : Nat) : Int)))) /\ (q_2.length + Int.toNat (IntKind.u64.wrap (p_at - (IntKind.u64.wrap ((q_2.length : Nat) : Int))))) * 1 <= 140737488355328) <|
   gd (((q_2 ++ List.replicate (Int.toNat (IntKind.u64.wrap (p_at - (IntKind.u64.wrap ((q_2.length : Nat) : Int))))) (0 : Int)).length + b.length) * 1 <= 140737488355328) <|
   k1 ((q_2 ++ List.replicate (Int.toNat (IntKind.u64.wrap (p_at - (IntKind.u64.wrap ((q_2.length : Nat) : Int))))) (0 : Int)) ++ b)
  else
   k1 q_2))
def rela_Put (p_x : Yz7) : Option (List Int) :=
 jn (fun (s1 : List Int) =>
  some s1) (fun k1 =>
  loopK (fun (s2 : (List Int) × Int) rec1 =>
   (if (decide (s2.2 < 3)) = true then
    gd ((0 : Int) <= s2.2 /\ s2.2 < ((3 : Nat) : Int)) <|
    let1 (gt ([p_x.1, bor .u64 (IntKind.u64.wrap p_x.2.1) (shl .u64 (IntKind.u64.wrap p_x.2.2.1) 32), IntKind.u64.wrap p_x.2.2.2] : List Int) s2.2) fun w_1 =>
    gd ((0 : Int) <= 8 /\ 8 * ((1 : Nat) : Int) <= 281474976710656) <|
    (octets_Set (List.replicate (Int.toNat 8) (0 : Int)) 0 8 w_1).bind fun z1 =>
    gd ((s2.1.length + z1.1.length) * 1 <= 140737488355328) <|
    rec1 ((s2.1 ++ z1.1), IntKind.i64.wrap (s2.2 + 1))
   else
    k1 s2.1)) bigF ([], 0))
def image_plan_fixes (p_p : Yz2) (p_s : Yz1) : Option (List Int) :=
 jn (fun (s1 : List Int) =>
  some s1) (fun k1 =>
  loopK (fun (s2 : (List Int) × Int) rec1 =>
   (if (decide (s2.2 < ((p_s.2.2.2.2.2.2.2.2.2.2.length : Nat) : Int))) = true then
    gd ((0 : Int) <= s2.2 /\ s2.2 < ((p_s.2.2.2.2.2.2.2.2.2.2.length : Nat) : Int)) <|
    (image_plan_place (p_p.1, p_p.2.1, p_p.2.2.1, p_p.2.2.2.1, p_p.2.2.2.2.1, p_p.2.2.2.2.2.1, p_p.2.2.2.2.2.2.1, p_p.2.2.2.2.2.2.2) ((gt p_s.2.2.2.2.2.2.2.2.2.2 s2.2).1)).bind fun z1 =>
    (rela_Put (IntKind.u64.wrap (z1 + ((gt p_s.2.2.2.2.2.2.2.2.2.2 s2.2).2.1)), (gt p_s.2.2.2.2.2.2.2.2.2.2 s2.2).2.2.1, IntKind.u32.wrap (imax (IntKind.i64.wrap (((gt p_s.2.2.2.2.2.2.2.2.2.2 s2.2).2.2.2.1) + 1)) 0), (gt p_s.2.2.2.2.2.2.2.2.2.2 s2.2).2.2.2.2)).bind fun z2 =>
    gd ((s2.1.length + z2.length) * 1 <= 140737488355328) <|
    rec1 ((s2.1 ++ z2), IntKind.i64.wrap (s2.2 + 1))
   else
    k1 s2.1)) bigF ([], 0))
def image_Build (p_s : Yz1) : Option ((List Int) × Int) :=
 (image_may (p_s.1, p_s.2.1, p_s.2.2.1, p_s.2.2.2.1, p_s.2.2.2.2.1, p_s.2.2.2.2.2.1, p_s.2.2.2.2.2.2.1, p_s.2.2.2.2.2.2.2.1, p_s.2.2.2.2.2.2.2.2.1, p_s.2.2.2.2.2.2.2.2.2.1, p_s.2.2.2.2.2.2.2.2.2.2)).bind fun z1 =>
 (if (z1 != 0) = true then
  some ([], z1)
 else
  gd ((([p_s.2.1] : List (List UInt8)).length + p_s.2.2.1.length) * 16 <= 140737488355328) <|
  jn (fun (s1 : List (List UInt8)) =>
   (names_Build s1).bind fun z2 =>
   (if (z2.2.2 != 0) = true then
    some ([], z2.2.2)
   else
    gd ((0 : Int) <= 1 /\ (1 : Int) <= (IntKind.i64.wrap (1 + ((p_s.2.2.1.length : Nat) : Int))) /\ (IntKind.i64.wrap (1 + ((p_s.2.2.1.length : Nat) : Int))) <= ((z2.2.1.length : Nat) : Int)) <|
    gd ((0 : Int) <= 0 /\ 0 < ((z2.2.1.length : Nat) : Int)) <|
    jn (fun (s3 : Yz4) =>
     (dynamic_Put (s3.1, s3.2.1, s3.2.2.1, s3.2.2.2.1, s3.2.2.2.2.1, s3.2.2.2.2.2.1, s3.2.2.2.2.2.2.1, s3.2.2.2.2.2.2.2)).bind fun z3 =>
     let1 (IntKind.u64.wrap ((z3.length : Nat) : Int)) fun dyn_1 =>
     (image_plan_segments (0, 0, 0, 0, 0, 0, 0, 0) (p_s.1, p_s.2.1, p_s.2.2.1, p_s.2.2.2.1, p_s.2.2.2.2.1, p_s.2.2.2.2.2.1, p_s.2.2.2.2.2.2.1, p_s.2.2.2.2.2.2.2.1, p_s.2.2.2.2.2.2.2.2.1, p_s.2.2.2.2.2.2.2.2.2.1, p_s.2.2.2.2.2.2.2.2.2.2) 0).bind fun z4 =>
     let1 (IntKind.u64.wrap ((z4.length : Nat) : Int)) fun count_1 =>
     (image_up (IntKind.u64.wrap ((IntKind.u64.wrap ((IntKind.u64.wrap (64 + (IntKind.u64.wrap (count_1 * 56)))) + dyn_1)) + s3.2.2.2.1)) 8).bind fun z5 =>
     (image_up (IntKind.u64.wrap ((IntKind.u64.wrap (z5 + (IntKind.u64.wrap (24 * s3.2.2.2.2.2.1)))) + s3.2.2.2.2.2.2.2)) 256).bind fun z6 =>
     (image_up (IntKind.u64.wrap (z6 + (IntKind.u64.wrap ((p_s.2.2.2.2.1.length : Nat) : Int)))) 256).bind fun z7 =>
     (image_up (IntKind.u64.wrap (z7 + (IntKind.u64.wrap ((p_s.2.2.2.2.2.1.length : Nat) : Int)))) 8).bind fun z8 =>
     jn (fun (s4 : Int) =>
      (head_Put (p_s.1, s4, 64, IntKind.i64.wrap count_1)).bind fun z9 =>
      (image_plan_segments (IntKind.u64.wrap (64 + (IntKind.u64.wrap (count_1 * 56))), IntKind.u64.wrap ((IntKind.u64.wrap (64 + (IntKind.u64.wrap (count_1 * 56)))) + dyn_1), z5, IntKind.u64.wrap (z5 + (IntKind.u64.wrap (24 * s3.2.2.2.2.2.1))), z6, z7, z8, IntKind.u64.wrap ((IntKind.u64.wrap (z5 + (IntKind.u64.wrap (24 * s3.2.2.2.2.2.1)))) + s3.2.2.2.2.2.2.2)) (p_s.1, p_s.2.1, p_s.2.2.1, p_s.2.2.2.1, p_s.2.2.2.2.1, p_s.2.2.2.2.2.1, p_s.2.2.2.2.2.2.1, p_s.2.2.2.2.2.2.2.1, p_s.2.2.2.2.2.2.2.2.1, p_s.2.2.2.2.2.2.2.2.2.1, p_s.2.2.2.2.2.2.2.2.2.2) dyn_1).bind fun z10 =>
      jn (fun (s5 : List Int) =>
       (dynamic_Put (s3.1, s3.2.1, IntKind.u64.wrap ((IntKind.u64.wrap (64 + (IntKind.u64.wrap (count_1 * 56)))) + dyn_1), s3.2.2.2.1, z5, s3.2.2.2.2.2.1, IntKind.u64.wrap (z5 + (IntKind.u64.wrap (24 * s3.2.2.2.2.2.1))), s3.2.2.2.2.2.2.2)).bind fun z12 =>
       gd ((s5.length + z12.length) * 1 <= 140737488355328) <|
       gd (((s5 ++ z12).length + z2.1.length) * 1 <= 140737488355328) <|
       gd ((0 : Int) <= (IntKind.u64.wrap (z5 - (IntKind.u64.wrap ((((s5 ++ z12) ++ z2.1).length : Nat) : Int)))) /\ (((s5 ++ z12) ++ z2.1).length + Int.toNat (IntKind.u64.wrap (z5 - (IntKind.u64.wrap ((((s5 ++ z12) ++ z2.1).length : Nat) : Int))))) * 1 <= 140737488355328) <|
       gd ((0 : Int) <= (IntKind.i64.wrap (1 + ((p_s.2.2.1.length : Nat) : Int))) /\ (IntKind.i64.wrap (1 + ((p_s.2.2.1.length : Nat) : Int)) : Int) <= ((z2.2.1.length : Nat) : Int) /\ ((z2.2.1.length : Nat) : Int) <= ((z2.2.1.length : Nat) : Int)) <|
       (image_plan_entries (IntKind.u64.wrap (64 + (IntKind.u64.wrap (count_1 * 56))), IntKind.u64.wrap ((IntKind.u64.wrap (64 + (IntKind.u64.wrap (count_1 * 56)))) + dyn_1), z5, IntKind.u64.wrap (z5 + (IntKind.u64.wrap (24 * s3.2.2.2.2.2.1))), z6, z7, z8, IntKind.u64.wrap ((IntKind.u64.wrap (z5 + (IntKind.u64.wrap (24 * s3.2.2.2.2.2.1)))) + s3.2.2.2.2.2.2.2)) (p_s.1, p_s.2.1, p_s.2.2.1, p_s.2.2.2.1, p_s.2.2.2.2.1, p_s.2.2.2.2.2.1, p_s.2.2.2.2.2.2.1, p_s.2.2.2.2.2.2.2.1, p_s.2.2.2.2.2.2.2.2.1, p_s.2.2.2.2.2.2.2.2.2.1, p_s.2.2.2.2.2.2.2.2.2.2) (cutL z2.2.1 (IntKind.i64.wrap (1 + ((p_s.2.2.1.length : Nat) : Int))) ((z2.2.1.length : Nat) : Int))).bind fun z13 =>
       (image_Build_1 z5 z13 (((s5 ++ z12) ++ z2.1) ++ List.replicate (Int.toNat (IntKind.u64.wrap (z5 - (IntKind.u64.wrap ((((s5 ++ z12) ++ z2.1).length : Nat) : Int))))) (0 : Int))).bind fun z14 =>
       (image_plan_fixes (IntKind.u64.wrap (64 + (IntKind.u64.wrap (count_1 * 56))), IntKind.u64.wrap ((IntKind.u64.wrap (64 + (IntKind.u64.wrap (count_1 * 56)))) + dyn_1), z5, IntKind.u64.wrap (z5 + (IntKind.u64.wrap (24 * s3.2.2.2.2.2.1))), z6, z7, z8, IntKind.u64.wrap ((IntKind.u64.wrap (z5 + (IntKind.u64.wrap (24 * s3.2.2.2.2.2.1)))) + s3.2.2.2.2.2.2.2)) (p_s.1, p_s.2.1, p_s.2.2.1, p_s.2.2.2.1, p_s.2.2.2.2.1, p_s.2.2.2.2.2.1, p_s.2.2.2.2.2.2.1, p_s.2.2.2.2.2.2.2.1, p_s.2.2.2.2.2.2.2.2.1, p_s.2.2.2.2.2.2.2.2.2.1, p_s.2.2.2.2.2.2.2.2.2.2)).bind fun z15 =>
       (image_Build_1 (IntKind.u64.wrap (z5 + (IntKind.u64.wrap (24 * s3.2.2.2.2.2.1)))) z15 z14).bind fun z16 =>
       (image_Build_1 z6 p_s.2.2.2.2.1 z16).bind fun z17 =>
       (image_Build_1 z7 p_s.2.2.2.2.2.1 z17).bind fun z18 =>
       (image_Build_1 z8 p_s.2.2.2.2.2.2.2.1 z18).bind fun z19 =>
       (if (decide (((z19.length : Nat) : Int) > 65536)) = true then
        some ([], 13)
       else
        some (z19, 0))) (fun k4 =>
       loopK (fun (s6 : Int × (List Int)) rec2 =>
        (if (decide (s6.1 < ((z10.length : Nat) : Int))) = true then
         gd ((0 : Int) <= s6.1 /\ s6.1 < ((z10.length : Nat) : Int)) <|
         (segs_Put ((gt z10 s6.1).1, (gt z10 s6.1).2.1, (gt z10 s6.1).2.2.1, (gt z10 s6.1).2.2.2.1, (gt z10 s6.1).2.2.2.2.1, (gt z10 s6.1).2.2.2.2.2.1, (gt z10 s6.1).2.2.2.2.2.2)).bind fun z11 =>
         gd ((s6.2.length + z11.length) * 1 <= 140737488355328) <|
         rec2 (IntKind.i64.wrap (s6.1 + 1), (s6.2 ++ z11))
        else
         k4 s6.2)) bigF (0, z9.1))) (fun k3 =>
      (if (decide (((p_s.2.2.2.2.1.length : Nat) : Int) > 0)) = true then
       let1 (IntKind.u64.wrap (z6 + p_s.2.2.2.1)) fun entry_1 =>
       k3 entry_1
      else
       k3 0))) (fun k2 =>
     (if (decide (((p_s.2.2.2.2.2.2.2.2.2.1.length : Nat) : Int) > 0)) = true then
      k2 ((cutL z2.2.1 1 (IntKind.i64.wrap (1 + ((p_s.2.2.1.length : Nat) : Int)))), gt z2.2.1 0, 0, IntKind.u64.wrap ((z2.1.length : Nat) : Int), 0, IntKind.u64.wrap (IntKind.i64.wrap (1 + ((p_s.2.2.2.2.2.2.2.2.2.1.length : Nat) : Int))), 0, IntKind.u64.wrap (IntKind.i64.wrap (((p_s.2.2.2.2.2.2.2.2.2.2.length : Nat) : Int) * 24)))
     else
      k2 ((cutL z2.2.1 1 (IntKind.i64.wrap (1 + ((p_s.2.2.1.length : Nat) : Int)))), gt z2.2.1 0, 0, IntKind.u64.wrap ((z2.1.length : Nat) : Int), 0, 0, 0, IntKind.u64.wrap (IntKind.i64.wrap (((p_s.2.2.2.2.2.2.2.2.2.2.length : Nat) : Int) * 24))))))) (fun k1 =>
   loopK (fun (s2 : (List (List UInt8)) × Int) rec1 =>
    (if (decide (s2.2 < ((p_s.2.2.2.2.2.2.2.2.2.1.length : Nat) : Int))) = true then
     gd ((0 : Int) <= s2.2 /\ s2.2 < ((p_s.2.2.2.2.2.2.2.2.2.1.length : Nat) : Int)) <|
     gd ((s2.1.length + ([(gt p_s.2.2.2.2.2.2.2.2.2.1 s2.2).1] : List (List UInt8)).length) * 16 <= 140737488355328) <|
     rec1 ((s2.1 ++ ([(gt p_s.2.2.2.2.2.2.2.2.2.1 s2.2).1] : List (List UInt8))), IntKind.i64.wrap (s2.2 + 1))
    else
     k1 s2.1)) bigF ((([p_s.2.1] : List (List UInt8)) ++ p_s.2.2.1), 0)))
def octets_Get (b : List Int) (p_at : Int) (n : Int) : Option (Int × Int) :=
 (octets_fits b p_at n).bind fun z1 =>
 (if (z1 != 0) = true then
  some (0, z1)
 else
  jn (fun (s1 : Int) =>
   some (s1, 0)) (fun k1 =>
   loopK (fun (s2 : Int × Int) rec1 =>
    (if (decide (s2.2 < n)) = true then
     gd ((0 : Int) <= (IntKind.i64.wrap ((IntKind.i64.wrap p_at) + s2.2)) /\ (IntKind.i64.wrap ((IntKind.i64.wrap p_at) + s2.2)) < ((b.length : Nat) : Int)) <|
     gd ((0 : Int) <= (IntKind.u64.wrap (IntKind.i64.wrap (8 * s2.2)))) <|
     let1 (bor .u64 s2.1 (shl .u64 (IntKind.u64.wrap (gt b (IntKind.i64.wrap ((IntKind.i64.wrap p_at) + s2.2)))) (IntKind.u64.wrap (IntKind.i64.wrap (8 * s2.2))))) fun x_1 =>
     rec1 (x_1, IntKind.i64.wrap (s2.2 + 1))
    else
     k1 s2.1)) bigF (0, 0)))
def head_Get_1 (place : Int) (n : Int) (q_2 : List Int) : Option (Int) :=
 (octets_Get q_2 place n).bind fun z1 =>
 some z1.1
def slices_Equal_byte_byte (p_s1 : List Int) (p_s2 : List Int) : Option (Bool) :=
 (if (((p_s1.length : Nat) : Int) != ((p_s2.length : Nat) : Int)) = true then
  some false
 else
  jn (fun (_ : Unit) =>
   some true) (fun k1 =>
   loopK (fun (s2 : Int) rec1 =>
    (if (decide (s2 < ((p_s1.length : Nat) : Int))) = true then
     gd ((0 : Int) <= s2 /\ s2 < ((p_s1.length : Nat) : Int)) <|
     gd ((0 : Int) <= s2 /\ s2 < ((p_s2.length : Nat) : Int)) <|
     (if ((gt p_s1 s2) != (gt p_s2 s2)) = true then
      some false
     else
      rec1 (IntKind.i64.wrap (s2 + 1)))
    else
     k1 ())) bigF 0))
def head_Get (b : List Int) : Option (Yz7 × Int) :=
 (if (decide (((b.length : Nat) : Int) < 64)) = true then
  some ((0, 0, 0, 0), 10)
 else
  (head_Get_1 16 2 b).bind fun z1 =>
  (head_Get_1 24 8 b).bind fun z2 =>
  (head_Get_1 32 8 b).bind fun z3 =>
  (head_Get_1 56 2 b).bind fun z4 =>
  (head_Put (IntKind.i64.wrap z1, z2, z3, IntKind.i64.wrap z4)).bind fun z5 =>
  jn (fun (s1 : Bool) =>
   (if (s1) = true then
    some ((0, 0, 0, 0), 11)
   else
    some ((IntKind.i64.wrap z1, z2, z3, IntKind.i64.wrap z4), 0))) (fun k1 =>
   (if (z5.2 != 0) = true then
   k1 true
   else
   gd ((0 : Int) <= 0 /\ (0 : Int) <= 64 /\ 64 <= ((b.length : Nat) : Int)) <|
   (slices_Equal_byte_byte z5.1 (cutL b 0 64)).bind fun z6 =>
   k1 (!z6))))
def octets_Cut (b : List Int) (p_at : Int) (size : Int) : Option ((List Int) × Int) :=
 (octets_has ((b.length : Nat) : Int) p_at size).bind fun z1 =>
 (if (!z1) = true then
  some ([], 10)
 else
  gd ((0 : Int) <= p_at /\ (p_at : Int) <= (IntKind.u64.wrap (p_at + size)) /\ (IntKind.u64.wrap (p_at + size)) <= ((b.length : Nat) : Int)) <|
  (slices_Clone_byte_byte (cutL b p_at (IntKind.u64.wrap (p_at + size)))).bind fun z2 =>
  some (z2, 0))
def segs_Get (b : List Int) : Option (Yz3 × Int) :=
 (if (decide (((b.length : Nat) : Int) < 56)) = true then
  some ((0, 0, 0, 0, 0, 0, 0), 10)
 else
  jn (fun (s1 : List Int) =>
   gd ((0 : Int) <= 2 /\ 2 < ((7 : Nat) : Int)) <|
   gd ((0 : Int) <= 3 /\ 3 < ((7 : Nat) : Int)) <|
   (if ((gt s1 2) != (gt s1 3)) = true then
    some ((0, 0, 0, 0, 0, 0, 0), 11)
   else
    gd ((0 : Int) <= 0 /\ 0 < ((7 : Nat) : Int)) <|
    gd ((0 : Int) <= 0 /\ 0 < ((7 : Nat) : Int)) <|
    gd ((0 : Int) <= 1 /\ 1 < ((7 : Nat) : Int)) <|
    gd ((0 : Int) <= 2 /\ 2 < ((7 : Nat) : Int)) <|
    gd ((0 : Int) <= 4 /\ 4 < ((7 : Nat) : Int)) <|
    gd ((0 : Int) <= 5 /\ 5 < ((7 : Nat) : Int)) <|
    gd ((0 : Int) <= 6 /\ 6 < ((7 : Nat) : Int)) <|
    some ((IntKind.u32.wrap (gt s1 0), IntKind.u32.wrap (shr .u64 (gt s1 0) 32), gt s1 1, gt s1 2, gt s1 4, gt s1 5, gt s1 6), 0))) (fun k1 =>
   loopK (fun (s2 : Int × (List Int)) rec1 =>
    (if (decide (s2.1 < 7)) = true then
     (octets_Get b (IntKind.u64.wrap (IntKind.i64.wrap (8 * s2.1))) 8).bind fun z1 =>
     gd ((0 : Int) <= s2.1 /\ s2.1 < ((7 : Nat) : Int)) <|
     rec1 (IntKind.i64.wrap (s2.1 + 1), (s2.2.set (Int.toNat s2.1) z1.1))
    else
     k1 s2.2)) bigF (0, (List.replicate 7 0 : List Int))))
def segs_Table (b : List Int) (p_at : Int) (n : Int) : Option ((List Yz3) × Int) :=
 jn (fun (s1 : Bool) =>
  (if (s1) = true then
   some ([], 1)
  else
   (octets_Cut b p_at (IntKind.u64.wrap (IntKind.i64.wrap (n * 56)))).bind fun z1 =>
   (if (z1.2 != 0) = true then
    some ([], z1.2)
   else
    jn (fun (s3 : List Yz3) =>
     some (s3, 0)) (fun k3 =>
     loopK (fun (s4 : (List Yz3) × Int) rec1 =>
      (if (decide (s4.2 < n)) = true then
       gd ((0 : Int) <= (IntKind.i64.wrap (s4.2 * 56)) /\ (IntKind.i64.wrap (s4.2 * 56) : Int) <= ((z1.1.length : Nat) : Int) /\ ((z1.1.length : Nat) : Int) <= ((z1.1.length : Nat) : Int)) <|
       (segs_Get (cutL z1.1 (IntKind.i64.wrap (s4.2 * 56)) ((z1.1.length : Nat) : Int))).bind fun z2 =>
       (if (z2.2 != 0) = true then
        some ([], z2.2)
       else
        gd ((s4.1.length + ([(z2.1.1, z2.1.2.1, z2.1.2.2.1, z2.1.2.2.2.1, z2.1.2.2.2.2.1, z2.1.2.2.2.2.2.1, z2.1.2.2.2.2.2.2)] : List Yz3).length) * 48 <= 140737488355328) <|
        rec1 ((s4.1 ++ ([(z2.1.1, z2.1.2.1, z2.1.2.2.1, z2.1.2.2.2.1, z2.1.2.2.2.2.1, z2.1.2.2.2.2.2.1, z2.1.2.2.2.2.2.2)] : List Yz3)), IntKind.i64.wrap (s4.2 + 1)))
      else
       k3 s4.1)) bigF ([], 0))))) (fun k1 =>
  (if (decide (n < 0)) = true then
  k1 true
  else
  k1 (decide (n > 64))))
def slices_Index_uint32_uint32 (p_s : List Int) (p_v : Int) : Option (Int) :=
 jn (fun (_ : Unit) =>
  some (-1)) (fun k1 =>
  loopK (fun (s2 : Int) rec1 =>
   (if (decide (s2 < ((p_s.length : Nat) : Int))) = true then
    gd ((0 : Int) <= s2 /\ s2 < ((p_s.length : Nat) : Int)) <|
    (if (p_v == (gt p_s s2)) = true then
     some s2
    else
     rec1 (IntKind.i64.wrap (s2 + 1)))
   else
    k1 ())) bigF 0)
def slices_Contains_uint32_uint32 (p_s : List Int) (p_v : Int) : Option (Bool) :=
 (slices_Index_uint32_uint32 p_s p_v).bind fun z1 =>
 some (decide (z1 >= 0))
def segs_kind (p_k : Int) : Option (Bool) :=
 (slices_Contains_uint32_uint32 ([0, 1, 2, 4, 7] : List Int) p_k).bind fun z1 =>
 some z1
def segs_one (p_s : Yz3) (size : Int) : Option (Int) :=
 jn (fun (s1 : Bool) =>
  (if (s1) = true then
   some 11
  else
   (if (p_s.1 == 0) = true then
    some 0
   else
    jn (fun (s2 : Bool) =>
     (if (s2) = true then
      some 10
     else
      (if (decide (p_s.2.2.2.2.2.1 < p_s.2.2.2.2.1)) = true then
       some 11
      else
       jn (fun (s3 : Bool) =>
        (if (s3) = true then
         some 13
        else
         jn (fun (s4 : Bool) =>
          (if (s4) = true then
           some 11
          else
           some 0)) (fun k4 =>
          (if (p_s.1 == 1) = true then
          (if ((Int.tmod p_s.2.2.2.1 256) != (Int.tmod p_s.2.2.1 256)) = true then
          k4 true
          else
          k4 (p_s.2.2.2.2.2.1 == 0))
          else
          k4 false)))) (fun k3 =>
        (if (decide (p_s.2.2.2.1 > 4294967296)) = true then
        k3 true
        else
        k3 (decide (p_s.2.2.2.2.2.1 > (IntKind.u64.wrap (4294967296 - p_s.2.2.2.1))))))))) (fun k2 =>
     (if (decide (p_s.2.2.1 > size)) = true then
     k2 true
     else
     k2 (decide (p_s.2.2.2.2.1 > (IntKind.u64.wrap (size - p_s.2.2.1))))))))) (fun k1 =>
  (segs_kind p_s.1).bind fun z1 =>
  (if (!z1) = true then
  k1 true
  else
  k1 (decide (p_s.2.1 > 7))))
def segs_Find_1 (p_s : Yz3) (q_1 : Int) : Option (Bool) :=
 some (p_s.1 == q_1)
def slices_IndexFunc_api_Seg_api_Seg_Find_1 (p_s : List Yz3) (q_c0 : Int) : Option (Int) :=
 jn (fun (_ : Unit) =>
  some (-1)) (fun k1 =>
  loopK (fun (s2 : Int) rec1 =>
   (if (decide (s2 < ((p_s.length : Nat) : Int))) = true then
    gd ((0 : Int) <= s2 /\ s2 < ((p_s.length : Nat) : Int)) <|
    (segs_Find_1 (gt p_s s2) q_c0).bind fun z1 =>
    (if (z1) = true then
     some s2
    else
     rec1 (IntKind.i64.wrap (s2 + 1)))
   else
    k1 ())) bigF 0)
def segs_Find (p_l : List Yz3) (kind : Int) : Option (Yz3 × Bool) :=
 (slices_IndexFunc_api_Seg_api_Seg_Find_1 p_l kind).bind fun z1 =>
 (if (decide (z1 < 0)) = true then
  some ((0, 0, 0, 0, 0, 0, 0), false)
 else
  gd ((0 : Int) <= z1 /\ z1 < ((p_l.length : Nat) : Int)) <|
  some (((gt p_l z1).1, (gt p_l z1).2.1, (gt p_l z1).2.2.1, (gt p_l z1).2.2.2.1, (gt p_l z1).2.2.2.2.1, (gt p_l z1).2.2.2.2.2.1, (gt p_l z1).2.2.2.2.2.2), true))
def segs_single (p_s : Yz3) : Option (Bool) :=
 jn (fun (s1 : Bool) =>
  some s1) (fun k1 =>
  (if (p_s.1 == 2) = true then
  k1 true
  else
  k1 (p_s.1 == 7)))
def segs_pages (p_s : Yz3) : Option (Int × Int) :=
 (octets_Down p_s.2.2.2.1 256).bind fun z1 =>
 (octets_Up (IntKind.u64.wrap (p_s.2.2.2.1 + p_s.2.2.2.2.2.1)) 256).bind fun z2 =>
 some (z1.1, z2.1)
def segs_within_1 (p_x : Yz3) (q_1 : Yz3) : Option (Bool) :=
 jn (fun (s1 : Bool) =>
  some s1) (fun k1 =>
  (if (p_x.1 == 1) = true then
  (if (decide (q_1.2.2.1 >= p_x.2.2.1)) = true then
  (if (decide ((IntKind.u64.wrap (q_1.2.2.1 - p_x.2.2.1)) <= p_x.2.2.2.2.1)) = true then
  (if (decide (q_1.2.2.2.2.1 <= (IntKind.u64.wrap (p_x.2.2.2.2.1 - (IntKind.u64.wrap (q_1.2.2.1 - p_x.2.2.1)))))) = true then
  k1 ((IntKind.u64.wrap (p_x.2.2.2.1 - p_x.2.2.1)) == (IntKind.u64.wrap (q_1.2.2.2.1 - q_1.2.2.1)))
  else
  k1 false)
  else
  k1 false)
  else
  k1 false)
  else
  k1 false))
def slices_IndexFunc_api_Seg_api_Seg_within_1 (p_s : List Yz3) (q_c0 : Yz3) : Option (Int) :=
 jn (fun (_ : Unit) =>
  some (-1)) (fun k1 =>
  loopK (fun (s2 : Int) rec1 =>
   (if (decide (s2 < ((p_s.length : Nat) : Int))) = true then
    gd ((0 : Int) <= s2 /\ s2 < ((p_s.length : Nat) : Int)) <|
    (segs_within_1 (gt p_s s2) (q_c0.1, q_c0.2.1, q_c0.2.2.1, q_c0.2.2.2.1, q_c0.2.2.2.2.1, q_c0.2.2.2.2.2.1, q_c0.2.2.2.2.2.2)).bind fun z1 =>
    (if (z1) = true then
     some s2
    else
     rec1 (IntKind.i64.wrap (s2 + 1)))
   else
    k1 ())) bigF 0)
def slices_ContainsFunc_api_Seg_api_Seg_within_1 (p_s : List Yz3) (q_c0 : Yz3) : Option (Bool) :=
 (slices_IndexFunc_api_Seg_api_Seg_within_1 p_s (q_c0.1, q_c0.2.1, q_c0.2.2.1, q_c0.2.2.2.1, q_c0.2.2.2.2.1, q_c0.2.2.2.2.2.1, q_c0.2.2.2.2.2.2)).bind fun z1 =>
 some (decide (z1 >= 0))
def segs_within (p_l : List Yz3) (p_s : Yz3) : Option (Bool) :=
 jn (fun (s1 : Bool) =>
  some s1) (fun k1 =>
  (if (p_s.2.2.2.2.1 == 0) = true then
  k1 true
  else
  (slices_ContainsFunc_api_Seg_api_Seg_within_1 p_l (p_s.1, p_s.2.1, p_s.2.2.1, p_s.2.2.2.1, p_s.2.2.2.2.1, p_s.2.2.2.2.2.1, p_s.2.2.2.2.2.2)).bind fun z1 =>
  k1 z1))
def segs_Check (p_l : List Yz3) (size : Int) : Option (Int) :=
 jn (fun (_ : Unit) =>
  jn (fun (_ : Unit) =>
   some 0) (fun k5 =>
   loopK (fun (s7 : Int) rec2 =>
    (if (decide (s7 < ((p_l.length : Nat) : Int))) = true then
     gd ((0 : Int) <= s7 /\ s7 < ((p_l.length : Nat) : Int)) <|
     jn (fun (s8 : Bool) =>
      (if (s8) = true then
       some 11
      else
       rec2 (IntKind.i64.wrap (s7 + 1)))) (fun k6 =>
      (segs_single ((gt p_l s7).1, (gt p_l s7).2.1, (gt p_l s7).2.2.1, (gt p_l s7).2.2.2.1, (gt p_l s7).2.2.2.2.1, (gt p_l s7).2.2.2.2.2.1, (gt p_l s7).2.2.2.2.2.2)).bind fun z5 =>
      (if (z5) = true then
      (segs_within p_l ((gt p_l s7).1, (gt p_l s7).2.1, (gt p_l s7).2.2.1, (gt p_l s7).2.2.2.1, (gt p_l s7).2.2.2.2.1, (gt p_l s7).2.2.2.2.2.1, (gt p_l s7).2.2.2.2.2.2)).bind fun z6 =>
      k6 (!z6)
      else
      k6 false))
    else
     k5 ())) bigF 0)) (fun k1 =>
  loopK (fun (s2 : Int × Int) rec1 =>
   (if (decide (s2.2 < ((p_l.length : Nat) : Int))) = true then
    jn (fun (s3 : Int) =>
     rec1 (s3, IntKind.i64.wrap (s2.2 + 1))) (fun k2 =>
     gd ((0 : Int) <= s2.2 /\ s2.2 < ((p_l.length : Nat) : Int)) <|
     (segs_one ((gt p_l s2.2).1, (gt p_l s2.2).2.1, (gt p_l s2.2).2.2.1, (gt p_l s2.2).2.2.2.1, (gt p_l s2.2).2.2.2.2.1, (gt p_l s2.2).2.2.2.2.2.1, (gt p_l s2.2).2.2.2.2.2.2) size).bind fun z1 =>
     (if (z1 != 0) = true then
      some z1
     else
      gd ((0 : Int) <= 0 /\ (0 : Int) <= s2.2 /\ s2.2 <= ((p_l.length : Nat) : Int)) <|
      (segs_Find (cutL p_l 0 s2.2) ((gt p_l s2.2).1)).bind fun z2 =>
      jn (fun (s4 : Bool) =>
       (if (s4) = true then
        some 12
       else
        jn (fun (s5 : Int) =>
         k2 s5) (fun k4 =>
         (if (((gt p_l s2.2).1) == 1) = true then
          (segs_pages ((gt p_l s2.2).1, (gt p_l s2.2).2.1, (gt p_l s2.2).2.2.1, (gt p_l s2.2).2.2.2.1, (gt p_l s2.2).2.2.2.2.1, (gt p_l s2.2).2.2.2.2.2.1, (gt p_l s2.2).2.2.2.2.2.2)).bind fun z4 =>
          (if (decide (z4.1 < s2.1)) = true then
           some 12
          else
           k4 z4.2)
         else
          k4 s2.1)))) (fun k3 =>
       (if (z2.2) = true then
       (segs_single ((gt p_l s2.2).1, (gt p_l s2.2).2.1, (gt p_l s2.2).2.2.1, (gt p_l s2.2).2.2.2.1, (gt p_l s2.2).2.2.2.2.1, (gt p_l s2.2).2.2.2.2.2.1, (gt p_l s2.2).2.2.2.2.2.2)).bind fun z3 =>
       k3 z3
       else
       k3 false))))
   else
    k1 ())) bigF (0, 0))
def image_reader_shape (p_r : Yz0 × Yz4 × (List Int)) : Option (Int × (Yz0 × Yz4 × (List Int))) :=
 (head_Get p_r.1.2.2.2.2.2.2.2).bind fun z1 =>
 (if (z1.2 != 0) = true then
  some (z1.2, (((z1.1.1, z1.1.2.1, z1.1.2.2.1, z1.1.2.2.2), p_r.1.2.1, p_r.1.2.2.1, p_r.1.2.2.2.1, p_r.1.2.2.2.2.1, p_r.1.2.2.2.2.2.1, p_r.1.2.2.2.2.2.2.1, p_r.1.2.2.2.2.2.2.2), (p_r.2.1.1, p_r.2.1.2.1, p_r.2.1.2.2.1, p_r.2.1.2.2.2.1, p_r.2.1.2.2.2.2.1, p_r.2.1.2.2.2.2.2.1, p_r.2.1.2.2.2.2.2.2.1, p_r.2.1.2.2.2.2.2.2.2), p_r.2.2))
 else
  (if (z1.1.1 == 4) = true then
   some (11, (((z1.1.1, z1.1.2.1, z1.1.2.2.1, z1.1.2.2.2), p_r.1.2.1, p_r.1.2.2.1, p_r.1.2.2.2.1, p_r.1.2.2.2.2.1, p_r.1.2.2.2.2.2.1, p_r.1.2.2.2.2.2.2.1, p_r.1.2.2.2.2.2.2.2), (p_r.2.1.1, p_r.2.1.2.1, p_r.2.1.2.2.1, p_r.2.1.2.2.2.1, p_r.2.1.2.2.2.2.1, p_r.2.1.2.2.2.2.2.1, p_r.2.1.2.2.2.2.2.2.1, p_r.2.1.2.2.2.2.2.2.2), p_r.2.2))
  else
   (segs_Table p_r.1.2.2.2.2.2.2.2 z1.1.2.2.1 z1.1.2.2.2).bind fun z2 =>
   (if (z2.2 != 0) = true then
    some (z2.2, (((z1.1.1, z1.1.2.1, z1.1.2.2.1, z1.1.2.2.2), z2.1, p_r.1.2.2.1, p_r.1.2.2.2.1, p_r.1.2.2.2.2.1, p_r.1.2.2.2.2.2.1, p_r.1.2.2.2.2.2.2.1, p_r.1.2.2.2.2.2.2.2), (p_r.2.1.1, p_r.2.1.2.1, p_r.2.1.2.2.1, p_r.2.1.2.2.2.1, p_r.2.1.2.2.2.2.1, p_r.2.1.2.2.2.2.2.1, p_r.2.1.2.2.2.2.2.2.1, p_r.2.1.2.2.2.2.2.2.2), p_r.2.2))
   else
    (segs_Check z2.1 (IntKind.u64.wrap ((p_r.1.2.2.2.2.2.2.2.length : Nat) : Int))).bind fun z3 =>
    (if (z3 != 0) = true then
     some (z3, (((z1.1.1, z1.1.2.1, z1.1.2.2.1, z1.1.2.2.2), z2.1, p_r.1.2.2.1, p_r.1.2.2.2.1, p_r.1.2.2.2.2.1, p_r.1.2.2.2.2.2.1, p_r.1.2.2.2.2.2.2.1, p_r.1.2.2.2.2.2.2.2), (p_r.2.1.1, p_r.2.1.2.1, p_r.2.1.2.2.1, p_r.2.1.2.2.2.1, p_r.2.1.2.2.2.2.1, p_r.2.1.2.2.2.2.2.1, p_r.2.1.2.2.2.2.2.2.1, p_r.2.1.2.2.2.2.2.2.2), p_r.2.2))
    else
     (segs_Find z2.1 1).bind fun z4 =>
     (if (!z4.2) = true then
      some (11, (((z1.1.1, z1.1.2.1, z1.1.2.2.1, z1.1.2.2.2), z2.1, p_r.1.2.2.1, p_r.1.2.2.2.1, p_r.1.2.2.2.2.1, p_r.1.2.2.2.2.2.1, p_r.1.2.2.2.2.2.2.1, p_r.1.2.2.2.2.2.2.2), (p_r.2.1.1, p_r.2.1.2.1, p_r.2.1.2.2.1, p_r.2.1.2.2.2.1, p_r.2.1.2.2.2.2.1, p_r.2.1.2.2.2.2.2.1, p_r.2.1.2.2.2.2.2.2.1, p_r.2.1.2.2.2.2.2.2.2), p_r.2.2))
     else
      some (0, (((z1.1.1, z1.1.2.1, z1.1.2.2.1, z1.1.2.2.2), z2.1, p_r.1.2.2.1, p_r.1.2.2.2.1, p_r.1.2.2.2.2.1, p_r.1.2.2.2.2.2.1, p_r.1.2.2.2.2.2.2.1, p_r.1.2.2.2.2.2.2.2), (p_r.2.1.1, p_r.2.1.2.1, p_r.2.1.2.2.1, p_r.2.1.2.2.2.1, p_r.2.1.2.2.2.2.1, p_r.2.1.2.2.2.2.2.1, p_r.2.1.2.2.2.2.2.2.1, p_r.2.1.2.2.2.2.2.2.2), p_r.2.2)))))))
def dynamic_Get (b : List Int) : Option (Yz4 × Int) :=
 jn (fun (s1 : (List (Int × Bool)) × Yz4) =>
  jn (fun (s5 : Bool) =>
   (if (s5) = true then
    some (([], 0, 0, 0, 0, 0, 0, 0), 11)
   else
    some ((s1.2.1, s1.2.2.1, s1.2.2.2.1, s1.2.2.2.2.1, s1.2.2.2.2.2.1, s1.2.2.2.2.2.2.1, s1.2.2.2.2.2.2.2.1, s1.2.2.2.2.2.2.2.2), 0))) (fun k4 =>
   (if (!((mpGet s1.1 (5 : Int)).getD false)) = true then
   k4 true
   else
   (if (!((mpGet s1.1 (10 : Int)).getD false)) = true then
   k4 true
   else
   (if (!(((mpGet s1.1 (6 : Int)).getD false) == ((mpGet s1.1 (1610612749 : Int)).getD false))) = true then
   k4 true
   else
   k4 (!(((mpGet s1.1 (7 : Int)).getD false) == ((mpGet s1.1 (8 : Int)).getD false)))))))) (fun k1 =>
  loopK (fun (s2 : Int × (List (Int × Bool)) × Yz4) rec1 =>
   jn (fun (s3 : Yz4 × (List (Int × Bool))) =>
    let1 (IntKind.u64.wrap (s2.1 + 16)) fun at_1 =>
    rec1 (at_1, s3.2, (s3.1.1, s3.1.2.1, s3.1.2.2.1, s3.1.2.2.2.1, s3.1.2.2.2.2.1, s3.1.2.2.2.2.2.1, s3.1.2.2.2.2.2.2.1, s3.1.2.2.2.2.2.2.2))) (fun k2 =>
    (octets_Get b s2.1 8).bind fun z1 =>
    (octets_Get b (IntKind.u64.wrap (s2.1 + 8)) 8).bind fun z2 =>
    jn (fun (s4 : Bool) =>
     (if (s4) = true then
      some (([], 0, 0, 0, 0, 0, 0, 0), 10)
     else
      (if (z1.1 == 0) = true then
       k1 (s2.2.1, (s2.2.2.1, s2.2.2.2.1, s2.2.2.2.2.1, s2.2.2.2.2.2.1, s2.2.2.2.2.2.2.1, s2.2.2.2.2.2.2.2.1, s2.2.2.2.2.2.2.2.2.1, s2.2.2.2.2.2.2.2.2.2))
      else
       (if (z1.1 == 14) = true then
       (if (z1.1 == 1) = true then
        gd ((s2.2.2.1.length + ([z2.1] : List Int).length) * 8 <= 140737488355328) <|
        k2 (((s2.2.2.1 ++ ([z2.1] : List Int)), s2.2.2.2.1, s2.2.2.2.2.1, s2.2.2.2.2.2.1, s2.2.2.2.2.2.2.1, s2.2.2.2.2.2.2.2.1, s2.2.2.2.2.2.2.2.2.1, s2.2.2.2.2.2.2.2.2.2), s2.2.1)
       else
        (if ((mpGet s2.2.1 (z1.1 : Int)).getD false) = true then
         some (([], 0, 0, 0, 0, 0, 0, 0), 12)
        else
         k2 ((s2.2.2.1, z2.1, s2.2.2.2.2.1, s2.2.2.2.2.2.1, s2.2.2.2.2.2.2.1, s2.2.2.2.2.2.2.2.1, s2.2.2.2.2.2.2.2.2.1, s2.2.2.2.2.2.2.2.2.2), (mpPut s2.2.1 (z1.1 : Int) (true : Bool)))))
       else
       (if (z1.1 == 5) = true then
       (if (z1.1 == 1) = true then
        gd ((s2.2.2.1.length + ([z2.1] : List Int).length) * 8 <= 140737488355328) <|
        k2 (((s2.2.2.1 ++ ([z2.1] : List Int)), s2.2.2.2.1, s2.2.2.2.2.1, s2.2.2.2.2.2.1, s2.2.2.2.2.2.2.1, s2.2.2.2.2.2.2.2.1, s2.2.2.2.2.2.2.2.2.1, s2.2.2.2.2.2.2.2.2.2), s2.2.1)
       else
        (if ((mpGet s2.2.1 (z1.1 : Int)).getD false) = true then
         some (([], 0, 0, 0, 0, 0, 0, 0), 12)
        else
         k2 ((s2.2.2.1, s2.2.2.2.1, z2.1, s2.2.2.2.2.2.1, s2.2.2.2.2.2.2.1, s2.2.2.2.2.2.2.2.1, s2.2.2.2.2.2.2.2.2.1, s2.2.2.2.2.2.2.2.2.2), (mpPut s2.2.1 (z1.1 : Int) (true : Bool)))))
       else
       (if (z1.1 == 10) = true then
       (if (z1.1 == 1) = true then
        gd ((s2.2.2.1.length + ([z2.1] : List Int).length) * 8 <= 140737488355328) <|
        k2 (((s2.2.2.1 ++ ([z2.1] : List Int)), s2.2.2.2.1, s2.2.2.2.2.1, s2.2.2.2.2.2.1, s2.2.2.2.2.2.2.1, s2.2.2.2.2.2.2.2.1, s2.2.2.2.2.2.2.2.2.1, s2.2.2.2.2.2.2.2.2.2), s2.2.1)
       else
        (if ((mpGet s2.2.1 (z1.1 : Int)).getD false) = true then
         some (([], 0, 0, 0, 0, 0, 0, 0), 12)
        else
         k2 ((s2.2.2.1, s2.2.2.2.1, s2.2.2.2.2.1, z2.1, s2.2.2.2.2.2.2.1, s2.2.2.2.2.2.2.2.1, s2.2.2.2.2.2.2.2.2.1, s2.2.2.2.2.2.2.2.2.2), (mpPut s2.2.1 (z1.1 : Int) (true : Bool)))))
       else
       (if (z1.1 == 6) = true then
       (if (z1.1 == 1) = true then
        gd ((s2.2.2.1.length + ([z2.1] : List Int).length) * 8 <= 140737488355328) <|
        k2 (((s2.2.2.1 ++ ([z2.1] : List Int)), s2.2.2.2.1, s2.2.2.2.2.1, s2.2.2.2.2.2.1, s2.2.2.2.2.2.2.1, s2.2.2.2.2.2.2.2.1, s2.2.2.2.2.2.2.2.2.1, s2.2.2.2.2.2.2.2.2.2), s2.2.1)
       else
        (if ((mpGet s2.2.1 (z1.1 : Int)).getD false) = true then
         some (([], 0, 0, 0, 0, 0, 0, 0), 12)
        else
         k2 ((s2.2.2.1, s2.2.2.2.1, s2.2.2.2.2.1, s2.2.2.2.2.2.1, z2.1, s2.2.2.2.2.2.2.2.1, s2.2.2.2.2.2.2.2.2.1, s2.2.2.2.2.2.2.2.2.2), (mpPut s2.2.1 (z1.1 : Int) (true : Bool)))))
       else
       (if (z1.1 == 1610612749) = true then
       (if (z1.1 == 1) = true then
        gd ((s2.2.2.1.length + ([z2.1] : List Int).length) * 8 <= 140737488355328) <|
        k2 (((s2.2.2.1 ++ ([z2.1] : List Int)), s2.2.2.2.1, s2.2.2.2.2.1, s2.2.2.2.2.2.1, s2.2.2.2.2.2.2.1, s2.2.2.2.2.2.2.2.1, s2.2.2.2.2.2.2.2.2.1, s2.2.2.2.2.2.2.2.2.2), s2.2.1)
       else
        (if ((mpGet s2.2.1 (z1.1 : Int)).getD false) = true then
         some (([], 0, 0, 0, 0, 0, 0, 0), 12)
        else
         k2 ((s2.2.2.1, s2.2.2.2.1, s2.2.2.2.2.1, s2.2.2.2.2.2.1, s2.2.2.2.2.2.2.1, z2.1, s2.2.2.2.2.2.2.2.2.1, s2.2.2.2.2.2.2.2.2.2), (mpPut s2.2.1 (z1.1 : Int) (true : Bool)))))
       else
       (if (z1.1 == 7) = true then
       (if (z1.1 == 1) = true then
        gd ((s2.2.2.1.length + ([z2.1] : List Int).length) * 8 <= 140737488355328) <|
        k2 (((s2.2.2.1 ++ ([z2.1] : List Int)), s2.2.2.2.1, s2.2.2.2.2.1, s2.2.2.2.2.2.1, s2.2.2.2.2.2.2.1, s2.2.2.2.2.2.2.2.1, s2.2.2.2.2.2.2.2.2.1, s2.2.2.2.2.2.2.2.2.2), s2.2.1)
       else
        (if ((mpGet s2.2.1 (z1.1 : Int)).getD false) = true then
         some (([], 0, 0, 0, 0, 0, 0, 0), 12)
        else
         k2 ((s2.2.2.1, s2.2.2.2.1, s2.2.2.2.2.1, s2.2.2.2.2.2.1, s2.2.2.2.2.2.2.1, s2.2.2.2.2.2.2.2.1, z2.1, s2.2.2.2.2.2.2.2.2.2), (mpPut s2.2.1 (z1.1 : Int) (true : Bool)))))
       else
       (if (z1.1 == 8) = true then
       (if (z1.1 == 1) = true then
        gd ((s2.2.2.1.length + ([z2.1] : List Int).length) * 8 <= 140737488355328) <|
        k2 (((s2.2.2.1 ++ ([z2.1] : List Int)), s2.2.2.2.1, s2.2.2.2.2.1, s2.2.2.2.2.2.1, s2.2.2.2.2.2.2.1, s2.2.2.2.2.2.2.2.1, s2.2.2.2.2.2.2.2.2.1, s2.2.2.2.2.2.2.2.2.2), s2.2.1)
       else
        (if ((mpGet s2.2.1 (z1.1 : Int)).getD false) = true then
         some (([], 0, 0, 0, 0, 0, 0, 0), 12)
        else
         k2 ((s2.2.2.1, s2.2.2.2.1, s2.2.2.2.2.1, s2.2.2.2.2.2.1, s2.2.2.2.2.2.2.1, s2.2.2.2.2.2.2.2.1, s2.2.2.2.2.2.2.2.2.1, z2.1), (mpPut s2.2.1 (z1.1 : Int) (true : Bool)))))
       else
       (if (z1.1 == 1) = true then
        gd ((s2.2.2.1.length + ([z2.1] : List Int).length) * 8 <= 140737488355328) <|
        k2 (((s2.2.2.1 ++ ([z2.1] : List Int)), s2.2.2.2.1, s2.2.2.2.2.1, s2.2.2.2.2.2.1, s2.2.2.2.2.2.2.1, s2.2.2.2.2.2.2.2.1, s2.2.2.2.2.2.2.2.2.1, s2.2.2.2.2.2.2.2.2.2), s2.2.1)
       else
        some (([], 0, 0, 0, 0, 0, 0, 0), 11)))))))))))) (fun k3 =>
     (if (z1.2 != 0) = true then
     k3 true
     else
     k3 (z2.2 != 0))))) bigF (0, ([] : List (Int × Bool)), ([], 0, 0, 0, 0, 0, 0, 0)))
def segs_Place (p_l : List Yz3) (addr : Int) (size : Int) : Option (Int × Int) :=
 jn (fun (_ : Unit) =>
  some (0, 40)) (fun k1 =>
  loopK (fun (s2 : Int) rec1 =>
   (if (decide (s2 < ((p_l.length : Nat) : Int))) = true then
    gd ((0 : Int) <= s2 /\ s2 < ((p_l.length : Nat) : Int)) <|
    let1 (IntKind.u64.wrap (addr - ((gt p_l s2).2.2.2.1))) fun at_1 =>
    jn (fun (s3 : Bool) =>
     (if (s3) = true then
      some (IntKind.u64.wrap (((gt p_l s2).2.2.1) + at_1), 0)
     else
      rec1 (IntKind.i64.wrap (s2 + 1)))) (fun k2 =>
     (if (decide (size > 0)) = true then
     (if (((gt p_l s2).1) == 1) = true then
     (if (decide (addr >= ((gt p_l s2).2.2.2.1))) = true then
     (if (decide (at_1 <= ((gt p_l s2).2.2.2.2.1))) = true then
     k2 (decide (size <= (IntKind.u64.wrap (((gt p_l s2).2.2.2.2.1) - at_1))))
     else
     k2 false)
     else
     k2 false)
     else
     k2 false)
     else
     k2 false))
   else
    k1 ())) bigF 0)
def image_reader_at (p_r : Yz0 × Yz4 × (List Int)) (addr : Int) (size : Int) : Option ((List Int) × Int) :=
 (segs_Place p_r.1.2.1 addr size).bind fun z1 =>
 (if (z1.2 != 0) = true then
  some ([], z1.2)
 else
  (octets_Cut p_r.1.2.2.2.2.2.2.2 z1.1 size).bind fun z2 =>
  some (z2.1, z2.2))
def names_Check (table : List Int) : Option (Int) :=
 let1 (((table.length : Nat) : Int)) fun n_1 =>
 jn (fun (s1 : Bool) =>
  (if (s1) = true then
   some 11
  else
   some 0)) (fun k1 =>
  (if (n_1 == 0) = true then
  k1 true
  else
  gd ((0 : Int) <= 0 /\ 0 < ((table.length : Nat) : Int)) <|
  (if ((gt table 0) != 0) = true then
  k1 true
  else
  gd ((0 : Int) <= (IntKind.i64.wrap (n_1 - 1)) /\ (IntKind.i64.wrap (n_1 - 1)) < ((table.length : Nat) : Int)) <|
  k1 ((gt table (IntKind.i64.wrap (n_1 - 1))) != 0))))
def slices_Index_byte_byte (p_s : List Int) (p_v : Int) : Option (Int) :=
 jn (fun (_ : Unit) =>
  some (-1)) (fun k1 =>
  loopK (fun (s2 : Int) rec1 =>
   (if (decide (s2 < ((p_s.length : Nat) : Int))) = true then
    gd ((0 : Int) <= s2 /\ s2 < ((p_s.length : Nat) : Int)) <|
    (if (p_v == (gt p_s s2)) = true then
     some s2
    else
     rec1 (IntKind.i64.wrap (s2 + 1)))
   else
    k1 ())) bigF 0)
def names_At (table : List Int) (p_at : Int) : Option ((List UInt8) × Int) :=
 (if (decide (p_at >= (IntKind.u64.wrap ((table.length : Nat) : Int)))) = true then
  some ([], 10)
 else
  gd ((0 : Int) <= p_at /\ (p_at : Int) <= ((table.length : Nat) : Int) /\ ((table.length : Nat) : Int) <= ((table.length : Nat) : Int)) <|
  (slices_Index_byte_byte (cutL table p_at ((table.length : Nat) : Int)) 0).bind fun z1 =>
  (if (decide (z1 < 0)) = true then
   some ([], 11)
  else
   gd ((0 : Int) <= 0 /\ (0 : Int) <= z1 /\ z1 <= (((cutL table p_at ((table.length : Nat) : Int)).length : Nat) : Int)) <|
   some (toStr (cutL (cutL table p_at ((table.length : Nat) : Int)) 0 z1), 0)))
def image_reader_named (p_r : Yz0 × Yz4 × (List Int)) (p_s : Yz3) : Option (Int × (Yz0 × Yz4 × (List Int))) :=
 (octets_Cut p_r.1.2.2.2.2.2.2.2 p_s.2.2.1 p_s.2.2.2.2.1).bind fun z1 =>
 (if (z1.2 != 0) = true then
  some (z1.2, (((p_r.1.1.1, p_r.1.1.2.1, p_r.1.1.2.2.1, p_r.1.1.2.2.2), p_r.1.2.1, p_r.1.2.2.1, p_r.1.2.2.2.1, p_r.1.2.2.2.2.1, p_r.1.2.2.2.2.2.1, p_r.1.2.2.2.2.2.2.1, p_r.1.2.2.2.2.2.2.2), (p_r.2.1.1, p_r.2.1.2.1, p_r.2.1.2.2.1, p_r.2.1.2.2.2.1, p_r.2.1.2.2.2.2.1, p_r.2.1.2.2.2.2.2.1, p_r.2.1.2.2.2.2.2.2.1, p_r.2.1.2.2.2.2.2.2.2), p_r.2.2))
 else
  (dynamic_Get z1.1).bind fun z2 =>
  (if (z2.2 != 0) = true then
   some (z2.2, (((p_r.1.1.1, p_r.1.1.2.1, p_r.1.1.2.2.1, p_r.1.1.2.2.2), p_r.1.2.1, p_r.1.2.2.1, p_r.1.2.2.2.1, p_r.1.2.2.2.2.1, p_r.1.2.2.2.2.2.1, p_r.1.2.2.2.2.2.2.1, p_r.1.2.2.2.2.2.2.2), (z2.1.1, z2.1.2.1, z2.1.2.2.1, z2.1.2.2.2.1, z2.1.2.2.2.2.1, z2.1.2.2.2.2.2.1, z2.1.2.2.2.2.2.2.1, z2.1.2.2.2.2.2.2.2), p_r.2.2))
  else
   (image_reader_at (((p_r.1.1.1, p_r.1.1.2.1, p_r.1.1.2.2.1, p_r.1.1.2.2.2), p_r.1.2.1, p_r.1.2.2.1, p_r.1.2.2.2.1, p_r.1.2.2.2.2.1, p_r.1.2.2.2.2.2.1, p_r.1.2.2.2.2.2.2.1, p_r.1.2.2.2.2.2.2.2), (z2.1.1, z2.1.2.1, z2.1.2.2.1, z2.1.2.2.2.1, z2.1.2.2.2.2.1, z2.1.2.2.2.2.2.1, z2.1.2.2.2.2.2.2.1, z2.1.2.2.2.2.2.2.2), p_r.2.2) z2.1.2.2.1 z2.1.2.2.2.1).bind fun z3 =>
   (if (z3.2 != 0) = true then
    some (z3.2, (((p_r.1.1.1, p_r.1.1.2.1, p_r.1.1.2.2.1, p_r.1.1.2.2.2), p_r.1.2.1, p_r.1.2.2.1, p_r.1.2.2.2.1, p_r.1.2.2.2.2.1, p_r.1.2.2.2.2.2.1, p_r.1.2.2.2.2.2.2.1, p_r.1.2.2.2.2.2.2.2), (z2.1.1, z2.1.2.1, z2.1.2.2.1, z2.1.2.2.2.1, z2.1.2.2.2.2.1, z2.1.2.2.2.2.2.1, z2.1.2.2.2.2.2.2.1, z2.1.2.2.2.2.2.2.2), z3.1))
   else
    (names_Check z3.1).bind fun z4 =>
    (if (z4 != 0) = true then
     some (z4, (((p_r.1.1.1, p_r.1.1.2.1, p_r.1.1.2.2.1, p_r.1.1.2.2.2), p_r.1.2.1, p_r.1.2.2.1, p_r.1.2.2.2.1, p_r.1.2.2.2.2.1, p_r.1.2.2.2.2.2.1, p_r.1.2.2.2.2.2.2.1, p_r.1.2.2.2.2.2.2.2), (z2.1.1, z2.1.2.1, z2.1.2.2.1, z2.1.2.2.2.1, z2.1.2.2.2.2.1, z2.1.2.2.2.2.2.1, z2.1.2.2.2.2.2.2.1, z2.1.2.2.2.2.2.2.2), z3.1))
    else
     jn (fun (s1 : Yz0 × Yz4 × (List Int)) =>
      jn (fun (s3 : Yz0 × Yz4 × (List Int)) =>
       some (0, (((s3.1.1.1, s3.1.1.2.1, s3.1.1.2.2.1, s3.1.1.2.2.2), s3.1.2.1, s3.1.2.2.1, s3.1.2.2.2.1, s3.1.2.2.2.2.1, s3.1.2.2.2.2.2.1, s3.1.2.2.2.2.2.2.1, s3.1.2.2.2.2.2.2.2), (s3.2.1.1, s3.2.1.2.1, s3.2.1.2.2.1, s3.2.1.2.2.2.1, s3.2.1.2.2.2.2.1, s3.2.1.2.2.2.2.2.1, s3.2.1.2.2.2.2.2.2.1, s3.2.1.2.2.2.2.2.2.2), s3.2.2))) (fun k3 =>
       loopK (fun (s4 : Int × (Yz0 × Yz4 × (List Int))) rec1 =>
        (if (decide (s4.1 < ((s1.2.1.1.length : Nat) : Int))) = true then
         gd ((0 : Int) <= s4.1 /\ s4.1 < ((s1.2.1.1.length : Nat) : Int)) <|
         let1 (gt s1.2.1.1 s4.1) fun at_1 =>
         (names_At s4.2.2.2 at_1).bind fun z6 =>
         jn (fun (s5 : Bool) =>
          jn (fun (s6 : Int) =>
           (if (s6 != 0) = true then
            some (s6, (((s4.2.1.1.1, s4.2.1.1.2.1, s4.2.1.1.2.2.1, s4.2.1.1.2.2.2), s4.2.1.2.1, s4.2.1.2.2.1, s4.2.1.2.2.2.1, s4.2.1.2.2.2.2.1, s4.2.1.2.2.2.2.2.1, s4.2.1.2.2.2.2.2.2.1, s4.2.1.2.2.2.2.2.2.2), (s4.2.2.1.1, s4.2.2.1.2.1, s4.2.2.1.2.2.1, s4.2.2.1.2.2.2.1, s4.2.2.1.2.2.2.2.1, s4.2.2.1.2.2.2.2.2.1, s4.2.2.1.2.2.2.2.2.2.1, s4.2.2.1.2.2.2.2.2.2.2), s4.2.2.2))
           else
            gd ((s4.2.1.2.2.2.1.length + ([z6.1] : List (List UInt8)).length) * 16 <= 140737488355328) <|
            rec1 (IntKind.i64.wrap (s4.1 + 1), (((s4.2.1.1.1, s4.2.1.1.2.1, s4.2.1.1.2.2.1, s4.2.1.1.2.2.2), s4.2.1.2.1, s4.2.1.2.2.1, (s4.2.1.2.2.2.1 ++ ([z6.1] : List (List UInt8))), s4.2.1.2.2.2.2.1, s4.2.1.2.2.2.2.2.1, s4.2.1.2.2.2.2.2.2.1, s4.2.1.2.2.2.2.2.2.2), (s4.2.2.1.1, s4.2.2.1.2.1, s4.2.2.1.2.2.1, s4.2.2.1.2.2.2.1, s4.2.2.1.2.2.2.2.1, s4.2.2.1.2.2.2.2.2.1, s4.2.2.1.2.2.2.2.2.2.1, s4.2.2.1.2.2.2.2.2.2.2), s4.2.2.2)))) (fun k5 =>
           (if (s5) = true then
            k5 11
           else
            k5 z6.2))) (fun k4 =>
          (if (z6.2 == 0) = true then
          k4 (z6.1 == [])
          else
          k4 false))
        else
         k3 (((s4.2.1.1.1, s4.2.1.1.2.1, s4.2.1.1.2.2.1, s4.2.1.1.2.2.2), s4.2.1.2.1, s4.2.1.2.2.1, s4.2.1.2.2.2.1, s4.2.1.2.2.2.2.1, s4.2.1.2.2.2.2.2.1, s4.2.1.2.2.2.2.2.2.1, s4.2.1.2.2.2.2.2.2.2), (s4.2.2.1.1, s4.2.2.1.2.1, s4.2.2.1.2.2.1, s4.2.2.1.2.2.2.1, s4.2.2.1.2.2.2.2.1, s4.2.2.1.2.2.2.2.2.1, s4.2.2.1.2.2.2.2.2.2.1, s4.2.2.1.2.2.2.2.2.2.2), s4.2.2.2))) bigF (0, (((s1.1.1.1, s1.1.1.2.1, s1.1.1.2.2.1, s1.1.1.2.2.2), s1.1.2.1, s1.1.2.2.1, s1.1.2.2.2.1, s1.1.2.2.2.2.1, s1.1.2.2.2.2.2.1, s1.1.2.2.2.2.2.2.1, s1.1.2.2.2.2.2.2.2), (s1.2.1.1, s1.2.1.2.1, s1.2.1.2.2.1, s1.2.1.2.2.2.1, s1.2.1.2.2.2.2.1, s1.2.1.2.2.2.2.2.1, s1.2.1.2.2.2.2.2.2.1, s1.2.1.2.2.2.2.2.2.2), s1.2.2)))) (fun k1 =>
      (if (z2.1.2.1 != 0) = true then
       (names_At z3.1 z2.1.2.1).bind fun z5 =>
       (if (z5.2 != 0) = true then
        some (z5.2, (((p_r.1.1.1, p_r.1.1.2.1, p_r.1.1.2.2.1, p_r.1.1.2.2.2), p_r.1.2.1, z5.1, p_r.1.2.2.2.1, p_r.1.2.2.2.2.1, p_r.1.2.2.2.2.2.1, p_r.1.2.2.2.2.2.2.1, p_r.1.2.2.2.2.2.2.2), (z2.1.1, z2.1.2.1, z2.1.2.2.1, z2.1.2.2.2.1, z2.1.2.2.2.2.1, z2.1.2.2.2.2.2.1, z2.1.2.2.2.2.2.2.1, z2.1.2.2.2.2.2.2.2), z3.1))
       else
        k1 (((p_r.1.1.1, p_r.1.1.2.1, p_r.1.1.2.2.1, p_r.1.1.2.2.2), p_r.1.2.1, z5.1, p_r.1.2.2.2.1, p_r.1.2.2.2.2.1, p_r.1.2.2.2.2.2.1, p_r.1.2.2.2.2.2.2.1, p_r.1.2.2.2.2.2.2.2), (z2.1.1, z2.1.2.1, z2.1.2.2.1, z2.1.2.2.2.1, z2.1.2.2.2.2.1, z2.1.2.2.2.2.2.1, z2.1.2.2.2.2.2.2.1, z2.1.2.2.2.2.2.2.2), z3.1))
      else
       k1 (((p_r.1.1.1, p_r.1.1.2.1, p_r.1.1.2.2.1, p_r.1.1.2.2.2), p_r.1.2.1, p_r.1.2.2.1, p_r.1.2.2.2.1, p_r.1.2.2.2.2.1, p_r.1.2.2.2.2.2.1, p_r.1.2.2.2.2.2.2.1, p_r.1.2.2.2.2.2.2.2), (z2.1.1, z2.1.2.1, z2.1.2.2.1, z2.1.2.2.2.1, z2.1.2.2.2.2.1, z2.1.2.2.2.2.2.1, z2.1.2.2.2.2.2.2.1, z2.1.2.2.2.2.2.2.2), z3.1)))))))
def image_Parse_1_b (q_0 : Yz0 × Yz4 × (List Int)) (q_1 : Yz3) : Option (Int × (Yz0 × Yz4 × (List Int)) × Yz3) :=
 (image_reader_named (((q_0.1.1.1, q_0.1.1.2.1, q_0.1.1.2.2.1, q_0.1.1.2.2.2), q_0.1.2.1, q_0.1.2.2.1, q_0.1.2.2.2.1, q_0.1.2.2.2.2.1, q_0.1.2.2.2.2.2.1, q_0.1.2.2.2.2.2.2.1, q_0.1.2.2.2.2.2.2.2), (q_0.2.1.1, q_0.2.1.2.1, q_0.2.1.2.2.1, q_0.2.1.2.2.2.1, q_0.2.1.2.2.2.2.1, q_0.2.1.2.2.2.2.2.1, q_0.2.1.2.2.2.2.2.2.1, q_0.2.1.2.2.2.2.2.2.2), q_0.2.2) (q_1.1, q_1.2.1, q_1.2.2.1, q_1.2.2.2.1, q_1.2.2.2.2.1, q_1.2.2.2.2.2.1, q_1.2.2.2.2.2.2)).bind fun z1 =>
 some (z1.1, (((z1.2.1.1.1, z1.2.1.1.2.1, z1.2.1.1.2.2.1, z1.2.1.1.2.2.2), z1.2.1.2.1, z1.2.1.2.2.1, z1.2.1.2.2.2.1, z1.2.1.2.2.2.2.1, z1.2.1.2.2.2.2.2.1, z1.2.1.2.2.2.2.2.2.1, z1.2.1.2.2.2.2.2.2.2), (z1.2.2.1.1, z1.2.2.1.2.1, z1.2.2.1.2.2.1, z1.2.2.1.2.2.2.1, z1.2.2.1.2.2.2.2.1, z1.2.2.1.2.2.2.2.2.1, z1.2.2.1.2.2.2.2.2.2.1, z1.2.2.1.2.2.2.2.2.2.2), z1.2.2.2), (q_1.1, q_1.2.1, q_1.2.2.1, q_1.2.2.2.1, q_1.2.2.2.2.1, q_1.2.2.2.2.2.1, q_1.2.2.2.2.2.2))
def symbols_one_1 (place : Int) (n : Int) (q_2 : List Int) : Option (Int) :=
 (octets_Get q_2 place n).bind fun z1 =>
 some z1.1
def symbols_one (b : List Int) : Option Yz5 :=
 (symbols_one_1 0 4 b).bind fun z1 =>
 (symbols_one_1 4 1 b).bind fun z2 =>
 (symbols_one_1 5 1 b).bind fun z3 =>
 (symbols_one_1 6 2 b).bind fun z4 =>
 (symbols_one_1 8 8 b).bind fun z5 =>
 (symbols_one_1 16 8 b).bind fun z6 =>
 some (IntKind.u32.wrap z1, IntKind.u8.wrap z2, IntKind.u8.wrap z3, IntKind.u16.wrap z4, z5, z6)
def symbols_Table (b : List Int) : Option ((List Yz5) × Int) :=
 (if ((Int.tmod ((b.length : Nat) : Int) 24) != 0) = true then
  some ([], 10)
 else
  jn (fun (s1 : List Yz5) =>
   some (s1, 0)) (fun k1 =>
   loopK (fun (s2 : (List Int) × (List Yz5)) rec1 =>
    (if (decide (((s2.1.length : Nat) : Int) > 0)) = true then
     gd (((0 : Int) <= 0 /\ (0 : Int) <= 24 /\ 24 <= ((s2.1.length : Nat) : Int)) /\ (24 : Int) <= 24 /\ 24 <= ((s2.1.length : Nat) : Int)) <|
     (symbols_one (cutL s2.1 0 24)).bind fun z1 =>
     gd ((s2.2.length + ([(z1.1, z1.2.1, z1.2.2.1, z1.2.2.2.1, z1.2.2.2.2.1, z1.2.2.2.2.2)] : List Yz5).length) * 24 <= 140737488355328) <|
     gd ((0 : Int) <= 24 /\ (24 : Int) <= ((s2.1.length : Nat) : Int) /\ ((s2.1.length : Nat) : Int) <= ((s2.1.length : Nat) : Int)) <|
     rec1 ((cutL s2.1 24 ((s2.1.length : Nat) : Int)), (s2.2 ++ ([(z1.1, z1.2.1, z1.2.2.1, z1.2.2.2.1, z1.2.2.2.2.1, z1.2.2.2.2.2)] : List Yz5)))
    else
     k1 s2.2)) bigF (b, [])))
def symbols_Defined (p_s : Yz5) : Option (Bool) :=
 some (p_s.2.2.2.1 != 0)
def symbols_Bind (p_s : Yz5) : Option (Int) :=
 some (IntKind.i64.wrap (shr .u8 p_s.2.1 4))
def symbols_Kind (p_s : Yz5) : Option (Int) :=
 some (IntKind.i64.wrap (band .u8 p_s.2.1 15))
def slices_Index_int_int (p_s : List Int) (p_v : Int) : Option (Int) :=
 jn (fun (_ : Unit) =>
  some (-1)) (fun k1 =>
  loopK (fun (s2 : Int) rec1 =>
   (if (decide (s2 < ((p_s.length : Nat) : Int))) = true then
    gd ((0 : Int) <= s2 /\ s2 < ((p_s.length : Nat) : Int)) <|
    (if (p_v == (gt p_s s2)) = true then
     some s2
    else
     rec1 (IntKind.i64.wrap (s2 + 1)))
   else
    k1 ())) bigF 0)
def slices_Contains_int_int (p_s : List Int) (p_v : Int) : Option (Bool) :=
 (slices_Index_int_int p_s p_v).bind fun z1 =>
 some (decide (z1 >= 0))
def symbols_may (p_s : Yz5) : Option (Bool) :=
 jn (fun (s1 : Bool) =>
  jn (fun (s2 : Bool) =>
   some s2) (fun k2 =>
   (symbols_Bind (p_s.1, p_s.2.1, p_s.2.2.1, p_s.2.2.2.1, p_s.2.2.2.2.1, p_s.2.2.2.2.2)).bind fun z3 =>
   (if (decide (z3 <= 2)) = true then
   (symbols_Kind (p_s.1, p_s.2.1, p_s.2.2.1, p_s.2.2.2.1, p_s.2.2.2.2.1, p_s.2.2.2.2.2)).bind fun z4 =>
   (slices_Contains_int_int ([0, 1, 2, 6] : List Int) z4).bind fun z5 =>
   (if (z5) = true then
   (if (p_s.2.2.1 == 0) = true then
   (if (decide (p_s.2.2.2.1 <= 1)) = true then
   (if (p_s.1 != 0) = true then
   k2 s1
   else
   k2 false)
   else
   k2 false)
   else
   k2 false)
   else
   k2 false)
   else
   k2 false))) (fun k1 =>
  (symbols_Defined (p_s.1, p_s.2.1, p_s.2.2.1, p_s.2.2.2.1, p_s.2.2.2.2.1, p_s.2.2.2.2.2)).bind fun z1 =>
  (if (z1) = true then
  k1 true
  else
  (if (p_s.2.2.2.2.1 == 0) = true then
  (if (p_s.2.2.2.2.2 == 0) = true then
  (symbols_Bind (p_s.1, p_s.2.1, p_s.2.2.1, p_s.2.2.2.1, p_s.2.2.2.2.1, p_s.2.2.2.2.2)).bind fun z2 =>
  let1 (z2 != 0) fun free_1 =>
  k1 free_1
  else
  k1 false)
  else
  k1 false)))
def symbols_Check (p_l : List Yz5) : Option (Int) :=
 jn (fun (_ : Unit) =>
  some 0) (fun k1 =>
  loopK (fun (s2 : Int) rec1 =>
   (if (decide (s2 < ((p_l.length : Nat) : Int))) = true then
    gd ((0 : Int) <= s2 /\ s2 < ((p_l.length : Nat) : Int)) <|
    jn (fun (s3 : Bool) =>
     (if (s3) = true then
      some 11
     else
      rec1 (IntKind.i64.wrap (s2 + 1)))) (fun k2 =>
     (if (s2 == 0) = true then
     (if (!((((gt p_l s2).1) == 0) && ((((gt p_l s2).2.1) == 0) && ((((gt p_l s2).2.2.1) == 0) && ((((gt p_l s2).2.2.2.1) == 0) && ((((gt p_l s2).2.2.2.2.1) == 0) && (((gt p_l s2).2.2.2.2.2) == 0))))))) = true then
     k2 true
     else
     (if (decide (s2 > 0)) = true then
     (symbols_may ((gt p_l s2).1, (gt p_l s2).2.1, (gt p_l s2).2.2.1, (gt p_l s2).2.2.2.1, (gt p_l s2).2.2.2.2.1, (gt p_l s2).2.2.2.2.2)).bind fun z1 =>
     k2 (!z1)
     else
     k2 false))
     else
     (if (decide (s2 > 0)) = true then
     (symbols_may ((gt p_l s2).1, (gt p_l s2).2.1, (gt p_l s2).2.2.1, (gt p_l s2).2.2.2.1, (gt p_l s2).2.2.2.2.1, (gt p_l s2).2.2.2.2.2)).bind fun z2 =>
     k2 (!z2)
     else
     k2 false)))
   else
    k1 ())) bigF 0)
def image_reader_symbols (p_r : Yz0 × Yz4 × (List Int)) : Option (Int × (Yz0 × Yz4 × (List Int))) :=
 (if (decide (p_r.2.1.2.2.2.2.2.1 > 1024)) = true then
  some (13, (((p_r.1.1.1, p_r.1.1.2.1, p_r.1.1.2.2.1, p_r.1.1.2.2.2), p_r.1.2.1, p_r.1.2.2.1, p_r.1.2.2.2.1, p_r.1.2.2.2.2.1, p_r.1.2.2.2.2.2.1, p_r.1.2.2.2.2.2.2.1, p_r.1.2.2.2.2.2.2.2), (p_r.2.1.1, p_r.2.1.2.1, p_r.2.1.2.2.1, p_r.2.1.2.2.2.1, p_r.2.1.2.2.2.2.1, p_r.2.1.2.2.2.2.2.1, p_r.2.1.2.2.2.2.2.2.1, p_r.2.1.2.2.2.2.2.2.2), p_r.2.2))
 else
  (if (p_r.2.1.2.2.2.2.2.1 == 0) = true then
   some (0, (((p_r.1.1.1, p_r.1.1.2.1, p_r.1.1.2.2.1, p_r.1.1.2.2.2), p_r.1.2.1, p_r.1.2.2.1, p_r.1.2.2.2.1, p_r.1.2.2.2.2.1, p_r.1.2.2.2.2.2.1, p_r.1.2.2.2.2.2.2.1, p_r.1.2.2.2.2.2.2.2), (p_r.2.1.1, p_r.2.1.2.1, p_r.2.1.2.2.1, p_r.2.1.2.2.2.1, p_r.2.1.2.2.2.2.1, p_r.2.1.2.2.2.2.2.1, p_r.2.1.2.2.2.2.2.2.1, p_r.2.1.2.2.2.2.2.2.2), p_r.2.2))
  else
   (image_reader_at (((p_r.1.1.1, p_r.1.1.2.1, p_r.1.1.2.2.1, p_r.1.1.2.2.2), p_r.1.2.1, p_r.1.2.2.1, p_r.1.2.2.2.1, p_r.1.2.2.2.2.1, p_r.1.2.2.2.2.2.1, p_r.1.2.2.2.2.2.2.1, p_r.1.2.2.2.2.2.2.2), (p_r.2.1.1, p_r.2.1.2.1, p_r.2.1.2.2.1, p_r.2.1.2.2.2.1, p_r.2.1.2.2.2.2.1, p_r.2.1.2.2.2.2.2.1, p_r.2.1.2.2.2.2.2.2.1, p_r.2.1.2.2.2.2.2.2.2), p_r.2.2) p_r.2.1.2.2.2.2.1 (IntKind.u64.wrap (24 * p_r.2.1.2.2.2.2.2.1))).bind fun z1 =>
   (if (z1.2 != 0) = true then
    some (z1.2, (((p_r.1.1.1, p_r.1.1.2.1, p_r.1.1.2.2.1, p_r.1.1.2.2.2), p_r.1.2.1, p_r.1.2.2.1, p_r.1.2.2.2.1, p_r.1.2.2.2.2.1, p_r.1.2.2.2.2.2.1, p_r.1.2.2.2.2.2.2.1, p_r.1.2.2.2.2.2.2.2), (p_r.2.1.1, p_r.2.1.2.1, p_r.2.1.2.2.1, p_r.2.1.2.2.2.1, p_r.2.1.2.2.2.2.1, p_r.2.1.2.2.2.2.2.1, p_r.2.1.2.2.2.2.2.2.1, p_r.2.1.2.2.2.2.2.2.2), p_r.2.2))
   else
    (symbols_Table z1.1).bind fun z2 =>
    (symbols_Check z2.1).bind fun z3 =>
    (if (z3 != 0) = true then
     some (z3, (((p_r.1.1.1, p_r.1.1.2.1, p_r.1.1.2.2.1, p_r.1.1.2.2.2), p_r.1.2.1, p_r.1.2.2.1, p_r.1.2.2.2.1, p_r.1.2.2.2.2.1, z2.1, p_r.1.2.2.2.2.2.2.1, p_r.1.2.2.2.2.2.2.2), (p_r.2.1.1, p_r.2.1.2.1, p_r.2.1.2.2.1, p_r.2.1.2.2.2.1, p_r.2.1.2.2.2.2.1, p_r.2.1.2.2.2.2.2.1, p_r.2.1.2.2.2.2.2.2.1, p_r.2.1.2.2.2.2.2.2.2), p_r.2.2))
    else
     jn (fun (s2 : Yz0 × Yz4 × (List Int)) =>
      some (0, (((s2.1.1.1, s2.1.1.2.1, s2.1.1.2.2.1, s2.1.1.2.2.2), s2.1.2.1, s2.1.2.2.1, s2.1.2.2.2.1, s2.1.2.2.2.2.1, s2.1.2.2.2.2.2.1, s2.1.2.2.2.2.2.2.1, s2.1.2.2.2.2.2.2.2), (s2.2.1.1, s2.2.1.2.1, s2.2.1.2.2.1, s2.2.1.2.2.2.1, s2.2.1.2.2.2.2.1, s2.2.1.2.2.2.2.2.1, s2.2.1.2.2.2.2.2.2.1, s2.2.1.2.2.2.2.2.2.2), s2.2.2))) (fun k2 =>
      loopK (fun (s3 : Int × (Yz0 × Yz4 × (List Int))) rec1 =>
       (if (decide (s3.1 < ((z2.1.length : Nat) : Int))) = true then
        gd ((0 : Int) <= s3.1 /\ s3.1 < ((z2.1.length : Nat) : Int)) <|
        (names_At s3.2.2.2 (IntKind.u64.wrap ((gt z2.1 s3.1).1))).bind fun z4 =>
        (if (z4.2 != 0) = true then
         some (z4.2, (((s3.2.1.1.1, s3.2.1.1.2.1, s3.2.1.1.2.2.1, s3.2.1.1.2.2.2), s3.2.1.2.1, s3.2.1.2.2.1, s3.2.1.2.2.2.1, s3.2.1.2.2.2.2.1, s3.2.1.2.2.2.2.2.1, s3.2.1.2.2.2.2.2.2.1, s3.2.1.2.2.2.2.2.2.2), (s3.2.2.1.1, s3.2.2.1.2.1, s3.2.2.1.2.2.1, s3.2.2.1.2.2.2.1, s3.2.2.1.2.2.2.2.1, s3.2.2.1.2.2.2.2.2.1, s3.2.2.1.2.2.2.2.2.2.1, s3.2.2.1.2.2.2.2.2.2.2), s3.2.2.2))
        else
         gd ((s3.2.1.2.2.2.2.1.length + ([z4.1] : List (List UInt8)).length) * 16 <= 140737488355328) <|
         rec1 (IntKind.i64.wrap (s3.1 + 1), (((s3.2.1.1.1, s3.2.1.1.2.1, s3.2.1.1.2.2.1, s3.2.1.1.2.2.2), s3.2.1.2.1, s3.2.1.2.2.1, s3.2.1.2.2.2.1, (s3.2.1.2.2.2.2.1 ++ ([z4.1] : List (List UInt8))), s3.2.1.2.2.2.2.2.1, s3.2.1.2.2.2.2.2.2.1, s3.2.1.2.2.2.2.2.2.2), (s3.2.2.1.1, s3.2.2.1.2.1, s3.2.2.1.2.2.1, s3.2.2.1.2.2.2.1, s3.2.2.1.2.2.2.2.1, s3.2.2.1.2.2.2.2.2.1, s3.2.2.1.2.2.2.2.2.2.1, s3.2.2.1.2.2.2.2.2.2.2), s3.2.2.2)))
       else
        k2 (((s3.2.1.1.1, s3.2.1.1.2.1, s3.2.1.1.2.2.1, s3.2.1.1.2.2.2), s3.2.1.2.1, s3.2.1.2.2.1, s3.2.1.2.2.2.1, s3.2.1.2.2.2.2.1, s3.2.1.2.2.2.2.2.1, s3.2.1.2.2.2.2.2.2.1, s3.2.1.2.2.2.2.2.2.2), (s3.2.2.1.1, s3.2.2.1.2.1, s3.2.2.1.2.2.1, s3.2.2.1.2.2.2.1, s3.2.2.1.2.2.2.2.1, s3.2.2.1.2.2.2.2.2.1, s3.2.2.1.2.2.2.2.2.2.1, s3.2.2.1.2.2.2.2.2.2.2), s3.2.2.2))) bigF (0, (((p_r.1.1.1, p_r.1.1.2.1, p_r.1.1.2.2.1, p_r.1.1.2.2.2), p_r.1.2.1, p_r.1.2.2.1, p_r.1.2.2.2.1, p_r.1.2.2.2.2.1, z2.1, p_r.1.2.2.2.2.2.2.1, p_r.1.2.2.2.2.2.2.2), (p_r.2.1.1, p_r.2.1.2.1, p_r.2.1.2.2.1, p_r.2.1.2.2.2.1, p_r.2.1.2.2.2.2.1, p_r.2.1.2.2.2.2.2.1, p_r.2.1.2.2.2.2.2.2.1, p_r.2.1.2.2.2.2.2.2.2), p_r.2.2)))))))
def rela_Table (b : List Int) : Option ((List Yz7) × Int) :=
 (if ((Int.tmod ((b.length : Nat) : Int) 24) != 0) = true then
  some ([], 10)
 else
  jn (fun (s1 : List Yz7) =>
   some (s1, 0)) (fun k1 =>
   loopK (fun (s2 : (List Yz7) × Int) rec1 =>
    (if (decide (s2.2 < (IntKind.u64.wrap ((b.length : Nat) : Int)))) = true then
     (octets_Get b s2.2 8).bind fun z1 =>
     (octets_Get b (IntKind.u64.wrap (s2.2 + 8)) 4).bind fun z2 =>
     (octets_Get b (IntKind.u64.wrap (s2.2 + 12)) 4).bind fun z3 =>
     (octets_Get b (IntKind.u64.wrap (s2.2 + 16)) 8).bind fun z4 =>
     gd ((s2.1.length + ([(z1.1, IntKind.u32.wrap z2.1, IntKind.u32.wrap z3.1, IntKind.i64.wrap z4.1)] : List Yz7).length) * 24 <= 140737488355328) <|
     let1 (IntKind.u64.wrap (s2.2 + 24)) fun at_1 =>
     rec1 ((s2.1 ++ ([(z1.1, IntKind.u32.wrap z2.1, IntKind.u32.wrap z3.1, IntKind.i64.wrap z4.1)] : List Yz7)), at_1)
    else
     k1 s2.1)) bigF ([], 0)))
def rela_Value (kind : Int) (base : Int) (symbol : Int) (add : Int) : Option (Int × Int) :=
 (if (kind == 0) = true then
  some (0, 0)
 else
  (if (kind == 8) = true then
   some (IntKind.u64.wrap (base + (IntKind.u64.wrap add)), 0)
  else
   jn (fun (s1 : Bool) =>
    (if (s1) = true then
     some (symbol, 0)
    else
     jn (fun (s3 : Bool) =>
      (if (s3) = true then
       some (IntKind.u64.wrap (symbol + (IntKind.u64.wrap add)), 0)
      else
       some (0, 33))) (fun k3 =>
      (if (kind == 1) = true then
       k3 (kind == 1)
      else
       jn (fun (s4 : Bool) =>
        k3 s4) (fun k4 =>
        (if (kind == 17) = true then
         k4 (kind == 17)
        else
         k4 (kind == 18))))))) (fun k1 =>
    (if (kind == 6) = true then
     k1 (kind == 6)
    else
     jn (fun (s2 : Bool) =>
      k1 s2) (fun k2 =>
      (if (kind == 7) = true then
       k2 (kind == 7)
      else
       k2 (kind == 16)))))))
def rela_Check (p_l : List Yz7) (symbols : Int) : Option (Int) :=
 jn (fun (_ : Unit) =>
  some 0) (fun k1 =>
  loopK (fun (s2 : Int) rec1 =>
   (if (decide (s2 < ((p_l.length : Nat) : Int))) = true then
    gd ((0 : Int) <= s2 /\ s2 < ((p_l.length : Nat) : Int)) <|
    (rela_Value ((gt p_l s2).2.1) 0 0 0).bind fun z1 =>
    (if (z1.2 != 0) = true then
     some z1.2
    else
     jn (fun (s3 : Bool) =>
      jn (fun (s4 : Bool) =>
       (if (s4) = true then
        some 10
       else
        (if (!(s3 == (((gt p_l s2).2.2.1) == 0))) = true then
         some 11
        else
         rec1 (IntKind.i64.wrap (s2 + 1))))) (fun k3 =>
       (if (decide (((gt p_l s2).2.2.1) > 0)) = true then
       k3 (decide ((IntKind.i64.wrap ((gt p_l s2).2.2.1)) >= symbols))
       else
       k3 false))) (fun k2 =>
      (if (((gt p_l s2).2.1) == 0) = true then
      k2 true
      else
      let1 (((gt p_l s2).2.1) == 8) fun alone_1 =>
      k2 alone_1)))
   else
    k1 ())) bigF 0)
def image_reader_relocations (p_r : Yz0 × Yz4 × (List Int)) : Option (Int × (Yz0 × Yz4 × (List Int))) :=
 (if (decide (p_r.2.1.2.2.2.2.2.2.2 > 65536)) = true then
  some (13, (((p_r.1.1.1, p_r.1.1.2.1, p_r.1.1.2.2.1, p_r.1.1.2.2.2), p_r.1.2.1, p_r.1.2.2.1, p_r.1.2.2.2.1, p_r.1.2.2.2.2.1, p_r.1.2.2.2.2.2.1, p_r.1.2.2.2.2.2.2.1, p_r.1.2.2.2.2.2.2.2), (p_r.2.1.1, p_r.2.1.2.1, p_r.2.1.2.2.1, p_r.2.1.2.2.2.1, p_r.2.1.2.2.2.2.1, p_r.2.1.2.2.2.2.2.1, p_r.2.1.2.2.2.2.2.2.1, p_r.2.1.2.2.2.2.2.2.2), p_r.2.2))
 else
  (if (p_r.2.1.2.2.2.2.2.2.2 == 0) = true then
   some (0, (((p_r.1.1.1, p_r.1.1.2.1, p_r.1.1.2.2.1, p_r.1.1.2.2.2), p_r.1.2.1, p_r.1.2.2.1, p_r.1.2.2.2.1, p_r.1.2.2.2.2.1, p_r.1.2.2.2.2.2.1, p_r.1.2.2.2.2.2.2.1, p_r.1.2.2.2.2.2.2.2), (p_r.2.1.1, p_r.2.1.2.1, p_r.2.1.2.2.1, p_r.2.1.2.2.2.1, p_r.2.1.2.2.2.2.1, p_r.2.1.2.2.2.2.2.1, p_r.2.1.2.2.2.2.2.2.1, p_r.2.1.2.2.2.2.2.2.2), p_r.2.2))
  else
   (image_reader_at (((p_r.1.1.1, p_r.1.1.2.1, p_r.1.1.2.2.1, p_r.1.1.2.2.2), p_r.1.2.1, p_r.1.2.2.1, p_r.1.2.2.2.1, p_r.1.2.2.2.2.1, p_r.1.2.2.2.2.2.1, p_r.1.2.2.2.2.2.2.1, p_r.1.2.2.2.2.2.2.2), (p_r.2.1.1, p_r.2.1.2.1, p_r.2.1.2.2.1, p_r.2.1.2.2.2.1, p_r.2.1.2.2.2.2.1, p_r.2.1.2.2.2.2.2.1, p_r.2.1.2.2.2.2.2.2.1, p_r.2.1.2.2.2.2.2.2.2), p_r.2.2) p_r.2.1.2.2.2.2.2.2.1 p_r.2.1.2.2.2.2.2.2.2).bind fun z1 =>
   (if (z1.2 != 0) = true then
    some (z1.2, (((p_r.1.1.1, p_r.1.1.2.1, p_r.1.1.2.2.1, p_r.1.1.2.2.2), p_r.1.2.1, p_r.1.2.2.1, p_r.1.2.2.2.1, p_r.1.2.2.2.2.1, p_r.1.2.2.2.2.2.1, p_r.1.2.2.2.2.2.2.1, p_r.1.2.2.2.2.2.2.2), (p_r.2.1.1, p_r.2.1.2.1, p_r.2.1.2.2.1, p_r.2.1.2.2.2.1, p_r.2.1.2.2.2.2.1, p_r.2.1.2.2.2.2.2.1, p_r.2.1.2.2.2.2.2.2.1, p_r.2.1.2.2.2.2.2.2.2), p_r.2.2))
   else
    (rela_Table z1.1).bind fun z2 =>
    (if (z2.2 != 0) = true then
     some (z2.2, (((p_r.1.1.1, p_r.1.1.2.1, p_r.1.1.2.2.1, p_r.1.1.2.2.2), p_r.1.2.1, p_r.1.2.2.1, p_r.1.2.2.2.1, p_r.1.2.2.2.2.1, p_r.1.2.2.2.2.2.1, z2.1, p_r.1.2.2.2.2.2.2.2), (p_r.2.1.1, p_r.2.1.2.1, p_r.2.1.2.2.1, p_r.2.1.2.2.2.1, p_r.2.1.2.2.2.2.1, p_r.2.1.2.2.2.2.2.1, p_r.2.1.2.2.2.2.2.2.1, p_r.2.1.2.2.2.2.2.2.2), p_r.2.2))
    else
     (rela_Check z2.1 ((p_r.1.2.2.2.2.2.1.length : Nat) : Int)).bind fun z3 =>
     some (z3, (((p_r.1.1.1, p_r.1.1.2.1, p_r.1.1.2.2.1, p_r.1.1.2.2.2), p_r.1.2.1, p_r.1.2.2.1, p_r.1.2.2.2.1, p_r.1.2.2.2.2.1, p_r.1.2.2.2.2.2.1, z2.1, p_r.1.2.2.2.2.2.2.2), (p_r.2.1.1, p_r.2.1.2.1, p_r.2.1.2.2.1, p_r.2.1.2.2.2.1, p_r.2.1.2.2.2.2.1, p_r.2.1.2.2.2.2.2.1, p_r.2.1.2.2.2.2.2.2.1, p_r.2.1.2.2.2.2.2.2.2), p_r.2.2))))))
def image_reader_loaded_1 (p_s : Yz3) (q_1 : Int) : Option (Bool) :=
 jn (fun (s1 : Bool) =>
  some s1) (fun k1 =>
  (if (p_s.1 == 1) = true then
  (if (decide (q_1 >= p_s.2.2.2.1)) = true then
  (if (decide ((IntKind.u64.wrap (q_1 - p_s.2.2.2.1)) <= p_s.2.2.2.2.2.1)) = true then
  k1 (decide ((IntKind.u64.wrap (p_s.2.2.2.2.2.1 - (IntKind.u64.wrap (q_1 - p_s.2.2.2.1)))) >= 8))
  else
  k1 false)
  else
  k1 false)
  else
  k1 false))
def slices_IndexFunc_api_Seg_api_Seg_reader_loaded_1 (p_s : List Yz3) (q_c0 : Int) : Option (Int) :=
 jn (fun (_ : Unit) =>
  some (-1)) (fun k1 =>
  loopK (fun (s2 : Int) rec1 =>
   (if (decide (s2 < ((p_s.length : Nat) : Int))) = true then
    gd ((0 : Int) <= s2 /\ s2 < ((p_s.length : Nat) : Int)) <|
    (image_reader_loaded_1 (gt p_s s2) q_c0).bind fun z1 =>
    (if (z1) = true then
     some s2
    else
     rec1 (IntKind.i64.wrap (s2 + 1)))
   else
    k1 ())) bigF 0)
def slices_ContainsFunc_api_Seg_api_Seg_reader_loaded_1 (p_s : List Yz3) (q_c0 : Int) : Option (Bool) :=
 (slices_IndexFunc_api_Seg_api_Seg_reader_loaded_1 p_s q_c0).bind fun z1 =>
 some (decide (z1 >= 0))
def image_reader_loaded (p_r : Yz0 × Yz4 × (List Int)) (addr : Int) : Option (Bool) :=
 (slices_ContainsFunc_api_Seg_api_Seg_reader_loaded_1 p_r.1.2.1 addr).bind fun z1 =>
 some z1
def image_reader_sound (p_r : Yz0 × Yz4 × (List Int)) : Option (Int) :=
 jn (fun (_ : Unit) =>
  (segs_Find p_r.1.2.1 7).bind fun z2 =>
  jn (fun (_ : Unit) =>
   some 0) (fun k3 =>
   loopK (fun (s5 : Int) rec2 =>
    (if (decide (s5 < ((p_r.1.2.2.2.2.2.1.length : Nat) : Int))) = true then
     jn (fun (_ : Unit) =>
      rec2 (IntKind.i64.wrap (s5 + 1))) (fun k4 =>
      gd ((0 : Int) <= s5 /\ s5 < ((p_r.1.2.2.2.2.2.1.length : Nat) : Int)) <|
      jn (fun (_ : Unit) =>
       k4 ()) (fun k5 =>
       (symbols_Defined ((gt p_r.1.2.2.2.2.2.1 s5).1, (gt p_r.1.2.2.2.2.2.1 s5).2.1, (gt p_r.1.2.2.2.2.2.1 s5).2.2.1, (gt p_r.1.2.2.2.2.2.1 s5).2.2.2.1, (gt p_r.1.2.2.2.2.2.1 s5).2.2.2.2.1, (gt p_r.1.2.2.2.2.2.1 s5).2.2.2.2.2)).bind fun z3 =>
       jn (fun (_ : Unit) =>
        k5 ()) (fun k6 =>
        (if (!z3) = true then
         k6 ()
        else
         (symbols_Kind ((gt p_r.1.2.2.2.2.2.1 s5).1, (gt p_r.1.2.2.2.2.2.1 s5).2.1, (gt p_r.1.2.2.2.2.2.1 s5).2.2.1, (gt p_r.1.2.2.2.2.2.1 s5).2.2.2.1, (gt p_r.1.2.2.2.2.2.1 s5).2.2.2.2.1, (gt p_r.1.2.2.2.2.2.1 s5).2.2.2.2.2)).bind fun z4 =>
         jn (fun (_ : Unit) =>
          k6 ()) (fun k7 =>
          (if (z4 == 6) = true then
           jn (fun (s10 : Bool) =>
            (if (s10) = true then
             some 11
            else
             k7 ())) (fun k8 =>
            (if (!z2.2) = true then
            k8 true
            else
            k8 (decide (((gt p_r.1.2.2.2.2.2.1 s5).2.2.2.2.1) > z2.1.2.2.2.2.2.1))))
          else
           (if (decide (((gt p_r.1.2.2.2.2.2.1 s5).2.2.2.2.1) > 4294967296)) = true then
            some 13
           else
            k7 ())))))))
    else
     k3 ())) bigF 0)) (fun k1 =>
  loopK (fun (s2 : Int) rec1 =>
   (if (decide (s2 < ((p_r.1.2.2.2.2.2.2.1.length : Nat) : Int))) = true then
    gd ((0 : Int) <= s2 /\ s2 < ((p_r.1.2.2.2.2.2.2.1.length : Nat) : Int)) <|
    jn (fun (s3 : Bool) =>
     (if (s3) = true then
      some 40
     else
      rec1 (IntKind.i64.wrap (s2 + 1)))) (fun k2 =>
     (if (((gt p_r.1.2.2.2.2.2.2.1 s2).2.1) != 0) = true then
     (image_reader_loaded (((p_r.1.1.1, p_r.1.1.2.1, p_r.1.1.2.2.1, p_r.1.1.2.2.2), p_r.1.2.1, p_r.1.2.2.1, p_r.1.2.2.2.1, p_r.1.2.2.2.2.1, p_r.1.2.2.2.2.2.1, p_r.1.2.2.2.2.2.2.1, p_r.1.2.2.2.2.2.2.2), (p_r.2.1.1, p_r.2.1.2.1, p_r.2.1.2.2.1, p_r.2.1.2.2.2.1, p_r.2.1.2.2.2.2.1, p_r.2.1.2.2.2.2.2.1, p_r.2.1.2.2.2.2.2.2.1, p_r.2.1.2.2.2.2.2.2.2), p_r.2.2) ((gt p_r.1.2.2.2.2.2.2.1 s2).1)).bind fun z1 =>
     k2 (!z1)
     else
     k2 false))
   else
    k1 ())) bigF 0)
def image_Parse (file : List Int) : Option (Yz0 × Int) :=
 (if (decide (((file.length : Nat) : Int) > 65536)) = true then
  some (((0, 0, 0, 0), [], [], [], [], [], [], []), 13)
 else
  (slices_Clone_byte_byte file).bind fun z1 =>
  (image_reader_shape (((0, 0, 0, 0), [], [], [], [], [], [], z1), ([], 0, 0, 0, 0, 0, 0, 0), [])).bind fun z2 =>
  (if (z2.1 != 0) = true then
   some (((0, 0, 0, 0), [], [], [], [], [], [], []), z2.1)
  else
   (segs_Find z2.2.1.2.1 2).bind fun z3 =>
   (if (z3.2) = true then
    jn (fun (s3 : Yz0 × Yz4 × (List Int)) =>
     some (((s3.1.1.1, s3.1.1.2.1, s3.1.1.2.2.1, s3.1.1.2.2.2), s3.1.2.1, s3.1.2.2.1, s3.1.2.2.2.1, s3.1.2.2.2.2.1, s3.1.2.2.2.2.2.1, s3.1.2.2.2.2.2.2.1, s3.1.2.2.2.2.2.2.2), 0)) (fun k3 =>
     (image_Parse_1_b (((z2.2.1.1.1, z2.2.1.1.2.1, z2.2.1.1.2.2.1, z2.2.1.1.2.2.2), z2.2.1.2.1, z2.2.1.2.2.1, z2.2.1.2.2.2.1, z2.2.1.2.2.2.2.1, z2.2.1.2.2.2.2.2.1, z2.2.1.2.2.2.2.2.2.1, z2.2.1.2.2.2.2.2.2.2), (z2.2.2.1.1, z2.2.2.1.2.1, z2.2.2.1.2.2.1, z2.2.2.1.2.2.2.1, z2.2.2.1.2.2.2.2.1, z2.2.2.1.2.2.2.2.2.1, z2.2.2.1.2.2.2.2.2.2.1, z2.2.2.1.2.2.2.2.2.2.2), z2.2.2.2) (z3.1.1, z3.1.2.1, z3.1.2.2.1, z3.1.2.2.2.1, z3.1.2.2.2.2.1, z3.1.2.2.2.2.2.1, z3.1.2.2.2.2.2.2)).bind fun z4 =>
     (if (z4.1 != 0) = true then
      some (((0, 0, 0, 0), [], [], [], [], [], [], []), z4.1)
     else
      (image_reader_symbols (((z4.2.1.1.1.1, z4.2.1.1.1.2.1, z4.2.1.1.1.2.2.1, z4.2.1.1.1.2.2.2), z4.2.1.1.2.1, z4.2.1.1.2.2.1, z4.2.1.1.2.2.2.1, z4.2.1.1.2.2.2.2.1, z4.2.1.1.2.2.2.2.2.1, z4.2.1.1.2.2.2.2.2.2.1, z4.2.1.1.2.2.2.2.2.2.2), (z4.2.1.2.1.1, z4.2.1.2.1.2.1, z4.2.1.2.1.2.2.1, z4.2.1.2.1.2.2.2.1, z4.2.1.2.1.2.2.2.2.1, z4.2.1.2.1.2.2.2.2.2.1, z4.2.1.2.1.2.2.2.2.2.2.1, z4.2.1.2.1.2.2.2.2.2.2.2), z4.2.1.2.2)).bind fun z5 =>
      (if (z5.1 != 0) = true then
       some (((0, 0, 0, 0), [], [], [], [], [], [], []), z5.1)
      else
       (image_reader_relocations (((z5.2.1.1.1, z5.2.1.1.2.1, z5.2.1.1.2.2.1, z5.2.1.1.2.2.2), z5.2.1.2.1, z5.2.1.2.2.1, z5.2.1.2.2.2.1, z5.2.1.2.2.2.2.1, z5.2.1.2.2.2.2.2.1, z5.2.1.2.2.2.2.2.2.1, z5.2.1.2.2.2.2.2.2.2), (z5.2.2.1.1, z5.2.2.1.2.1, z5.2.2.1.2.2.1, z5.2.2.1.2.2.2.1, z5.2.2.1.2.2.2.2.1, z5.2.2.1.2.2.2.2.2.1, z5.2.2.1.2.2.2.2.2.2.1, z5.2.2.1.2.2.2.2.2.2.2), z5.2.2.2)).bind fun z6 =>
       (if (z6.1 != 0) = true then
        some (((0, 0, 0, 0), [], [], [], [], [], [], []), z6.1)
       else
        (image_reader_sound (((z6.2.1.1.1, z6.2.1.1.2.1, z6.2.1.1.2.2.1, z6.2.1.1.2.2.2), z6.2.1.2.1, z6.2.1.2.2.1, z6.2.1.2.2.2.1, z6.2.1.2.2.2.2.1, z6.2.1.2.2.2.2.2.1, z6.2.1.2.2.2.2.2.2.1, z6.2.1.2.2.2.2.2.2.2), (z6.2.2.1.1, z6.2.2.1.2.1, z6.2.2.1.2.2.1, z6.2.2.1.2.2.2.1, z6.2.2.1.2.2.2.2.1, z6.2.2.1.2.2.2.2.2.1, z6.2.2.1.2.2.2.2.2.2.1, z6.2.2.1.2.2.2.2.2.2.2), z6.2.2.2)).bind fun z7 =>
        (if (z7 != 0) = true then
         some (((0, 0, 0, 0), [], [], [], [], [], [], []), z7)
        else
         k3 (((z6.2.1.1.1, z6.2.1.1.2.1, z6.2.1.1.2.2.1, z6.2.1.1.2.2.2), z6.2.1.2.1, z6.2.1.2.2.1, z6.2.1.2.2.2.1, z6.2.1.2.2.2.2.1, z6.2.1.2.2.2.2.2.1, z6.2.1.2.2.2.2.2.2.1, z6.2.1.2.2.2.2.2.2.2), (z6.2.2.1.1, z6.2.2.1.2.1, z6.2.2.1.2.2.1, z6.2.2.1.2.2.2.1, z6.2.2.1.2.2.2.2.1, z6.2.2.1.2.2.2.2.2.1, z6.2.2.1.2.2.2.2.2.2.1, z6.2.2.1.2.2.2.2.2.2.2), z6.2.2.2))))))
   else
    jn (fun (_ : Unit) =>
     some (((z2.2.1.1.1, z2.2.1.1.2.1, z2.2.1.1.2.2.1, z2.2.1.1.2.2.2), z2.2.1.2.1, z2.2.1.2.2.1, z2.2.1.2.2.2.1, z2.2.1.2.2.2.2.1, z2.2.1.2.2.2.2.2.1, z2.2.1.2.2.2.2.2.2.1, z2.2.1.2.2.2.2.2.2.2), 0)) (fun k4 =>
     (image_reader_sound (((z2.2.1.1.1, z2.2.1.1.2.1, z2.2.1.1.2.2.1, z2.2.1.1.2.2.2), z2.2.1.2.1, z2.2.1.2.2.1, z2.2.1.2.2.2.1, z2.2.1.2.2.2.2.1, z2.2.1.2.2.2.2.2.1, z2.2.1.2.2.2.2.2.2.1, z2.2.1.2.2.2.2.2.2.2), (z2.2.2.1.1, z2.2.2.1.2.1, z2.2.2.1.2.2.1, z2.2.2.1.2.2.2.1, z2.2.2.1.2.2.2.2.1, z2.2.2.1.2.2.2.2.2.1, z2.2.2.1.2.2.2.2.2.2.1, z2.2.2.1.2.2.2.2.2.2.2), z2.2.2.2)).bind fun z8 =>
     (if (z8 != 0) = true then
      some (((0, 0, 0, 0), [], [], [], [], [], [], []), z8)
     else
      k4 ())))))
def law09_awake  : Option (Bool) :=
 (image_Build (3, [], [], 0, [], [], 0, [], 0, [], [])).bind fun z1 =>
 (image_Parse z1.1).bind fun z2 =>
 (image_Parse ([] : List Int)).bind fun z3 =>
 jn (fun (s1 : Bool) =>
  some s1) (fun k1 =>
  (if (z1.2 == 0) = true then
  (if (((z1.1.length : Nat) : Int) == 232) = true then
  (if (z2.2 == 0) = true then
  (if (((z2.1.2.1.length : Nat) : Int) == 2) = true then
  k1 (z3.2 == 10)
  else
  k1 false)
  else
  k1 false)
  else
  k1 false)
  else
  k1 false))
def ref01_width (n : Int) : Option (Bool) :=
 jn (fun (s1 : Bool) =>
  some s1) (fun k1 =>
  (if (n == 1) = true then
  k1 true
  else
  (if (n == 2) = true then
  k1 true
  else
  (if (n == 4) = true then
  k1 true
  else
  k1 (n == 8)))))
def ref01_Inside (p_many : Int) (p_at : Int) (size : Int) : Option (Bool) :=
 (if (decide (p_at > (IntKind.u64.wrap p_many))) = true then
  some false
 else
  some (decide (size <= (IntKind.u64.wrap ((IntKind.u64.wrap p_many) - p_at)))))
def ref01_Get (b : List Int) (p_at : Int) (n : Int) : Option (Int × Int) :=
 (ref01_width n).bind fun z1 =>
 (if (!z1) = true then
  some (0, 1)
 else
  (ref01_Inside ((b.length : Nat) : Int) p_at (IntKind.u64.wrap n)).bind fun z2 =>
  (if (!z2) = true then
   some (0, 10)
  else
   let1 (IntKind.i64.wrap (n - 1)) fun i_1 =>
   jn (fun (s1 : Int) =>
    some (s1, 0)) (fun k1 =>
    loopK (fun (s2 : Int × Int) rec1 =>
     (if (decide (s2.2 >= 0)) = true then
      gd ((0 : Int) <= (IntKind.i64.wrap ((IntKind.i64.wrap p_at) + s2.2)) /\ (IntKind.i64.wrap ((IntKind.i64.wrap p_at) + s2.2)) < ((b.length : Nat) : Int)) <|
      let1 (IntKind.u64.wrap ((IntKind.u64.wrap (s2.1 * 256)) + (IntKind.u64.wrap (gt b (IntKind.i64.wrap ((IntKind.i64.wrap p_at) + s2.2)))))) fun x_1 =>
      let1 (IntKind.i64.wrap (s2.2 - 1)) fun i_2 =>
      rec1 (x_1, i_2)
     else
      k1 s2.1)) bigF (0, i_1))))
def ref03_number (b : List Int) (p_x : Int) (n : Int) : Option (List Int) :=
 jn (fun (s1 : List Int) =>
  some s1) (fun k1 =>
  loopK (fun (s2 : (List Int) × Int × Int) rec1 =>
   (if (decide (s2.2.2 < n)) = true then
    gd ((s2.1.length + ([IntKind.u8.wrap (Int.tmod s2.2.1 256)] : List Int).length) * 1 <= 140737488355328) <|
    let1 (IntKind.u64.wrap (Int.tdiv s2.2.1 256)) fun x_1 =>
    let1 (IntKind.i64.wrap (s2.2.2 + 1)) fun i_1 =>
    rec1 ((s2.1 ++ ([IntKind.u8.wrap (Int.tmod s2.2.1 256)] : List Int)), x_1, i_1)
   else
    k1 s2.1)) bigF (b, p_x, 0))
def ref03_Put (p_h : Yz7) : Option ((List Int) × Int) :=
 jn (fun (s1 : Bool) =>
  (if (s1) = true then
   some ([], 1)
  else
   (ref03_number ([127, 69, 76, 70, 2, 1, 1, 0, 0, 0, 0, 0, 0, 0, 0, 0] : List Int) (IntKind.u64.wrap p_h.1) 2).bind fun z1 =>
   (ref03_number z1 19823 2).bind fun z2 =>
   (ref03_number z2 1 4).bind fun z3 =>
   (ref03_number z3 p_h.2.1 8).bind fun z4 =>
   (ref03_number z4 p_h.2.2.1 8).bind fun z5 =>
   (ref03_number z5 0 12).bind fun z6 =>
   (ref03_number z6 64 2).bind fun z7 =>
   (ref03_number z7 56 2).bind fun z8 =>
   (ref03_number z8 (IntKind.u64.wrap p_h.2.2.2) 2).bind fun z9 =>
   (ref03_number z9 0 6).bind fun z10 =>
   some (z10, 0))) (fun k1 =>
  (if (decide (p_h.1 < 2)) = true then
  k1 true
  else
  (if (decide (p_h.1 > 4)) = true then
  k1 true
  else
  (if (decide (p_h.2.2.2 < 0)) = true then
  k1 true
  else
  k1 (decide (p_h.2.2.2 > 64))))))
def ref03_Get (b : List Int) : Option (Yz7 × Int) :=
 (if (decide (((b.length : Nat) : Int) < 64)) = true then
  some ((0, 0, 0, 0), 10)
 else
  (ref01_Get b 16 2).bind fun z1 =>
  (ref01_Get b 24 8).bind fun z2 =>
  (ref01_Get b 32 8).bind fun z3 =>
  (ref01_Get b 56 2).bind fun z4 =>
  (ref03_Put (IntKind.i64.wrap z1.1, z2.1, z3.1, IntKind.i64.wrap z4.1)).bind fun z5 =>
  jn (fun (s1 : Bool) =>
   (if (s1) = true then
    some ((0, 0, 0, 0), 11)
   else
    some ((IntKind.i64.wrap z1.1, z2.1, z3.1, IntKind.i64.wrap z4.1), 0))) (fun k1 =>
   (if (z5.2 != 0) = true then
   k1 true
   else
   gd ((0 : Int) <= 0 /\ (0 : Int) <= 64 /\ 64 <= ((b.length : Nat) : Int)) <|
   k1 (!((toStr z5.1) == (toStr (cutL b 0 64)))))))
def ref01_Cut (b : List Int) (p_at : Int) (size : Int) : Option ((List Int) × Int) :=
 (ref01_Inside ((b.length : Nat) : Int) p_at size).bind fun z1 =>
 (if (!z1) = true then
  some ([], 10)
 else
  jn (fun (s1 : List Int) =>
   some (s1, 0)) (fun k1 =>
   loopK (fun (s2 : (List Int) × Int) rec1 =>
    (if (decide (s2.2 < size)) = true then
     gd ((0 : Int) <= (IntKind.u64.wrap (p_at + s2.2)) /\ (IntKind.u64.wrap (p_at + s2.2)) < ((b.length : Nat) : Int)) <|
     gd ((s2.1.length + ([gt b (IntKind.u64.wrap (p_at + s2.2))] : List Int).length) * 1 <= 140737488355328) <|
     let1 (IntKind.u64.wrap (s2.2 + 1)) fun i_1 =>
     rec1 ((s2.1 ++ ([gt b (IntKind.u64.wrap (p_at + s2.2))] : List Int)), i_1)
    else
     k1 s2.1)) bigF ([], 0)))
def ref04_at (b : List Int) (i : Int) (n : Int) : Option (Int) :=
 (ref01_Get b i n).bind fun z1 =>
 some z1.1
def ref04_Get (b : List Int) : Option (Yz3 × Int) :=
 (if (decide (((b.length : Nat) : Int) < 56)) = true then
  some ((0, 0, 0, 0, 0, 0, 0), 10)
 else
  (ref04_at b 16 8).bind fun z1 =>
  (ref04_at b 24 8).bind fun z2 =>
  (if (z1 != z2) = true then
   some ((0, 0, 0, 0, 0, 0, 0), 11)
  else
   (ref04_at b 0 4).bind fun z3 =>
   (ref04_at b 4 4).bind fun z4 =>
   (ref04_at b 8 8).bind fun z5 =>
   (ref04_at b 16 8).bind fun z6 =>
   (ref04_at b 32 8).bind fun z7 =>
   (ref04_at b 40 8).bind fun z8 =>
   (ref04_at b 48 8).bind fun z9 =>
   some ((IntKind.u32.wrap z3, IntKind.u32.wrap z4, z5, z6, z7, z8, z9), 0)))
def ref04_Table (b : List Int) (p_from : Int) (n : Int) : Option ((List Yz3) × Int) :=
 jn (fun (s1 : Bool) =>
  (if (s1) = true then
   some ([], 1)
  else
   (ref01_Cut b p_from (IntKind.u64.wrap (IntKind.i64.wrap (56 * n)))).bind fun z1 =>
   (if (z1.2 != 0) = true then
    some ([], z1.2)
   else
    jn (fun (s3 : List Yz3) =>
     some (s3, 0)) (fun k3 =>
     loopK (fun (s4 : (List Yz3) × Int) rec1 =>
      (if (decide (s4.2 < n)) = true then
       gd ((0 : Int) <= (IntKind.i64.wrap (56 * s4.2)) /\ (IntKind.i64.wrap (56 * s4.2) : Int) <= (IntKind.i64.wrap ((IntKind.i64.wrap (56 * s4.2)) + 56)) /\ (IntKind.i64.wrap ((IntKind.i64.wrap (56 * s4.2)) + 56)) <= ((z1.1.length : Nat) : Int)) <|
       (ref04_Get (cutL z1.1 (IntKind.i64.wrap (56 * s4.2)) (IntKind.i64.wrap ((IntKind.i64.wrap (56 * s4.2)) + 56)))).bind fun z2 =>
       (if (z2.2 != 0) = true then
        some ([], z2.2)
       else
        gd ((s4.1.length + ([(z2.1.1, z2.1.2.1, z2.1.2.2.1, z2.1.2.2.2.1, z2.1.2.2.2.2.1, z2.1.2.2.2.2.2.1, z2.1.2.2.2.2.2.2)] : List Yz3).length) * 48 <= 140737488355328) <|
        let1 (IntKind.i64.wrap (s4.2 + 1)) fun i_1 =>
        rec1 ((s4.1 ++ ([(z2.1.1, z2.1.2.1, z2.1.2.2.1, z2.1.2.2.2.1, z2.1.2.2.2.2.1, z2.1.2.2.2.2.2.1, z2.1.2.2.2.2.2.2)] : List Yz3)), i_1))
      else
       k3 s4.1)) bigF ([], 0))))) (fun k1 =>
  (if (decide (n < 0)) = true then
  k1 true
  else
  k1 (decide (n > 64))))
def ref04_alone (p_s : Yz3) (size : Int) : Option (Int) :=
 jn (fun (s1 : Bool) =>
  (if (s1) = true then
   some 11
  else
   (if (p_s.1 == 0) = true then
    some 0
   else
    jn (fun (s2 : Bool) =>
     (if (s2) = true then
      some 10
     else
      (if (decide (p_s.2.2.2.2.2.1 < p_s.2.2.2.2.1)) = true then
       some 11
      else
       jn (fun (s3 : Bool) =>
        (if (s3) = true then
         some 13
        else
         jn (fun (s4 : Bool) =>
          (if (s4) = true then
           some 11
          else
           some 0)) (fun k4 =>
          (if (p_s.1 == 1) = true then
          (if ((Int.tmod p_s.2.2.2.1 256) != (Int.tmod p_s.2.2.1 256)) = true then
          k4 true
          else
          k4 (p_s.2.2.2.2.2.1 == 0))
          else
          k4 false)))) (fun k3 =>
        (if (decide (p_s.2.2.2.1 > 4294967296)) = true then
        k3 true
        else
        k3 (decide (p_s.2.2.2.2.2.1 > (IntKind.u64.wrap (4294967296 - p_s.2.2.2.1))))))))) (fun k2 =>
     (if (decide (p_s.2.2.1 > size)) = true then
     k2 true
     else
     k2 (decide (p_s.2.2.2.2.1 > (IntKind.u64.wrap (size - p_s.2.2.1))))))))) (fun k1 =>
  (if (p_s.1 != 0) = true then
  (if (p_s.1 != 1) = true then
  (if (p_s.1 != 2) = true then
  (if (p_s.1 != 4) = true then
  (if (p_s.1 != 7) = true then
  k1 true
  else
  k1 (decide (p_s.2.1 > 7)))
  else
  k1 (decide (p_s.2.1 > 7)))
  else
  k1 (decide (p_s.2.1 > 7)))
  else
  k1 (decide (p_s.2.1 > 7)))
  else
  k1 (decide (p_s.2.1 > 7))))
def ref04_First (p_s : Yz3) : Option (Int) :=
 some (IntKind.u64.wrap ((IntKind.u64.wrap (Int.tdiv p_s.2.2.2.1 256)) * 256))
def ref04_Behind (p_s : Yz3) : Option (Int) :=
 some (IntKind.u64.wrap ((IntKind.u64.wrap (Int.tdiv (IntKind.u64.wrap ((IntKind.u64.wrap (p_s.2.2.2.1 + p_s.2.2.2.2.2.1)) + 255)) 256)) * 256))
def ref04_Check (p_l : List Yz3) (size : Int) : Option (Int) :=
 jn (fun (_ : Unit) =>
  jn (fun (_ : Unit) =>
   some 0) (fun k6 =>
   loopK (fun (s9 : Int) rec3 =>
    (if (decide (s9 < ((p_l.length : Nat) : Int))) = true then
     jn (fun (_ : Unit) =>
      let1 (IntKind.i64.wrap (s9 + 1)) fun i_2 =>
      rec3 i_2) (fun k7 =>
      jn (fun (s11 : Bool) =>
       (if (s11) = true then
        k7 ()
       else
        jn (fun (s12 : Bool) =>
         (if (!s12) = true then
          some 11
         else
          k7 ())) (fun k9 =>
         loopK (fun (s13 : Bool × Int) rec4 =>
          (if (decide (s13.2 < ((p_l.length : Nat) : Int))) = true then
           jn (fun (s14 : Bool) =>
            let1 (IntKind.i64.wrap (s13.2 + 1)) fun k_3 =>
            rec4 (s14, k_3)) (fun k10 =>
            jn (fun (s15 : Bool) =>
             jn (fun (s16 : Bool) =>
              k10 s16) (fun k12 =>
              (if (s15) = true then
               k12 true
              else
               k12 s13.1))) (fun k11 =>
             gd ((0 : Int) <= s13.2 /\ s13.2 < ((p_l.length : Nat) : Int)) <|
             (if (((gt p_l s13.2).1) == 1) = true then
             gd ((0 : Int) <= s9 /\ s9 < ((p_l.length : Nat) : Int)) <|
             gd ((0 : Int) <= s13.2 /\ s13.2 < ((p_l.length : Nat) : Int)) <|
             (if (decide (((gt p_l s9).2.2.1) >= ((gt p_l s13.2).2.2.1))) = true then
             gd ((0 : Int) <= s9 /\ s9 < ((p_l.length : Nat) : Int)) <|
             gd ((0 : Int) <= s9 /\ s9 < ((p_l.length : Nat) : Int)) <|
             gd ((0 : Int) <= s13.2 /\ s13.2 < ((p_l.length : Nat) : Int)) <|
             gd ((0 : Int) <= s13.2 /\ s13.2 < ((p_l.length : Nat) : Int)) <|
             (if (decide ((IntKind.u64.wrap (((gt p_l s9).2.2.1) + ((gt p_l s9).2.2.2.2.1))) <= (IntKind.u64.wrap (((gt p_l s13.2).2.2.1) + ((gt p_l s13.2).2.2.2.2.1))))) = true then
             gd ((0 : Int) <= s9 /\ s9 < ((p_l.length : Nat) : Int)) <|
             gd ((0 : Int) <= s13.2 /\ s13.2 < ((p_l.length : Nat) : Int)) <|
             gd ((0 : Int) <= s13.2 /\ s13.2 < ((p_l.length : Nat) : Int)) <|
             gd ((0 : Int) <= s9 /\ s9 < ((p_l.length : Nat) : Int)) <|
             k11 ((IntKind.u64.wrap (((gt p_l s9).2.2.2.1) + ((gt p_l s13.2).2.2.1))) == (IntKind.u64.wrap (((gt p_l s13.2).2.2.2.1) + ((gt p_l s9).2.2.1))))
             else
             k11 false)
             else
             k11 false)
             else
             k11 false)))
          else
           k9 s13.1)) bigF (false, 0)))) (fun k8 =>
       gd ((0 : Int) <= s9 /\ s9 < ((p_l.length : Nat) : Int)) <|
       (if (((gt p_l s9).1) != 2) = true then
       gd ((0 : Int) <= s9 /\ s9 < ((p_l.length : Nat) : Int)) <|
       (if (((gt p_l s9).1) != 7) = true then
       k8 true
       else
       gd ((0 : Int) <= s9 /\ s9 < ((p_l.length : Nat) : Int)) <|
       k8 (((gt p_l s9).2.2.2.2.1) == 0))
       else
       gd ((0 : Int) <= s9 /\ s9 < ((p_l.length : Nat) : Int)) <|
       k8 (((gt p_l s9).2.2.2.2.1) == 0))))
    else
     k6 ())) bigF 0)) (fun k1 =>
  loopK (fun (s2 : Int) rec1 =>
   (if (decide (s2 < ((p_l.length : Nat) : Int))) = true then
    jn (fun (_ : Unit) =>
     let1 (IntKind.i64.wrap (s2 + 1)) fun i_1 =>
     rec1 i_1) (fun k2 =>
     gd ((0 : Int) <= s2 /\ s2 < ((p_l.length : Nat) : Int)) <|
     (ref04_alone (gt p_l s2) size).bind fun z1 =>
     (if (z1 != 0) = true then
      some z1
     else
      let1 (IntKind.i64.wrap (s2 - 1)) fun k_1 =>
      jn (fun (_ : Unit) =>
       k2 ()) (fun k3 =>
       loopK (fun (s5 : Int) rec2 =>
        (if (decide (s5 >= 0)) = true then
         jn (fun (s6 : Bool) =>
          (if (s6) = true then
           gd ((0 : Int) <= s2 /\ s2 < ((p_l.length : Nat) : Int)) <|
           (ref04_First (gt p_l s2)).bind fun z2 =>
           gd ((0 : Int) <= s5 /\ s5 < ((p_l.length : Nat) : Int)) <|
           (ref04_Behind (gt p_l s5)).bind fun z3 =>
           (if (decide (z2 < z3)) = true then
            some 12
           else
            k3 ())
          else
           jn (fun (s7 : Bool) =>
            (if (s7) = true then
             some 12
            else
             let1 (IntKind.i64.wrap (s5 - 1)) fun k_2 =>
             rec2 k_2)) (fun k5 =>
            gd ((0 : Int) <= s2 /\ s2 < ((p_l.length : Nat) : Int)) <|
            gd ((0 : Int) <= s5 /\ s5 < ((p_l.length : Nat) : Int)) <|
            (if (((gt p_l s2).1) == ((gt p_l s5).1)) = true then
            gd ((0 : Int) <= s2 /\ s2 < ((p_l.length : Nat) : Int)) <|
            (if (((gt p_l s2).1) == 2) = true then
            k5 true
            else
            gd ((0 : Int) <= s2 /\ s2 < ((p_l.length : Nat) : Int)) <|
            k5 (((gt p_l s2).1) == 7))
            else
            k5 false)))) (fun k4 =>
          gd ((0 : Int) <= s2 /\ s2 < ((p_l.length : Nat) : Int)) <|
          (if (((gt p_l s2).1) == 1) = true then
          gd ((0 : Int) <= s5 /\ s5 < ((p_l.length : Nat) : Int)) <|
          k4 (((gt p_l s5).1) == 1)
          else
          k4 false))
        else
         k3 ())) bigF k_1)))
   else
    k1 ())) bigF 0)
def ref04_Find (p_l : List Yz3) (kind : Int) : Option (Int) :=
 jn (fun (_ : Unit) =>
  some (-1)) (fun k1 =>
  loopK (fun (s2 : Int) rec1 =>
   (if (decide (s2 < ((p_l.length : Nat) : Int))) = true then
    gd ((0 : Int) <= s2 /\ s2 < ((p_l.length : Nat) : Int)) <|
    (if (((gt p_l s2).1) == kind) = true then
     some s2
    else
     let1 (IntKind.i64.wrap (s2 + 1)) fun i_1 =>
     rec1 i_1)
   else
    k1 ())) bigF 0)
def ref05_None  : Option ((List Int) × (List Int)) :=
 gd ((0 : Int) <= 7 /\ 7 * ((8 : Nat) : Int) <= 281474976710656) <|
 some ([], (List.replicate (Int.toNat 7) (0 : Int)))
def ref05_Tags  : Option (List Int) :=
 some ([14, 5, 10, 6, 1610612749, 7, 8] : List Int)
def ref05_Get (b : List Int) : Option (((List Int) × (List Int)) × Int) :=
 (ref05_None).bind fun z1 =>
 gd ((0 : Int) <= 7 /\ 7 * ((1 : Nat) : Int) <= 281474976710656) <|
 jn (fun (s1 : (List Bool) × ((List Int) × (List Int))) =>
  jn (fun (s8 : Bool) =>
   (if (s8) = true then
    (ref05_None).bind fun z9 =>
    some ((z9.1, z9.2), 11)
   else
    some ((s1.2.1, s1.2.2), 0))) (fun k6 =>
   gd ((0 : Int) <= 1 /\ 1 < ((s1.1.length : Nat) : Int)) <|
   (if (!(gt s1.1 1)) = true then
   k6 true
   else
   gd ((0 : Int) <= 2 /\ 2 < ((s1.1.length : Nat) : Int)) <|
   (if (!(gt s1.1 2)) = true then
   k6 true
   else
   gd ((0 : Int) <= 3 /\ 3 < ((s1.1.length : Nat) : Int)) <|
   gd ((0 : Int) <= 4 /\ 4 < ((s1.1.length : Nat) : Int)) <|
   (if (!((gt s1.1 3) == (gt s1.1 4))) = true then
   k6 true
   else
   gd ((0 : Int) <= 5 /\ 5 < ((s1.1.length : Nat) : Int)) <|
   gd ((0 : Int) <= 6 /\ 6 < ((s1.1.length : Nat) : Int)) <|
   k6 (!((gt s1.1 5) == (gt s1.1 6)))))))) (fun k1 =>
  loopK (fun (s2 : Int × (List Bool) × ((List Int) × (List Int))) rec1 =>
   jn (fun (s3 : ((List Int) × (List Int)) × (List Bool)) =>
    let1 (IntKind.u64.wrap (s2.1 + 16)) fun at_1 =>
    rec1 (at_1, s3.2, (s3.1.1, s3.1.2))) (fun k2 =>
    (ref01_Inside ((b.length : Nat) : Int) s2.1 16).bind fun z2 =>
    (if (!z2) = true then
     (ref05_None).bind fun z3 =>
     some ((z3.1, z3.2), 10)
    else
     (ref01_Get b s2.1 8).bind fun z4 =>
     (ref01_Get b (IntKind.u64.wrap (s2.1 + 8)) 8).bind fun z5 =>
     (if (z4.1 == 0) = true then
      k1 (s2.2.1, (s2.2.2.1, s2.2.2.2))
     else
      (if (z4.1 == 1) = true then
       gd ((s2.2.2.1.length + ([z5.1] : List Int).length) * 8 <= 140737488355328) <|
       k2 (((s2.2.2.1 ++ ([z5.1] : List Int)), s2.2.2.2), s2.2.1)
      else
       jn (fun (s4 : Int) =>
        (if (decide (s4 < 0)) = true then
         (ref05_None).bind fun z7 =>
         some ((z7.1, z7.2), 11)
        else
         gd ((0 : Int) <= s4 /\ s4 < ((s2.2.1.length : Nat) : Int)) <|
         (if (gt s2.2.1 s4) = true then
          (ref05_None).bind fun z8 =>
          some ((z8.1, z8.2), 12)
         else
          gd ((0 : Int) <= s4 /\ s4 < ((s2.2.1.length : Nat) : Int)) <|
          gd ((0 : Int) <= s4 /\ s4 < ((s2.2.2.2.length : Nat) : Int)) <|
          k2 ((s2.2.2.1, (s2.2.2.2.set (Int.toNat s4) z5.1)), (s2.2.1.set (Int.toNat s4) true))))) (fun k3 =>
        loopK (fun (s5 : Int × Int) rec2 =>
         (if (decide (s5.2 < 7)) = true then
          jn (fun (s6 : Int) =>
           let1 (IntKind.i64.wrap (s5.2 + 1)) fun i_1 =>
           rec2 (s6, i_1)) (fun k4 =>
           (ref05_Tags).bind fun z6 =>
           gd ((0 : Int) <= s5.2 /\ s5.2 < ((z6.length : Nat) : Int)) <|
           jn (fun (s7 : Int) =>
            k4 s7) (fun k5 =>
            (if ((gt z6 s5.2) == z4.1) = true then
             k5 s5.2
            else
             k5 s5.1)))
         else
          k3 s5.1)) bigF ((-1), 0))))))) bigF (0, (List.replicate (Int.toNat 7) false), (z1.1, z1.2)))
def ref04_Place (p_l : List Yz3) (addr : Int) (size : Int) : Option (Int × Int) :=
 (if (size == 0) = true then
  some (0, 40)
 else
  jn (fun (_ : Unit) =>
   some (0, 40)) (fun k1 =>
   loopK (fun (s2 : Int) rec1 =>
    (if (decide (s2 < ((p_l.length : Nat) : Int))) = true then
     gd ((0 : Int) <= s2 /\ s2 < ((p_l.length : Nat) : Int)) <|
     jn (fun (s3 : Bool) =>
      (if (s3) = true then
       let1 (IntKind.i64.wrap (s2 + 1)) fun i_1 =>
       rec1 i_1
      else
       some (IntKind.u64.wrap (((gt p_l s2).2.2.1) + (IntKind.u64.wrap (addr - ((gt p_l s2).2.2.2.1)))), 0))) (fun k2 =>
      (if (((gt p_l s2).1) != 1) = true then
      k2 true
      else
      (if (decide (addr < ((gt p_l s2).2.2.2.1))) = true then
      k2 true
      else
      (if (decide ((IntKind.u64.wrap (addr - ((gt p_l s2).2.2.2.1))) > ((gt p_l s2).2.2.2.2.1))) = true then
      k2 true
      else
      k2 (decide (size > (IntKind.u64.wrap (((gt p_l s2).2.2.2.2.1) - (IntKind.u64.wrap (addr - ((gt p_l s2).2.2.2.1)))))))))))
    else
     k1 ())) bigF 0))
def ref09_bytes (p_x : Yz0) (addr : Int) (size : Int) : Option ((List Int) × Int) :=
 (ref04_Place p_x.2.1 addr size).bind fun z1 =>
 (if (z1.2 != 0) = true then
  some ([], z1.2)
 else
  (ref01_Cut p_x.2.2.2.2.2.2.2 z1.1 size).bind fun z2 =>
  some (z2.1, z2.2))
def ref02_Check (table : List Int) : Option (Int) :=
 jn (fun (s1 : Bool) =>
  (if (s1) = true then
   some 11
  else
   some 0)) (fun k1 =>
  (if (((table.length : Nat) : Int) == 0) = true then
  k1 true
  else
  gd ((0 : Int) <= 0 /\ 0 < ((table.length : Nat) : Int)) <|
  (if ((gt table 0) != 0) = true then
  k1 true
  else
  gd ((0 : Int) <= (IntKind.i64.wrap (((table.length : Nat) : Int) - 1)) /\ (IntKind.i64.wrap (((table.length : Nat) : Int) - 1)) < ((table.length : Nat) : Int)) <|
  k1 ((gt table (IntKind.i64.wrap (((table.length : Nat) : Int) - 1))) != 0))))
def ref02_At (table : List Int) (p_at : Int) : Option ((List UInt8) × Int) :=
 (if (decide (p_at >= (IntKind.u64.wrap ((table.length : Nat) : Int)))) = true then
  some ([], 10)
 else
  let1 (IntKind.i64.wrap p_at) fun i_1 =>
  jn (fun (_ : Unit) =>
   some ([], 11)) (fun k1 =>
   loopK (fun (s2 : Int) rec1 =>
    (if (decide (s2 < ((table.length : Nat) : Int))) = true then
     gd ((0 : Int) <= s2 /\ s2 < ((table.length : Nat) : Int)) <|
     (if ((gt table s2) == 0) = true then
      gd ((0 : Int) <= (IntKind.i64.wrap p_at) /\ (IntKind.i64.wrap p_at : Int) <= s2 /\ s2 <= ((table.length : Nat) : Int)) <|
      some (toStr (cutL table (IntKind.i64.wrap p_at) s2), 0)
     else
      let1 (IntKind.i64.wrap (s2 + 1)) fun i_2 =>
      rec1 i_2)
    else
     k1 ())) bigF i_1))
def ref06_Table (b : List Int) : Option ((List Yz5) × Int) :=
 (if ((Int.tmod ((b.length : Nat) : Int) 24) != 0) = true then
  some ([], 10)
 else
  jn (fun (s1 : List Yz5) =>
   some (s1, 0)) (fun k1 =>
   loopK (fun (s2 : (List Yz5) × Int) rec1 =>
    (if (decide (s2.2 < ((b.length : Nat) : Int))) = true then
     (ref01_Get b (IntKind.u64.wrap s2.2) 4).bind fun z1 =>
     (ref01_Get b (IntKind.u64.wrap (IntKind.i64.wrap (s2.2 + 6))) 2).bind fun z2 =>
     (ref01_Get b (IntKind.u64.wrap (IntKind.i64.wrap (s2.2 + 8))) 8).bind fun z3 =>
     (ref01_Get b (IntKind.u64.wrap (IntKind.i64.wrap (s2.2 + 16))) 8).bind fun z4 =>
     gd ((0 : Int) <= (IntKind.i64.wrap (s2.2 + 4)) /\ (IntKind.i64.wrap (s2.2 + 4)) < ((b.length : Nat) : Int)) <|
     gd ((0 : Int) <= (IntKind.i64.wrap (s2.2 + 5)) /\ (IntKind.i64.wrap (s2.2 + 5)) < ((b.length : Nat) : Int)) <|
     gd ((s2.1.length + ([(IntKind.u32.wrap z1.1, gt b (IntKind.i64.wrap (s2.2 + 4)), gt b (IntKind.i64.wrap (s2.2 + 5)), IntKind.u16.wrap z2.1, z3.1, z4.1)] : List Yz5).length) * 24 <= 140737488355328) <|
     let1 (IntKind.i64.wrap (s2.2 + 24)) fun i_1 =>
     rec1 ((s2.1 ++ ([(IntKind.u32.wrap z1.1, gt b (IntKind.i64.wrap (s2.2 + 4)), gt b (IntKind.i64.wrap (s2.2 + 5)), IntKind.u16.wrap z2.1, z3.1, z4.1)] : List Yz5)), i_1)
    else
     k1 s2.1)) bigF ([], 0)))
def ref06_Check (p_l : List Yz5) : Option (Int) :=
 jn (fun (_ : Unit) =>
  some 0) (fun k1 =>
  loopK (fun (s2 : Int) rec1 =>
   (if (decide (s2 < ((p_l.length : Nat) : Int))) = true then
    jn (fun (_ : Unit) =>
     let1 (IntKind.i64.wrap (s2 + 1)) fun i_1 =>
     rec1 i_1) (fun k2 =>
     gd ((0 : Int) <= s2 /\ s2 < ((p_l.length : Nat) : Int)) <|
     (if (s2 == 0) = true then
      jn (fun (s4 : Bool) =>
       (if (s4) = true then
        some 11
       else
        k2 ())) (fun k3 =>
       (if (((gt p_l s2).1) != 0) = true then
       k3 true
       else
       (if (((gt p_l s2).2.1) != 0) = true then
       k3 true
       else
       (if (((gt p_l s2).2.2.1) != 0) = true then
       k3 true
       else
       (if (((gt p_l s2).2.2.2.1) != 0) = true then
       k3 true
       else
       (if (((gt p_l s2).2.2.2.2.1) != 0) = true then
       k3 true
       else
       k3 (((gt p_l s2).2.2.2.2.2) != 0)))))))
     else
      let1 (IntKind.u8.wrap (Int.tdiv ((gt p_l s2).2.1) 16)) fun bind_1 =>
      let1 (Int.tmod ((gt p_l s2).2.1) 16) fun kind_1 =>
      jn (fun (s5 : Bool) =>
       (if (s5) = true then
        some 11
       else
        jn (fun (s6 : Bool) =>
         (if (s6) = true then
          some 11
         else
          k2 ())) (fun k5 =>
         (if (((gt p_l s2).2.2.2.1) == 0) = true then
         (if (((gt p_l s2).2.2.2.2.1) != 0) = true then
         k5 true
         else
         (if (((gt p_l s2).2.2.2.2.2) != 0) = true then
         k5 true
         else
         k5 (bind_1 == 0)))
         else
         k5 false)))) (fun k4 =>
       (if (decide (bind_1 > 2)) = true then
       k4 true
       else
       (if (kind_1 != 0) = true then
       (if (kind_1 != 1) = true then
       (if (kind_1 != 2) = true then
       (if (kind_1 != 6) = true then
       k4 true
       else
       (if (((gt p_l s2).2.2.1) != 0) = true then
       k4 true
       else
       (if (decide (((gt p_l s2).2.2.2.1) > 1)) = true then
       k4 true
       else
       k4 (((gt p_l s2).1) == 0))))
       else
       (if (((gt p_l s2).2.2.1) != 0) = true then
       k4 true
       else
       (if (decide (((gt p_l s2).2.2.2.1) > 1)) = true then
       k4 true
       else
       k4 (((gt p_l s2).1) == 0))))
       else
       (if (((gt p_l s2).2.2.1) != 0) = true then
       k4 true
       else
       (if (decide (((gt p_l s2).2.2.2.1) > 1)) = true then
       k4 true
       else
       k4 (((gt p_l s2).1) == 0))))
       else
       (if (((gt p_l s2).2.2.1) != 0) = true then
       k4 true
       else
       (if (decide (((gt p_l s2).2.2.2.1) > 1)) = true then
       k4 true
       else
       k4 (((gt p_l s2).1) == 0))))))))
   else
    k1 ())) bigF 0)
def ref07_Table (b : List Int) : Option ((List Yz7) × Int) :=
 (if ((Int.tmod ((b.length : Nat) : Int) 24) != 0) = true then
  some ([], 10)
 else
  jn (fun (s1 : List Yz7) =>
   some (s1, 0)) (fun k1 =>
   loopK (fun (s2 : (List Yz7) × Int) rec1 =>
    (if (decide (s2.2 < ((b.length : Nat) : Int))) = true then
     (ref01_Get b (IntKind.u64.wrap s2.2) 8).bind fun z1 =>
     (ref01_Get b (IntKind.u64.wrap (IntKind.i64.wrap (s2.2 + 8))) 8).bind fun z2 =>
     (ref01_Get b (IntKind.u64.wrap (IntKind.i64.wrap (s2.2 + 16))) 8).bind fun z3 =>
     gd ((s2.1.length + ([(z1.1, IntKind.u32.wrap (Int.tmod z2.1 4294967296), IntKind.u32.wrap (IntKind.u64.wrap (Int.tdiv z2.1 4294967296)), IntKind.i64.wrap z3.1)] : List Yz7).length) * 24 <= 140737488355328) <|
     let1 (IntKind.i64.wrap (s2.2 + 24)) fun i_1 =>
     rec1 ((s2.1 ++ ([(z1.1, IntKind.u32.wrap (Int.tmod z2.1 4294967296), IntKind.u32.wrap (IntKind.u64.wrap (Int.tdiv z2.1 4294967296)), IntKind.i64.wrap z3.1)] : List Yz7)), i_1)
    else
     k1 s2.1)) bigF ([], 0)))
def ref07_Known (p_t : Int) : Option (Bool) :=
 jn (fun (s1 : Bool) =>
  some s1) (fun k1 =>
  (if (p_t == 0) = true then
  k1 true
  else
  (if (p_t == 1) = true then
  k1 true
  else
  (if (p_t == 6) = true then
  k1 true
  else
  (if (p_t == 7) = true then
  k1 true
  else
  (if (p_t == 8) = true then
  k1 true
  else
  (if (p_t == 16) = true then
  k1 true
  else
  (if (p_t == 17) = true then
  k1 true
  else
  k1 (p_t == 18)))))))))
def ref07_Check (p_l : List Yz7) (symbols : Int) : Option (Int) :=
 jn (fun (_ : Unit) =>
  some 0) (fun k1 =>
  loopK (fun (s2 : Int) rec1 =>
   (if (decide (s2 < ((p_l.length : Nat) : Int))) = true then
    gd ((0 : Int) <= s2 /\ s2 < ((p_l.length : Nat) : Int)) <|
    (ref07_Known ((gt p_l s2).2.1)).bind fun z1 =>
    (if (!z1) = true then
     some 33
    else
     jn (fun (s3 : Bool) =>
      (if (s3) = true then
       some 10
      else
       jn (fun (s4 : Bool) =>
        (if (s4) = true then
         some 11
        else
         let1 (IntKind.i64.wrap (s2 + 1)) fun i_1 =>
         rec1 i_1)) (fun k3 =>
        gd ((0 : Int) <= s2 /\ s2 < ((p_l.length : Nat) : Int)) <|
        (if (((gt p_l s2).2.1) == 0) = true then
        gd ((0 : Int) <= s2 /\ s2 < ((p_l.length : Nat) : Int)) <|
        k3 (!(true == (((gt p_l s2).2.2.1) == 0)))
        else
        gd ((0 : Int) <= s2 /\ s2 < ((p_l.length : Nat) : Int)) <|
        gd ((0 : Int) <= s2 /\ s2 < ((p_l.length : Nat) : Int)) <|
        k3 (!((((gt p_l s2).2.1) == 8) == (((gt p_l s2).2.2.1) == 0))))))) (fun k2 =>
      gd ((0 : Int) <= s2 /\ s2 < ((p_l.length : Nat) : Int)) <|
      (if (decide (((gt p_l s2).2.2.1) > 0)) = true then
      (if (decide (symbols < 0)) = true then
      k2 true
      else
      gd ((0 : Int) <= s2 /\ s2 < ((p_l.length : Nat) : Int)) <|
      k2 (decide ((IntKind.u64.wrap ((gt p_l s2).2.2.1)) >= (IntKind.u64.wrap symbols))))
      else
      k2 false)))
   else
    k1 ())) bigF 0)
def ref09_named (p_x : Yz0) (p_s : Yz3) : Option (Yz0 × Int) :=
 (ref01_Cut p_x.2.2.2.2.2.2.2 p_s.2.2.1 p_s.2.2.2.2.1).bind fun z1 =>
 (ref05_Get z1.1).bind fun z2 =>
 (if (z2.2 != 0) = true then
  some (((p_x.1.1, p_x.1.2.1, p_x.1.2.2.1, p_x.1.2.2.2), p_x.2.1, p_x.2.2.1, p_x.2.2.2.1, p_x.2.2.2.2.1, p_x.2.2.2.2.2.1, p_x.2.2.2.2.2.2.1, p_x.2.2.2.2.2.2.2), z2.2)
 else
  gd ((0 : Int) <= 1 /\ 1 < ((z2.1.2.length : Nat) : Int)) <|
  gd ((0 : Int) <= 2 /\ 2 < ((z2.1.2.length : Nat) : Int)) <|
  (ref09_bytes ((p_x.1.1, p_x.1.2.1, p_x.1.2.2.1, p_x.1.2.2.2), p_x.2.1, p_x.2.2.1, p_x.2.2.2.1, p_x.2.2.2.2.1, p_x.2.2.2.2.2.1, p_x.2.2.2.2.2.2.1, p_x.2.2.2.2.2.2.2) (gt z2.1.2 1) (gt z2.1.2 2)).bind fun z3 =>
  (if (z3.2 != 0) = true then
   some (((p_x.1.1, p_x.1.2.1, p_x.1.2.2.1, p_x.1.2.2.2), p_x.2.1, p_x.2.2.1, p_x.2.2.2.1, p_x.2.2.2.2.1, p_x.2.2.2.2.2.1, p_x.2.2.2.2.2.2.1, p_x.2.2.2.2.2.2.2), z3.2)
  else
   (ref02_Check z3.1).bind fun z4 =>
   (if (z4 != 0) = true then
    some (((p_x.1.1, p_x.1.2.1, p_x.1.2.2.1, p_x.1.2.2.2), p_x.2.1, p_x.2.2.1, p_x.2.2.2.1, p_x.2.2.2.2.1, p_x.2.2.2.2.2.1, p_x.2.2.2.2.2.2.1, p_x.2.2.2.2.2.2.2), 11)
   else
    gd ((0 : Int) <= 0 /\ 0 < ((z2.1.2.length : Nat) : Int)) <|
    jn (fun (s1 : Yz0) =>
     jn (fun (s2 : Yz0) =>
      gd ((0 : Int) <= 4 /\ 4 < ((z2.1.2.length : Nat) : Int)) <|
      (if (decide ((gt z2.1.2 4) > 1024)) = true then
       some (((s2.1.1, s2.1.2.1, s2.1.2.2.1, s2.1.2.2.2), s2.2.1, s2.2.2.1, s2.2.2.2.1, s2.2.2.2.2.1, s2.2.2.2.2.2.1, s2.2.2.2.2.2.2.1, s2.2.2.2.2.2.2.2), 13)
      else
       gd ((0 : Int) <= 4 /\ 4 < ((z2.1.2.length : Nat) : Int)) <|
       jn (fun (s4 : Yz0) =>
        gd ((0 : Int) <= 6 /\ 6 < ((z2.1.2.length : Nat) : Int)) <|
        (if (decide ((gt z2.1.2 6) > 65536)) = true then
         some (((s4.1.1, s4.1.2.1, s4.1.2.2.1, s4.1.2.2.2), s4.2.1, s4.2.2.1, s4.2.2.2.1, s4.2.2.2.2.1, s4.2.2.2.2.2.1, s4.2.2.2.2.2.2.1, s4.2.2.2.2.2.2.2), 13)
        else
         gd ((0 : Int) <= 6 /\ 6 < ((z2.1.2.length : Nat) : Int)) <|
         (if (decide ((gt z2.1.2 6) > 0)) = true then
          gd ((0 : Int) <= 5 /\ 5 < ((z2.1.2.length : Nat) : Int)) <|
          gd ((0 : Int) <= 6 /\ 6 < ((z2.1.2.length : Nat) : Int)) <|
          (ref09_bytes ((s4.1.1, s4.1.2.1, s4.1.2.2.1, s4.1.2.2.2), s4.2.1, s4.2.2.1, s4.2.2.2.1, s4.2.2.2.2.1, s4.2.2.2.2.2.1, s4.2.2.2.2.2.2.1, s4.2.2.2.2.2.2.2) (gt z2.1.2 5) (gt z2.1.2 6)).bind fun z11 =>
          (if (z11.2 != 0) = true then
           some (((s4.1.1, s4.1.2.1, s4.1.2.2.1, s4.1.2.2.2), s4.2.1, s4.2.2.1, s4.2.2.2.1, s4.2.2.2.2.1, s4.2.2.2.2.2.1, s4.2.2.2.2.2.2.1, s4.2.2.2.2.2.2.2), z11.2)
          else
           (ref07_Table z11.1).bind fun z12 =>
           (if (z12.2 != 0) = true then
            some (((s4.1.1, s4.1.2.1, s4.1.2.2.1, s4.1.2.2.2), s4.2.1, s4.2.2.1, s4.2.2.2.1, s4.2.2.2.2.1, s4.2.2.2.2.2.1, s4.2.2.2.2.2.2.1, s4.2.2.2.2.2.2.2), z12.2)
           else
            (ref07_Check z12.1 ((s4.2.2.2.2.2.1.length : Nat) : Int)).bind fun z13 =>
            some (((s4.1.1, s4.1.2.1, s4.1.2.2.1, s4.1.2.2.2), s4.2.1, s4.2.2.1, s4.2.2.2.1, s4.2.2.2.2.1, s4.2.2.2.2.2.1, z12.1, s4.2.2.2.2.2.2.2), z13)))
         else
          some (((s4.1.1, s4.1.2.1, s4.1.2.2.1, s4.1.2.2.2), s4.2.1, s4.2.2.1, s4.2.2.2.1, s4.2.2.2.2.1, s4.2.2.2.2.2.1, s4.2.2.2.2.2.2.1, s4.2.2.2.2.2.2.2), 0)))) (fun k3 =>
        (if (decide ((gt z2.1.2 4) > 0)) = true then
         gd ((0 : Int) <= 3 /\ 3 < ((z2.1.2.length : Nat) : Int)) <|
         gd ((0 : Int) <= 4 /\ 4 < ((z2.1.2.length : Nat) : Int)) <|
         (ref09_bytes ((s2.1.1, s2.1.2.1, s2.1.2.2.1, s2.1.2.2.2), s2.2.1, s2.2.2.1, s2.2.2.2.1, s2.2.2.2.2.1, s2.2.2.2.2.2.1, s2.2.2.2.2.2.2.1, s2.2.2.2.2.2.2.2) (gt z2.1.2 3) (IntKind.u64.wrap (24 * (gt z2.1.2 4)))).bind fun z7 =>
         (if (z7.2 != 0) = true then
          some (((s2.1.1, s2.1.2.1, s2.1.2.2.1, s2.1.2.2.2), s2.2.1, s2.2.2.1, s2.2.2.2.1, s2.2.2.2.2.1, s2.2.2.2.2.2.1, s2.2.2.2.2.2.2.1, s2.2.2.2.2.2.2.2), z7.2)
         else
          (ref06_Table z7.1).bind fun z8 =>
          (ref06_Check z8.1).bind fun z9 =>
          (if (z9 != 0) = true then
           some (((s2.1.1, s2.1.2.1, s2.1.2.2.1, s2.1.2.2.2), s2.2.1, s2.2.2.1, s2.2.2.2.1, s2.2.2.2.2.1, z8.1, s2.2.2.2.2.2.2.1, s2.2.2.2.2.2.2.2), 11)
          else
           jn (fun (s5 : Yz0) =>
            k3 ((s5.1.1, s5.1.2.1, s5.1.2.2.1, s5.1.2.2.2), s5.2.1, s5.2.2.1, s5.2.2.2.1, s5.2.2.2.2.1, s5.2.2.2.2.2.1, s5.2.2.2.2.2.2.1, s5.2.2.2.2.2.2.2)) (fun k4 =>
            loopK (fun (s6 : Int × Yz0) rec2 =>
             (if (decide (s6.1 < ((s6.2.2.2.2.2.2.1.length : Nat) : Int))) = true then
              gd ((0 : Int) <= s6.1 /\ s6.1 < ((s6.2.2.2.2.2.2.1.length : Nat) : Int)) <|
              (ref02_At z3.1 (IntKind.u64.wrap ((gt s6.2.2.2.2.2.2.1 s6.1).1))).bind fun z10 =>
              (if (z10.2 != 0) = true then
               some (((s6.2.1.1, s6.2.1.2.1, s6.2.1.2.2.1, s6.2.1.2.2.2), s6.2.2.1, s6.2.2.2.1, s6.2.2.2.2.1, s6.2.2.2.2.2.1, s6.2.2.2.2.2.2.1, s6.2.2.2.2.2.2.2.1, s6.2.2.2.2.2.2.2.2), z10.2)
              else
               gd ((s6.2.2.2.2.2.1.length + ([z10.1] : List (List UInt8)).length) * 16 <= 140737488355328) <|
               let1 (IntKind.i64.wrap (s6.1 + 1)) fun i_2 =>
               rec2 (i_2, ((s6.2.1.1, s6.2.1.2.1, s6.2.1.2.2.1, s6.2.1.2.2.2), s6.2.2.1, s6.2.2.2.1, s6.2.2.2.2.1, (s6.2.2.2.2.2.1 ++ ([z10.1] : List (List UInt8))), s6.2.2.2.2.2.2.1, s6.2.2.2.2.2.2.2.1, s6.2.2.2.2.2.2.2.2)))
             else
              k4 ((s6.2.1.1, s6.2.1.2.1, s6.2.1.2.2.1, s6.2.1.2.2.2), s6.2.2.1, s6.2.2.2.1, s6.2.2.2.2.1, s6.2.2.2.2.2.1, s6.2.2.2.2.2.2.1, s6.2.2.2.2.2.2.2.1, s6.2.2.2.2.2.2.2.2))) bigF (0, ((s2.1.1, s2.1.2.1, s2.1.2.2.1, s2.1.2.2.2), s2.2.1, s2.2.2.1, s2.2.2.2.1, s2.2.2.2.2.1, z8.1, s2.2.2.2.2.2.2.1, s2.2.2.2.2.2.2.2)))))
        else
         k3 ((s2.1.1, s2.1.2.1, s2.1.2.2.1, s2.1.2.2.2), s2.2.1, s2.2.2.1, s2.2.2.2.1, s2.2.2.2.2.1, s2.2.2.2.2.2.1, s2.2.2.2.2.2.2.1, s2.2.2.2.2.2.2.2))))) (fun k2 =>
      loopK (fun (s3 : Int × Yz0) rec1 =>
       (if (decide (s3.1 < ((z2.1.1.length : Nat) : Int))) = true then
        gd ((0 : Int) <= s3.1 /\ s3.1 < ((z2.1.1.length : Nat) : Int)) <|
        (ref02_At z3.1 (gt z2.1.1 s3.1)).bind fun z6 =>
        (if (z6.2 != 0) = true then
         some (((s3.2.1.1, s3.2.1.2.1, s3.2.1.2.2.1, s3.2.1.2.2.2), s3.2.2.1, s3.2.2.2.1, s3.2.2.2.2.1, s3.2.2.2.2.2.1, s3.2.2.2.2.2.2.1, s3.2.2.2.2.2.2.2.1, s3.2.2.2.2.2.2.2.2), z6.2)
        else
         (if (z6.1 == []) = true then
          some (((s3.2.1.1, s3.2.1.2.1, s3.2.1.2.2.1, s3.2.1.2.2.2), s3.2.2.1, s3.2.2.2.1, s3.2.2.2.2.1, s3.2.2.2.2.2.1, s3.2.2.2.2.2.2.1, s3.2.2.2.2.2.2.2.1, s3.2.2.2.2.2.2.2.2), 11)
         else
          gd ((s3.2.2.2.2.1.length + ([z6.1] : List (List UInt8)).length) * 16 <= 140737488355328) <|
          let1 (IntKind.i64.wrap (s3.1 + 1)) fun i_1 =>
          rec1 (i_1, ((s3.2.1.1, s3.2.1.2.1, s3.2.1.2.2.1, s3.2.1.2.2.2), s3.2.2.1, s3.2.2.2.1, (s3.2.2.2.2.1 ++ ([z6.1] : List (List UInt8))), s3.2.2.2.2.2.1, s3.2.2.2.2.2.2.1, s3.2.2.2.2.2.2.2.1, s3.2.2.2.2.2.2.2.2))))
       else
        k2 ((s3.2.1.1, s3.2.1.2.1, s3.2.1.2.2.1, s3.2.1.2.2.2), s3.2.2.1, s3.2.2.2.1, s3.2.2.2.2.1, s3.2.2.2.2.2.1, s3.2.2.2.2.2.2.1, s3.2.2.2.2.2.2.2.1, s3.2.2.2.2.2.2.2.2))) bigF (0, ((s1.1.1, s1.1.2.1, s1.1.2.2.1, s1.1.2.2.2), s1.2.1, s1.2.2.1, s1.2.2.2.1, s1.2.2.2.2.1, s1.2.2.2.2.2.1, s1.2.2.2.2.2.2.1, s1.2.2.2.2.2.2.2)))) (fun k1 =>
     (if ((gt z2.1.2 0) != 0) = true then
      gd ((0 : Int) <= 0 /\ 0 < ((z2.1.2.length : Nat) : Int)) <|
      (ref02_At z3.1 (gt z2.1.2 0)).bind fun z5 =>
      (if (z5.2 != 0) = true then
       some (((p_x.1.1, p_x.1.2.1, p_x.1.2.2.1, p_x.1.2.2.2), p_x.2.1, p_x.2.2.1, p_x.2.2.2.1, p_x.2.2.2.2.1, p_x.2.2.2.2.2.1, p_x.2.2.2.2.2.2.1, p_x.2.2.2.2.2.2.2), z5.2)
      else
       k1 ((p_x.1.1, p_x.1.2.1, p_x.1.2.2.1, p_x.1.2.2.2), p_x.2.1, z5.1, p_x.2.2.2.1, p_x.2.2.2.2.1, p_x.2.2.2.2.2.1, p_x.2.2.2.2.2.2.1, p_x.2.2.2.2.2.2.2))
     else
      k1 ((p_x.1.1, p_x.1.2.1, p_x.1.2.2.1, p_x.1.2.2.2), p_x.2.1, p_x.2.2.1, p_x.2.2.2.1, p_x.2.2.2.2.1, p_x.2.2.2.2.2.1, p_x.2.2.2.2.2.2.1, p_x.2.2.2.2.2.2.2))))))
def ref09_held (p_x : Yz0) : Option (Int) :=
 jn (fun (_ : Unit) =>
  (ref04_Find p_x.2.1 7).bind fun z1 =>
  jn (fun (_ : Unit) =>
   some 0) (fun k7 =>
   loopK (fun (s10 : Int) rec3 =>
    (if (decide (s10 < ((p_x.2.2.2.2.2.1.length : Nat) : Int))) = true then
     jn (fun (_ : Unit) =>
      let1 (IntKind.i64.wrap (s10 + 1)) fun i_2 =>
      rec3 i_2) (fun k8 =>
      gd ((0 : Int) <= s10 /\ s10 < ((p_x.2.2.2.2.2.1.length : Nat) : Int)) <|
      (if (((gt p_x.2.2.2.2.2.1 s10).2.2.2.1) == 0) = true then
       k8 ()
      else
       gd ((0 : Int) <= s10 /\ s10 < ((p_x.2.2.2.2.2.1.length : Nat) : Int)) <|
       jn (fun (_ : Unit) =>
        k8 ()) (fun k9 =>
        (if ((Int.tmod ((gt p_x.2.2.2.2.2.1 s10).2.1) 16) == 6) = true then
         jn (fun (s13 : Bool) =>
          (if (s13) = true then
           some 11
          else
           k9 ())) (fun k10 =>
          (if (decide (z1 < 0)) = true then
          k10 true
          else
          gd ((0 : Int) <= s10 /\ s10 < ((p_x.2.2.2.2.2.1.length : Nat) : Int)) <|
          gd ((0 : Int) <= z1 /\ z1 < ((p_x.2.1.length : Nat) : Int)) <|
          k10 (decide (((gt p_x.2.2.2.2.2.1 s10).2.2.2.2.1) > ((gt p_x.2.1 z1).2.2.2.2.2.1)))))
        else
         gd ((0 : Int) <= s10 /\ s10 < ((p_x.2.2.2.2.2.1.length : Nat) : Int)) <|
         (if (decide (((gt p_x.2.2.2.2.2.1 s10).2.2.2.2.1) > 4294967296)) = true then
          some 13
         else
          k9 ())))))
    else
     k7 ())) bigF 0)) (fun k1 =>
  loopK (fun (s2 : Int) rec1 =>
   (if (decide (s2 < ((p_x.2.2.2.2.2.2.1.length : Nat) : Int))) = true then
    jn (fun (_ : Unit) =>
     let1 (IntKind.i64.wrap (s2 + 1)) fun i_1 =>
     rec1 i_1) (fun k2 =>
     gd ((0 : Int) <= s2 /\ s2 < ((p_x.2.2.2.2.2.2.1.length : Nat) : Int)) <|
     let1 (((gt p_x.2.2.2.2.2.2.1 s2).2.1) == 0) fun in_1 =>
     jn (fun (s4 : Bool) =>
      (if (!s4) = true then
       some 40
      else
       k2 ())) (fun k3 =>
      loopK (fun (s5 : Bool × Int) rec2 =>
       (if (decide (s5.2 < ((p_x.2.1.length : Nat) : Int))) = true then
        jn (fun (s6 : Bool) =>
         let1 (IntKind.i64.wrap (s5.2 + 1)) fun k_1 =>
         rec2 (s6, k_1)) (fun k4 =>
         gd ((0 : Int) <= s5.2 /\ s5.2 < ((p_x.2.1.length : Nat) : Int)) <|
         jn (fun (s7 : Bool) =>
          jn (fun (s8 : Bool) =>
           k4 s8) (fun k6 =>
           (if (s7) = true then
            k6 true
           else
            k6 s5.1))) (fun k5 =>
          (if (((gt p_x.2.1 s5.2).1) == 1) = true then
          gd ((0 : Int) <= s2 /\ s2 < ((p_x.2.2.2.2.2.2.1.length : Nat) : Int)) <|
          (if (decide (((gt p_x.2.2.2.2.2.2.1 s2).1) >= ((gt p_x.2.1 s5.2).2.2.2.1))) = true then
          gd ((0 : Int) <= s2 /\ s2 < ((p_x.2.2.2.2.2.2.1.length : Nat) : Int)) <|
          (if (decide (((gt p_x.2.2.2.2.2.2.1 s2).1) < (IntKind.u64.wrap (((gt p_x.2.1 s5.2).2.2.2.1) + ((gt p_x.2.1 s5.2).2.2.2.2.2.1))))) = true then
          gd ((0 : Int) <= s2 /\ s2 < ((p_x.2.2.2.2.2.2.1.length : Nat) : Int)) <|
          k5 (decide ((IntKind.u64.wrap ((IntKind.u64.wrap (((gt p_x.2.1 s5.2).2.2.2.1) + ((gt p_x.2.1 s5.2).2.2.2.2.2.1))) - ((gt p_x.2.2.2.2.2.2.1 s2).1))) >= 8))
          else
          k5 false)
          else
          k5 false)
          else
          k5 false)))
       else
        k3 s5.1)) bigF (in_1, 0)))
   else
    k1 ())) bigF 0)
def ref09_parse (file : List Int) : Option (Yz0 × Int) :=
 (if (decide (((file.length : Nat) : Int) > 65536)) = true then
  some (((0, 0, 0, 0), [], [], [], [], [], [], []), 13)
 else
  (ref03_Get file).bind fun z1 =>
  (if (z1.2 != 0) = true then
   some (((0, 0, 0, 0), [], [], [], [], [], [], []), z1.2)
  else
   (if (z1.1.1 == 4) = true then
    some (((0, 0, 0, 0), [], [], [], [], [], [], []), 11)
   else
    (ref04_Table file z1.1.2.2.1 z1.1.2.2.2).bind fun z2 =>
    (if (z2.2 != 0) = true then
     some (((0, 0, 0, 0), [], [], [], [], [], [], []), z2.2)
    else
     (ref04_Check z2.1 (IntKind.u64.wrap ((file.length : Nat) : Int))).bind fun z3 =>
     (if (z3 != 0) = true then
      some (((0, 0, 0, 0), [], [], [], [], [], [], []), z3)
     else
      (ref04_Find z2.1 1).bind fun z4 =>
      (if (decide (z4 < 0)) = true then
       some (((0, 0, 0, 0), [], [], [], [], [], [], []), 11)
      else
       (ref04_Find z2.1 2).bind fun z5 =>
       jn (fun (s1 : Yz0) =>
        (ref09_held ((s1.1.1, s1.1.2.1, s1.1.2.2.1, s1.1.2.2.2), s1.2.1, s1.2.2.1, s1.2.2.2.1, s1.2.2.2.2.1, s1.2.2.2.2.2.1, s1.2.2.2.2.2.2.1, s1.2.2.2.2.2.2.2)).bind fun z7 =>
        some (((s1.1.1, s1.1.2.1, s1.1.2.2.1, s1.1.2.2.2), s1.2.1, s1.2.2.1, s1.2.2.2.1, s1.2.2.2.2.1, s1.2.2.2.2.2.1, s1.2.2.2.2.2.2.1, s1.2.2.2.2.2.2.2), z7)) (fun k1 =>
        (if (decide (z5 >= 0)) = true then
         jn (fun (s3 : Int × Yz0) =>
          (if (s3.1 != 0) = true then
           some (((z1.1.1, z1.1.2.1, z1.1.2.2.1, z1.1.2.2.2), z2.1, [], [], [], [], [], file), s3.1)
          else
           k1 ((s3.2.1.1, s3.2.1.2.1, s3.2.1.2.2.1, s3.2.1.2.2.2), s3.2.2.1, s3.2.2.2.1, s3.2.2.2.2.1, s3.2.2.2.2.2.1, s3.2.2.2.2.2.2.1, s3.2.2.2.2.2.2.2.1, s3.2.2.2.2.2.2.2.2))) (fun k3 =>
          gd ((0 : Int) <= z5 /\ z5 < ((z2.1.length : Nat) : Int)) <|
          (ref09_named ((z1.1.1, z1.1.2.1, z1.1.2.2.1, z1.1.2.2.2), z2.1, [], [], [], [], [], file) (gt z2.1 z5)).bind fun z6 =>
          k3 (z6.2, ((z6.1.1.1, z6.1.1.2.1, z6.1.1.2.2.1, z6.1.1.2.2.2), z6.1.2.1, z6.1.2.2.1, z6.1.2.2.2.1, z6.1.2.2.2.2.1, z6.1.2.2.2.2.2.1, z6.1.2.2.2.2.2.2.1, z6.1.2.2.2.2.2.2.2)))
        else
         k1 ((z1.1.1, z1.1.2.1, z1.1.2.2.1, z1.1.2.2.2), z2.1, [], [], [], [], [], file)))))))))
def ref09_Parse (file : List Int) : Option (Yz0 × Int) :=
 (ref09_parse file).bind fun z1 =>
 (if (z1.2 != 0) = true then
  some (((0, 0, 0, 0), [], [], [], [], [], [], []), z1.2)
 else
  some (((z1.1.1.1, z1.1.1.2.1, z1.1.1.2.2.1, z1.1.1.2.2.2), z1.1.2.1, z1.1.2.2.1, z1.1.2.2.2.1, z1.1.2.2.2.2.1, z1.1.2.2.2.2.2.1, z1.1.2.2.2.2.2.2.1, z1.1.2.2.2.2.2.2.2), 0))
def law09_model (p_x : Yz0) : Option Yz0 :=
 some ((p_x.1.1, p_x.1.2.1, p_x.1.2.2.1, p_x.1.2.2.2), p_x.2.1, p_x.2.2.1, p_x.2.2.2.1, p_x.2.2.2.2.1, p_x.2.2.2.2.2.1, p_x.2.2.2.2.2.2.1, p_x.2.2.2.2.2.2.2)
def ref09_strings (p_a : List (List UInt8)) (b : List (List UInt8)) : Option (Bool) :=
 (if (((p_a.length : Nat) : Int) != ((b.length : Nat) : Int)) = true then
  some false
 else
  jn (fun (_ : Unit) =>
   some true) (fun k1 =>
   loopK (fun (s2 : Int) rec1 =>
    (if (decide (s2 < ((p_a.length : Nat) : Int))) = true then
     gd ((0 : Int) <= s2 /\ s2 < ((p_a.length : Nat) : Int)) <|
     gd ((0 : Int) <= s2 /\ s2 < ((b.length : Nat) : Int)) <|
     (if (!((gt p_a s2) == (gt b s2))) = true then
      some false
     else
      let1 (IntKind.i64.wrap (s2 + 1)) fun i_1 =>
      rec1 i_1)
    else
     k1 ())) bigF 0))
def ref09_Same (p_a : Yz0) (b : Yz0) : Option (Bool) :=
 jn (fun (s1 : Bool) =>
  (if (s1) = true then
   some false
  else
   jn (fun (_ : Unit) =>
    jn (fun (_ : Unit) =>
     jn (fun (_ : Unit) =>
      jn (fun (s8 : Bool) =>
       some s8) (fun k5 =>
       (ref09_strings p_a.2.2.2.1 b.2.2.2.1).bind fun z1 =>
       (if (z1) = true then
       (ref09_strings p_a.2.2.2.2.1 b.2.2.2.2.1).bind fun z2 =>
       k5 z2
       else
       k5 false))) (fun k4 =>
      loopK (fun (s7 : Int) rec3 =>
       (if (decide (s7 < ((p_a.2.2.2.2.2.2.1.length : Nat) : Int))) = true then
        gd ((0 : Int) <= s7 /\ s7 < ((p_a.2.2.2.2.2.2.1.length : Nat) : Int)) <|
        gd ((0 : Int) <= s7 /\ s7 < ((b.2.2.2.2.2.2.1.length : Nat) : Int)) <|
        (if (!((((gt p_a.2.2.2.2.2.2.1 s7).1) == ((gt b.2.2.2.2.2.2.1 s7).1)) && ((((gt p_a.2.2.2.2.2.2.1 s7).2.1) == ((gt b.2.2.2.2.2.2.1 s7).2.1)) && ((((gt p_a.2.2.2.2.2.2.1 s7).2.2.1) == ((gt b.2.2.2.2.2.2.1 s7).2.2.1)) && (((gt p_a.2.2.2.2.2.2.1 s7).2.2.2) == ((gt b.2.2.2.2.2.2.1 s7).2.2.2)))))) = true then
         some false
        else
         let1 (IntKind.i64.wrap (s7 + 1)) fun i_3 =>
         rec3 i_3)
       else
        k4 ())) bigF 0)) (fun k3 =>
     loopK (fun (s5 : Int) rec2 =>
      (if (decide (s5 < ((p_a.2.2.2.2.2.1.length : Nat) : Int))) = true then
       gd ((0 : Int) <= s5 /\ s5 < ((p_a.2.2.2.2.2.1.length : Nat) : Int)) <|
       gd ((0 : Int) <= s5 /\ s5 < ((b.2.2.2.2.2.1.length : Nat) : Int)) <|
       (if (!((((gt p_a.2.2.2.2.2.1 s5).1) == ((gt b.2.2.2.2.2.1 s5).1)) && ((((gt p_a.2.2.2.2.2.1 s5).2.1) == ((gt b.2.2.2.2.2.1 s5).2.1)) && ((((gt p_a.2.2.2.2.2.1 s5).2.2.1) == ((gt b.2.2.2.2.2.1 s5).2.2.1)) && ((((gt p_a.2.2.2.2.2.1 s5).2.2.2.1) == ((gt b.2.2.2.2.2.1 s5).2.2.2.1)) && ((((gt p_a.2.2.2.2.2.1 s5).2.2.2.2.1) == ((gt b.2.2.2.2.2.1 s5).2.2.2.2.1)) && (((gt p_a.2.2.2.2.2.1 s5).2.2.2.2.2) == ((gt b.2.2.2.2.2.1 s5).2.2.2.2.2)))))))) = true then
        some false
       else
        let1 (IntKind.i64.wrap (s5 + 1)) fun i_2 =>
        rec2 i_2)
      else
       k3 ())) bigF 0)) (fun k2 =>
    loopK (fun (s3 : Int) rec1 =>
     (if (decide (s3 < ((p_a.2.1.length : Nat) : Int))) = true then
      gd ((0 : Int) <= s3 /\ s3 < ((p_a.2.1.length : Nat) : Int)) <|
      gd ((0 : Int) <= s3 /\ s3 < ((b.2.1.length : Nat) : Int)) <|
      (if (!((((gt p_a.2.1 s3).1) == ((gt b.2.1 s3).1)) && ((((gt p_a.2.1 s3).2.1) == ((gt b.2.1 s3).2.1)) && ((((gt p_a.2.1 s3).2.2.1) == ((gt b.2.1 s3).2.2.1)) && ((((gt p_a.2.1 s3).2.2.2.1) == ((gt b.2.1 s3).2.2.2.1)) && ((((gt p_a.2.1 s3).2.2.2.2.1) == ((gt b.2.1 s3).2.2.2.2.1)) && ((((gt p_a.2.1 s3).2.2.2.2.2.1) == ((gt b.2.1 s3).2.2.2.2.2.1)) && (((gt p_a.2.1 s3).2.2.2.2.2.2) == ((gt b.2.1 s3).2.2.2.2.2.2))))))))) = true then
       some false
      else
       let1 (IntKind.i64.wrap (s3 + 1)) fun i_1 =>
       rec1 i_1)
     else
      k2 ())) bigF 0))) (fun k1 =>
  (if (!((p_a.1.1 == b.1.1) && ((p_a.1.2.1 == b.1.2.1) && ((p_a.1.2.2.1 == b.1.2.2.1) && (p_a.1.2.2.2 == b.1.2.2.2))))) = true then
  k1 true
  else
  (if (!(p_a.2.2.1 == b.2.2.1)) = true then
  k1 true
  else
  (if (!((toStr p_a.2.2.2.2.2.2.2) == (toStr b.2.2.2.2.2.2.2))) = true then
  k1 true
  else
  (if (((p_a.2.1.length : Nat) : Int) != ((b.2.1.length : Nat) : Int)) = true then
  k1 true
  else
  (if (((p_a.2.2.2.2.2.1.length : Nat) : Int) != ((b.2.2.2.2.2.1.length : Nat) : Int)) = true then
  k1 true
  else
  k1 (((p_a.2.2.2.2.2.2.1.length : Nat) : Int) != ((b.2.2.2.2.2.2.1.length : Nat) : Int))))))))
def law09_few (p_s : Yz1) : Option (Bool) :=
 jn (fun (s1 : Bool) =>
  (if (s1) = true then
   some false
  else
   jn (fun (_ : Unit) =>
    jn (fun (_ : Unit) =>
     some true) (fun k3 =>
     loopK (fun (s5 : Int) rec2 =>
      (if (decide (s5 < ((p_s.2.2.1.length : Nat) : Int))) = true then
       gd ((0 : Int) <= s5 /\ s5 < ((p_s.2.2.1.length : Nat) : Int)) <|
       (if (decide ((((gt p_s.2.2.1 s5).length : Nat) : Int) > 300)) = true then
        some false
       else
        let1 (IntKind.i64.wrap (s5 + 1)) fun i_2 =>
        rec2 i_2)
      else
       k3 ())) bigF 0)) (fun k2 =>
    loopK (fun (s3 : Int) rec1 =>
     (if (decide (s3 < ((p_s.2.2.2.2.2.2.2.2.2.1.length : Nat) : Int))) = true then
      gd ((0 : Int) <= s3 /\ s3 < ((p_s.2.2.2.2.2.2.2.2.2.1.length : Nat) : Int)) <|
      (if (decide (((((gt p_s.2.2.2.2.2.2.2.2.2.1 s3).1).length : Nat) : Int) > 300)) = true then
       some false
      else
       let1 (IntKind.i64.wrap (s3 + 1)) fun i_1 =>
       rec1 i_1)
     else
      k2 ())) bigF 0))) (fun k1 =>
  (if (decide (((p_s.2.2.2.2.1.length : Nat) : Int) > 3000)) = true then
  k1 true
  else
  (if (decide (((p_s.2.2.2.2.2.1.length : Nat) : Int) > 3000)) = true then
  k1 true
  else
  (if (decide (((p_s.2.2.2.2.2.2.2.1.length : Nat) : Int) > 3000)) = true then
  k1 true
  else
  (if (decide (((p_s.2.2.2.2.2.2.2.2.2.1.length : Nat) : Int) > 30)) = true then
  k1 true
  else
  (if (decide (((p_s.2.2.2.2.2.2.2.2.2.2.length : Nat) : Int) > 30)) = true then
  k1 true
  else
  (if (decide (((p_s.2.2.1.length : Nat) : Int) > 20)) = true then
  k1 true
  else
  k1 (decide (((p_s.2.1.length : Nat) : Int) > 300)))))))))
def law09_spec (p_s : Yz1) : Option Yz1 :=
 jn (fun (s1 : Yz1) =>
  jn (fun (s3 : Yz1) =>
   some (s3.1, s3.2.1, s3.2.2.1, s3.2.2.2.1, s3.2.2.2.2.1, s3.2.2.2.2.2.1, s3.2.2.2.2.2.2.1, s3.2.2.2.2.2.2.2.1, s3.2.2.2.2.2.2.2.2.1, s3.2.2.2.2.2.2.2.2.2.1, s3.2.2.2.2.2.2.2.2.2.2)) (fun k2 =>
   loopK (fun (s4 : Int × Yz1) rec2 =>
    (if (decide (s4.1 < ((p_s.2.2.2.2.2.2.2.2.2.2.length : Nat) : Int))) = true then
     gd ((0 : Int) <= s4.1 /\ s4.1 < ((p_s.2.2.2.2.2.2.2.2.2.2.length : Nat) : Int)) <|
     gd ((0 : Int) <= s4.1 /\ s4.1 < ((p_s.2.2.2.2.2.2.2.2.2.2.length : Nat) : Int)) <|
     gd ((0 : Int) <= s4.1 /\ s4.1 < ((p_s.2.2.2.2.2.2.2.2.2.2.length : Nat) : Int)) <|
     gd ((0 : Int) <= s4.1 /\ s4.1 < ((p_s.2.2.2.2.2.2.2.2.2.2.length : Nat) : Int)) <|
     gd ((0 : Int) <= s4.1 /\ s4.1 < ((p_s.2.2.2.2.2.2.2.2.2.2.length : Nat) : Int)) <|
     gd ((s4.2.2.2.2.2.2.2.2.2.2.2.length + ([((gt p_s.2.2.2.2.2.2.2.2.2.2 s4.1).1, (gt p_s.2.2.2.2.2.2.2.2.2.2 s4.1).2.1, (gt p_s.2.2.2.2.2.2.2.2.2.2 s4.1).2.2.1, (gt p_s.2.2.2.2.2.2.2.2.2.2 s4.1).2.2.2.1, (gt p_s.2.2.2.2.2.2.2.2.2.2 s4.1).2.2.2.2)] : List Yz6).length) * 40 <= 140737488355328) <|
     let1 (IntKind.i64.wrap (s4.1 + 1)) fun i_2 =>
     rec2 (i_2, (s4.2.1, s4.2.2.1, s4.2.2.2.1, s4.2.2.2.2.1, s4.2.2.2.2.2.1, s4.2.2.2.2.2.2.1, s4.2.2.2.2.2.2.2.1, s4.2.2.2.2.2.2.2.2.1, s4.2.2.2.2.2.2.2.2.2.1, s4.2.2.2.2.2.2.2.2.2.2.1, (s4.2.2.2.2.2.2.2.2.2.2.2 ++ ([((gt p_s.2.2.2.2.2.2.2.2.2.2 s4.1).1, (gt p_s.2.2.2.2.2.2.2.2.2.2 s4.1).2.1, (gt p_s.2.2.2.2.2.2.2.2.2.2 s4.1).2.2.1, (gt p_s.2.2.2.2.2.2.2.2.2.2 s4.1).2.2.2.1, (gt p_s.2.2.2.2.2.2.2.2.2.2 s4.1).2.2.2.2)] : List Yz6))))
    else
     k2 (s4.2.1, s4.2.2.1, s4.2.2.2.1, s4.2.2.2.2.1, s4.2.2.2.2.2.1, s4.2.2.2.2.2.2.1, s4.2.2.2.2.2.2.2.1, s4.2.2.2.2.2.2.2.2.1, s4.2.2.2.2.2.2.2.2.2.1, s4.2.2.2.2.2.2.2.2.2.2.1, s4.2.2.2.2.2.2.2.2.2.2.2))) bigF (0, (s1.1, s1.2.1, s1.2.2.1, s1.2.2.2.1, s1.2.2.2.2.1, s1.2.2.2.2.2.1, s1.2.2.2.2.2.2.1, s1.2.2.2.2.2.2.2.1, s1.2.2.2.2.2.2.2.2.1, s1.2.2.2.2.2.2.2.2.2.1, s1.2.2.2.2.2.2.2.2.2.2)))) (fun k1 =>
  loopK (fun (s2 : Int × Yz1) rec1 =>
   (if (decide (s2.1 < ((p_s.2.2.2.2.2.2.2.2.2.1.length : Nat) : Int))) = true then
    gd ((0 : Int) <= s2.1 /\ s2.1 < ((p_s.2.2.2.2.2.2.2.2.2.1.length : Nat) : Int)) <|
    gd ((0 : Int) <= s2.1 /\ s2.1 < ((p_s.2.2.2.2.2.2.2.2.2.1.length : Nat) : Int)) <|
    gd ((0 : Int) <= s2.1 /\ s2.1 < ((p_s.2.2.2.2.2.2.2.2.2.1.length : Nat) : Int)) <|
    gd ((0 : Int) <= s2.1 /\ s2.1 < ((p_s.2.2.2.2.2.2.2.2.2.1.length : Nat) : Int)) <|
    gd ((s2.2.2.2.2.2.2.2.2.2.2.1.length + ([((gt p_s.2.2.2.2.2.2.2.2.2.1 s2.1).1, (gt p_s.2.2.2.2.2.2.2.2.2.1 s2.1).2.1, (gt p_s.2.2.2.2.2.2.2.2.2.1 s2.1).2.2.1, (gt p_s.2.2.2.2.2.2.2.2.2.1 s2.1).2.2.2)] : List ((List UInt8) × Int × Int × Bool)).length) * 40 <= 140737488355328) <|
    let1 (IntKind.i64.wrap (s2.1 + 1)) fun i_1 =>
    rec1 (i_1, (s2.2.1, s2.2.2.1, s2.2.2.2.1, s2.2.2.2.2.1, s2.2.2.2.2.2.1, s2.2.2.2.2.2.2.1, s2.2.2.2.2.2.2.2.1, s2.2.2.2.2.2.2.2.2.1, s2.2.2.2.2.2.2.2.2.2.1, (s2.2.2.2.2.2.2.2.2.2.2.1 ++ ([((gt p_s.2.2.2.2.2.2.2.2.2.1 s2.1).1, (gt p_s.2.2.2.2.2.2.2.2.2.1 s2.1).2.1, (gt p_s.2.2.2.2.2.2.2.2.2.1 s2.1).2.2.1, (gt p_s.2.2.2.2.2.2.2.2.2.1 s2.1).2.2.2)] : List ((List UInt8) × Int × Int × Bool))), s2.2.2.2.2.2.2.2.2.2.2.2))
   else
    k1 (s2.2.1, s2.2.2.1, s2.2.2.2.1, s2.2.2.2.2.1, s2.2.2.2.2.2.1, s2.2.2.2.2.2.2.1, s2.2.2.2.2.2.2.2.1, s2.2.2.2.2.2.2.2.2.1, s2.2.2.2.2.2.2.2.2.2.1, s2.2.2.2.2.2.2.2.2.2.2.1, s2.2.2.2.2.2.2.2.2.2.2.2))) bigF (0, (p_s.1, p_s.2.1, p_s.2.2.1, p_s.2.2.2.1, p_s.2.2.2.2.1, p_s.2.2.2.2.2.1, p_s.2.2.2.2.2.2.1, p_s.2.2.2.2.2.2.2.1, p_s.2.2.2.2.2.2.2.2.1, [], [])))
def ref09_may (p_s : Yz1) : Option (Int) :=
 jn (fun (s1 : Bool) =>
  (if (s1) = true then
   some 1
  else
   jn (fun (_ : Unit) =>
    jn (fun (_ : Unit) =>
     jn (fun (s8 : Bool) =>
      (if (s8) = true then
       some 13
      else
       some 0)) (fun k6 =>
      (if (decide (p_s.2.2.2.2.2.2.1 > 1048576)) = true then
      k6 true
      else
      (if (decide (p_s.2.2.2.2.2.2.2.2.1 > 1048576)) = true then
      k6 true
      else
      k6 (decide ((IntKind.i64.wrap ((IntKind.i64.wrap (((p_s.2.2.2.2.1.length : Nat) : Int) + ((p_s.2.2.2.2.2.1.length : Nat) : Int))) + ((p_s.2.2.2.2.2.2.2.1.length : Nat) : Int))) > 65536)))))) (fun k4 =>
     loopK (fun (s6 : Int) rec2 =>
      (if (decide (s6 < ((p_s.2.2.2.2.2.2.2.2.2.2.length : Nat) : Int))) = true then
       jn (fun (s7 : Bool) =>
        (if (s7) = true then
         some 1
        else
         let1 (IntKind.i64.wrap (s6 + 1)) fun i_2 =>
         rec2 i_2)) (fun k5 =>
        gd ((0 : Int) <= s6 /\ s6 < ((p_s.2.2.2.2.2.2.2.2.2.2.length : Nat) : Int)) <|
        (if (((gt p_s.2.2.2.2.2.2.2.2.2.2 s6).1) != 1) = true then
        gd ((0 : Int) <= s6 /\ s6 < ((p_s.2.2.2.2.2.2.2.2.2.2.length : Nat) : Int)) <|
        (if (((gt p_s.2.2.2.2.2.2.2.2.2.2 s6).1) != 2) = true then
        k5 true
        else
        gd ((0 : Int) <= s6 /\ s6 < ((p_s.2.2.2.2.2.2.2.2.2.2.length : Nat) : Int)) <|
        k5 (decide (((gt p_s.2.2.2.2.2.2.2.2.2.2 s6).2.2.2.1) >= ((p_s.2.2.2.2.2.2.2.2.2.1.length : Nat) : Int))))
        else
        gd ((0 : Int) <= s6 /\ s6 < ((p_s.2.2.2.2.2.2.2.2.2.2.length : Nat) : Int)) <|
        k5 (decide (((gt p_s.2.2.2.2.2.2.2.2.2.2 s6).2.2.2.1) >= ((p_s.2.2.2.2.2.2.2.2.2.1.length : Nat) : Int)))))
      else
       k4 ())) bigF 0)) (fun k2 =>
    loopK (fun (s3 : Int) rec1 =>
     (if (decide (s3 < ((p_s.2.2.2.2.2.2.2.2.2.1.length : Nat) : Int))) = true then
      jn (fun (s4 : Bool) =>
       (if (s4) = true then
        some 1
       else
        let1 (IntKind.i64.wrap (s3 + 1)) fun i_1 =>
        rec1 i_1)) (fun k3 =>
       gd ((0 : Int) <= s3 /\ s3 < ((p_s.2.2.2.2.2.2.2.2.2.1.length : Nat) : Int)) <|
       (if (decide (((gt p_s.2.2.2.2.2.2.2.2.2.1 s3).2.1) < 0)) = true then
       k3 true
       else
       gd ((0 : Int) <= s3 /\ s3 < ((p_s.2.2.2.2.2.2.2.2.2.1.length : Nat) : Int)) <|
       k3 (decide (((gt p_s.2.2.2.2.2.2.2.2.2.1 s3).2.1) > 3))))
     else
      k2 ())) bigF 0))) (fun k1 =>
  (if (p_s.1 != 2) = true then
  k1 (p_s.1 != 3)
  else
  k1 false))
def ref02_Build (p_l : List (List UInt8)) : Option ((List Int) × (List Int) × Int) :=
 jn (fun (_ : Unit) =>
  jn (fun (s6 : Int × (List Int) × (List Int)) =>
   (if (decide (s6.1 > 65536)) = true then
    some ([], [], 13)
   else
    some (s6.2.1, s6.2.2, 0))) (fun k4 =>
   loopK (fun (s7 : Int × (List Int) × (List Int) × Int) rec3 =>
    (if (decide (s7.2.2.2 < ((p_l.length : Nat) : Int))) = true then
     jn (fun (s8 : Int × (List Int) × (List Int)) =>
      let1 (IntKind.i64.wrap (s7.2.2.2 + 1)) fun i_2 =>
      rec3 (s8.1, s8.2.1, s8.2.2, i_2)) (fun k5 =>
      gd ((0 : Int) <= s7.2.2.2 /\ s7.2.2.2 < ((p_l.length : Nat) : Int)) <|
      jn (fun (s9 : Int × (List Int) × Int) =>
       gd ((s7.2.2.1.length + ([s9.2.2] : List Int).length) * 8 <= 140737488355328) <|
       k5 (s9.1, s9.2.1, (s7.2.2.1 ++ ([s9.2.2] : List Int)))) (fun k6 =>
       (if (!((gt p_l s7.2.2.2) == [])) = true then
        let1 (IntKind.u64.wrap s7.1) fun at_1 =>
        jn (fun (s10 : Int) =>
         jn (fun (s12 : Int × (List Int)) =>
          k6 (s12.1, s12.2, s10)) (fun k8 =>
          (if (s10 == (IntKind.u64.wrap s7.1)) = true then
           gd ((0 : Int) <= s7.2.2.2 /\ s7.2.2.2 < ((p_l.length : Nat) : Int)) <|
           gd (s7.2.1.length + (gt p_l s7.2.2.2).length <= 140737488355328) <|
           gd (((s7.2.1 ++ ofStr (gt p_l s7.2.2.2)).length + ([0] : List Int).length) * 1 <= 140737488355328) <|
           let1 (((((s7.2.1 ++ ofStr (gt p_l s7.2.2.2)) ++ ([0] : List Int)).length : Nat) : Int)) fun size_1 =>
           k8 (size_1, ((s7.2.1 ++ ofStr (gt p_l s7.2.2.2)) ++ ([0] : List Int)))
          else
           k8 (s7.1, s7.2.1)))) (fun k7 =>
         loopK (fun (s11 : Int × Int) rec4 =>
          (if (decide (s11.2 < s7.2.2.2)) = true then
           gd ((0 : Int) <= s11.2 /\ s11.2 < ((p_l.length : Nat) : Int)) <|
           gd ((0 : Int) <= s7.2.2.2 /\ s7.2.2.2 < ((p_l.length : Nat) : Int)) <|
           (if ((gt p_l s11.2) == (gt p_l s7.2.2.2)) = true then
            gd ((0 : Int) <= s11.2 /\ s11.2 < ((s7.2.2.1.length : Nat) : Int)) <|
            let1 (gt s7.2.2.1 s11.2) fun at_2 =>
            k7 at_2
           else
            let1 (IntKind.i64.wrap (s11.2 + 1)) fun k_2 =>
            rec4 (s11.1, k_2))
          else
           k7 s11.1)) bigF (at_1, 0))
       else
        k6 (s7.1, s7.2.1, 0))))
    else
     k4 (s7.1, s7.2.1, s7.2.2.1))) bigF (1, ([0] : List Int), [], 0))) (fun k1 =>
  loopK (fun (s2 : Int) rec1 =>
   (if (decide (s2 < ((p_l.length : Nat) : Int))) = true then
    jn (fun (_ : Unit) =>
     let1 (IntKind.i64.wrap (s2 + 1)) fun i_1 =>
     rec1 i_1) (fun k2 =>
     jn (fun (_ : Unit) =>
      k2 ()) (fun k3 =>
      loopK (fun (s5 : Int) rec2 =>
       gd ((0 : Int) <= s2 /\ s2 < ((p_l.length : Nat) : Int)) <|
       (if (decide (s5 < (((gt p_l s2).length : Nat) : Int))) = true then
        gd ((0 : Int) <= s2 /\ s2 < ((p_l.length : Nat) : Int)) <|
        gd ((0 : Int) <= s5 /\ s5 < (((gt p_l s2).length : Nat) : Int)) <|
        (if ((((gt p_l s2).getD (Int.toNat s5) 0).toNat : Int) == 0) = true then
         some ([], [], 1)
        else
         let1 (IntKind.i64.wrap (s5 + 1)) fun k_1 =>
         rec2 k_1)
       else
        k3 ())) bigF 0))
   else
    k1 ())) bigF 0)
def ref05_entry (b : List Int) (tag : Int) (value : Int) : Option (List Int) :=
 jn (fun (s1 : List Int) =>
  jn (fun (s3 : List Int) =>
   some s3) (fun k2 =>
   loopK (fun (s4 : (List Int) × Int × Int) rec2 =>
    (if (decide (s4.2.2 < 8)) = true then
     gd ((s4.1.length + ([IntKind.u8.wrap (Int.tmod s4.2.1 256)] : List Int).length) * 1 <= 140737488355328) <|
     let1 (IntKind.u64.wrap (Int.tdiv s4.2.1 256)) fun value_1 =>
     let1 (IntKind.i64.wrap (s4.2.2 + 1)) fun i_2 =>
     rec2 ((s4.1 ++ ([IntKind.u8.wrap (Int.tmod s4.2.1 256)] : List Int)), value_1, i_2)
    else
     k2 s4.1)) bigF (s1, value, 0))) (fun k1 =>
  loopK (fun (s2 : (List Int) × Int × Int) rec1 =>
   (if (decide (s2.2.2 < 8)) = true then
    gd ((s2.1.length + ([IntKind.u8.wrap (Int.tmod s2.2.1 256)] : List Int).length) * 1 <= 140737488355328) <|
    let1 (IntKind.u64.wrap (Int.tdiv s2.2.1 256)) fun tag_1 =>
    let1 (IntKind.i64.wrap (s2.2.2 + 1)) fun i_1 =>
    rec1 ((s2.1 ++ ([IntKind.u8.wrap (Int.tmod s2.2.1 256)] : List Int)), tag_1, i_1)
   else
    k1 s2.1)) bigF (b, tag, 0))
def ref05_Put (p_x : (List Int) × (List Int)) : Option (List Int) :=
 jn (fun (s1 : List Int) =>
  jn (fun (s3 : List Int) =>
   (ref05_entry s3 0 0).bind fun z4 =>
   some z4) (fun k2 =>
   loopK (fun (s4 : (List Int) × Int) rec2 =>
    (if (decide (s4.2 < 7)) = true then
     jn (fun (s5 : List Int) =>
      let1 (IntKind.i64.wrap (s4.2 + 1)) fun i_2 =>
      rec2 (s5, i_2)) (fun k3 =>
      gd ((0 : Int) <= s4.2 /\ s4.2 < ((p_x.2.length : Nat) : Int)) <|
      let1 (gt p_x.2 s4.2) fun v_1 =>
      jn (fun (s6 : Bool) =>
       (if (s6) = true then
        k3 s4.1
       else
        (ref05_Tags).bind fun z2 =>
        gd ((0 : Int) <= s4.2 /\ s4.2 < ((z2.length : Nat) : Int)) <|
        (ref05_entry s4.1 (gt z2 s4.2) v_1).bind fun z3 =>
        k3 z3)) (fun k4 =>
       (if (s4.2 == 0) = true then
       (if (v_1 == 0) = true then
       k4 true
       else
       (if (s4.2 == 3) = true then
       gd ((0 : Int) <= 4 /\ 4 < ((p_x.2.length : Nat) : Int)) <|
       (if ((gt p_x.2 4) == 0) = true then
       k4 true
       else
       (if (decide (s4.2 >= 5)) = true then
       gd ((0 : Int) <= 6 /\ 6 < ((p_x.2.length : Nat) : Int)) <|
       k4 ((gt p_x.2 6) == 0)
       else
       k4 false))
       else
       (if (s4.2 == 4) = true then
       gd ((0 : Int) <= 4 /\ 4 < ((p_x.2.length : Nat) : Int)) <|
       (if ((gt p_x.2 4) == 0) = true then
       k4 true
       else
       (if (decide (s4.2 >= 5)) = true then
       gd ((0 : Int) <= 6 /\ 6 < ((p_x.2.length : Nat) : Int)) <|
       k4 ((gt p_x.2 6) == 0)
       else
       k4 false))
       else
       (if (decide (s4.2 >= 5)) = true then
       gd ((0 : Int) <= 6 /\ 6 < ((p_x.2.length : Nat) : Int)) <|
       k4 ((gt p_x.2 6) == 0)
       else
       k4 false))))
       else
       (if (s4.2 == 3) = true then
       gd ((0 : Int) <= 4 /\ 4 < ((p_x.2.length : Nat) : Int)) <|
       (if ((gt p_x.2 4) == 0) = true then
       k4 true
       else
       (if (decide (s4.2 >= 5)) = true then
       gd ((0 : Int) <= 6 /\ 6 < ((p_x.2.length : Nat) : Int)) <|
       k4 ((gt p_x.2 6) == 0)
       else
       k4 false))
       else
       (if (s4.2 == 4) = true then
       gd ((0 : Int) <= 4 /\ 4 < ((p_x.2.length : Nat) : Int)) <|
       (if ((gt p_x.2 4) == 0) = true then
       k4 true
       else
       (if (decide (s4.2 >= 5)) = true then
       gd ((0 : Int) <= 6 /\ 6 < ((p_x.2.length : Nat) : Int)) <|
       k4 ((gt p_x.2 6) == 0)
       else
       k4 false))
       else
       (if (decide (s4.2 >= 5)) = true then
       gd ((0 : Int) <= 6 /\ 6 < ((p_x.2.length : Nat) : Int)) <|
       k4 ((gt p_x.2 6) == 0)
       else
       k4 false))))))
    else
     k2 s4.1)) bigF (s1, 0))) (fun k1 =>
  loopK (fun (s2 : (List Int) × Int) rec1 =>
   (if (decide (s2.2 < ((p_x.1.length : Nat) : Int))) = true then
    gd ((0 : Int) <= s2.2 /\ s2.2 < ((p_x.1.length : Nat) : Int)) <|
    (ref05_entry s2.1 1 (gt p_x.1 s2.2)).bind fun z1 =>
    let1 (IntKind.i64.wrap (s2.2 + 1)) fun i_1 =>
    rec1 (z1, i_1)
   else
    k1 s2.1)) bigF ([], 0))
def ref09_up (p_x : Int) (n : Int) : Option (Int) :=
 gd (n ≠ 0) <|
 some (IntKind.u64.wrap ((IntKind.u64.wrap (Int.tdiv (IntKind.u64.wrap ((IntKind.u64.wrap (p_x + n)) - 1)) n)) * n))
def ref04_eight (b : List Int) (p_x : Int) (n : Int) : Option (List Int) :=
 jn (fun (s1 : List Int) =>
  some s1) (fun k1 =>
  loopK (fun (s2 : (List Int) × Int × Int) rec1 =>
   (if (decide (s2.2.2 < n)) = true then
    gd ((s2.1.length + ([IntKind.u8.wrap (Int.tmod s2.2.1 256)] : List Int).length) * 1 <= 140737488355328) <|
    let1 (IntKind.u64.wrap (Int.tdiv s2.2.1 256)) fun x_1 =>
    let1 (IntKind.i64.wrap (s2.2.2 + 1)) fun i_1 =>
    rec1 ((s2.1 ++ ([IntKind.u8.wrap (Int.tmod s2.2.1 256)] : List Int)), x_1, i_1)
   else
    k1 s2.1)) bigF (b, p_x, 0))
def ref04_Put (p_s : Yz3) : Option (List Int) :=
 (ref04_eight ([] : List Int) (IntKind.u64.wrap p_s.1) 4).bind fun z1 =>
 (ref04_eight z1 (IntKind.u64.wrap p_s.2.1) 4).bind fun z2 =>
 (ref04_eight z2 p_s.2.2.1 8).bind fun z3 =>
 (ref04_eight z3 p_s.2.2.2.1 8).bind fun z4 =>
 (ref04_eight z4 p_s.2.2.2.1 8).bind fun z5 =>
 (ref04_eight z5 p_s.2.2.2.2.1 8).bind fun z6 =>
 (ref04_eight z6 p_s.2.2.2.2.2.1 8).bind fun z7 =>
 (ref04_eight z7 p_s.2.2.2.2.2.2 8).bind fun z8 =>
 some z8
def ref09_fill (b : List Int) (n : Int) : Option (List Int) :=
 jn (fun (s1 : List Int) =>
  some s1) (fun k1 =>
  loopK (fun (s2 : List Int) rec1 =>
   gd (n ≠ 0) <|
   (if ((Int.tmod ((s2.length : Nat) : Int) n) != 0) = true then
    gd ((s2.length + ([0] : List Int).length) * 1 <= 140737488355328) <|
    rec1 (s2 ++ ([0] : List Int))
   else
    k1 s2)) bigF b)
def ref06_number (b : List Int) (p_x : Int) (n : Int) : Option (List Int) :=
 jn (fun (s1 : List Int) =>
  some s1) (fun k1 =>
  loopK (fun (s2 : (List Int) × Int × Int) rec1 =>
   (if (decide (s2.2.2 < n)) = true then
    gd ((s2.1.length + ([IntKind.u8.wrap (Int.tmod s2.2.1 256)] : List Int).length) * 1 <= 140737488355328) <|
    let1 (IntKind.u64.wrap (Int.tdiv s2.2.1 256)) fun x_1 =>
    let1 (IntKind.i64.wrap (s2.2.2 + 1)) fun i_1 =>
    rec1 ((s2.1 ++ ([IntKind.u8.wrap (Int.tmod s2.2.1 256)] : List Int)), x_1, i_1)
   else
    k1 s2.1)) bigF (b, p_x, 0))
def ref06_Put (p_s : Yz5) : Option (List Int) :=
 (ref06_number ([] : List Int) (IntKind.u64.wrap p_s.1) 4).bind fun z1 =>
 gd ((z1.length + ([p_s.2.1, p_s.2.2.1] : List Int).length) * 1 <= 140737488355328) <|
 (ref06_number (z1 ++ ([p_s.2.1, p_s.2.2.1] : List Int)) (IntKind.u64.wrap p_s.2.2.2.1) 2).bind fun z2 =>
 (ref06_number z2 p_s.2.2.2.2.1 8).bind fun z3 =>
 (ref06_number z3 p_s.2.2.2.2.2 8).bind fun z4 =>
 some z4
def ref07_eight (b : List Int) (p_x : Int) : Option (List Int) :=
 jn (fun (s1 : List Int) =>
  some s1) (fun k1 =>
  loopK (fun (s2 : (List Int) × Int × Int) rec1 =>
   (if (decide (s2.2.2 < 8)) = true then
    gd ((s2.1.length + ([IntKind.u8.wrap (Int.tmod s2.2.1 256)] : List Int).length) * 1 <= 140737488355328) <|
    let1 (IntKind.u64.wrap (Int.tdiv s2.2.1 256)) fun x_1 =>
    let1 (IntKind.i64.wrap (s2.2.2 + 1)) fun i_1 =>
    rec1 ((s2.1 ++ ([IntKind.u8.wrap (Int.tmod s2.2.1 256)] : List Int)), x_1, i_1)
   else
    k1 s2.1)) bigF (b, p_x, 0))
def ref07_Put (p_x : Yz7) : Option (List Int) :=
 (ref07_eight ([] : List Int) p_x.1).bind fun z1 =>
 (ref07_eight z1 (IntKind.u64.wrap ((IntKind.u64.wrap p_x.2.1) + (IntKind.u64.wrap ((IntKind.u64.wrap p_x.2.2.1) * 4294967296))))).bind fun z2 =>
 (ref07_eight z2 (IntKind.u64.wrap p_x.2.2.2)).bind fun z3 =>
 some z3
def ref09_Build (p_s : Yz1) : Option ((List Int) × Int) :=
 (ref09_may (p_s.1, p_s.2.1, p_s.2.2.1, p_s.2.2.2.1, p_s.2.2.2.2.1, p_s.2.2.2.2.2.1, p_s.2.2.2.2.2.2.1, p_s.2.2.2.2.2.2.2.1, p_s.2.2.2.2.2.2.2.2.1, p_s.2.2.2.2.2.2.2.2.2.1, p_s.2.2.2.2.2.2.2.2.2.2)).bind fun z1 =>
 (if (z1 != 0) = true then
  some ([], z1)
 else
  gd ((([p_s.2.1] : List (List UInt8)).length + p_s.2.2.1.length) * 16 <= 140737488355328) <|
  jn (fun (s1 : List (List UInt8)) =>
   (ref02_Build s1).bind fun z2 =>
   (if (z2.2.2 != 0) = true then
    some ([], z2.2.2)
   else
    let1 (((p_s.2.2.1.length : Nat) : Int)) fun nd_1 =>
    jn (fun (s3 : Int) =>
     jn (fun (s4 : Bool) =>
      jn (fun (s5 : Int) =>
       jn (fun (s6 : Bool) =>
        jn (fun (s7 : Int) =>
         gd ((0 : Int) <= 1 /\ (1 : Int) <= (IntKind.i64.wrap (1 + nd_1)) /\ (IntKind.i64.wrap (1 + nd_1)) <= ((z2.2.1.length : Nat) : Int)) <|
         gd ((0 : Int) <= 0 /\ 0 < ((z2.2.1.length : Nat) : Int)) <|
         jn (fun (s8 : (List Int) × (List Int)) =>
          let1 (IntKind.u64.wrap (IntKind.i64.wrap (64 + (IntKind.i64.wrap (56 * s7))))) fun dyn_1 =>
          (ref05_Put (s8.1, s8.2)).bind fun z3 =>
          let1 (IntKind.u64.wrap ((z3.length : Nat) : Int)) fun size_1 =>
          gd ((0 : Int) <= 1 /\ 1 < ((s8.2.length : Nat) : Int)) <|
          gd ((0 : Int) <= 1 /\ 1 < (((s8.2.set (Int.toNat 1) (IntKind.u64.wrap (dyn_1 + size_1))).length : Nat) : Int)) <|
          gd ((0 : Int) <= 2 /\ 2 < (((s8.2.set (Int.toNat 1) (IntKind.u64.wrap (dyn_1 + size_1))).length : Nat) : Int)) <|
          (ref09_up (IntKind.u64.wrap ((gt (s8.2.set (Int.toNat 1) (IntKind.u64.wrap (dyn_1 + size_1))) 1) + (gt (s8.2.set (Int.toNat 1) (IntKind.u64.wrap (dyn_1 + size_1))) 2))) 8).bind fun z4 =>
          gd ((0 : Int) <= 3 /\ 3 < (((s8.2.set (Int.toNat 1) (IntKind.u64.wrap (dyn_1 + size_1))).length : Nat) : Int)) <|
          gd ((0 : Int) <= 3 /\ 3 < ((((s8.2.set (Int.toNat 1) (IntKind.u64.wrap (dyn_1 + size_1))).set (Int.toNat 3) z4).length : Nat) : Int)) <|
          gd ((0 : Int) <= 4 /\ 4 < ((((s8.2.set (Int.toNat 1) (IntKind.u64.wrap (dyn_1 + size_1))).set (Int.toNat 3) z4).length : Nat) : Int)) <|
          gd ((0 : Int) <= 5 /\ 5 < ((((s8.2.set (Int.toNat 1) (IntKind.u64.wrap (dyn_1 + size_1))).set (Int.toNat 3) z4).length : Nat) : Int)) <|
          gd ((0 : Int) <= 5 /\ 5 < (((((s8.2.set (Int.toNat 1) (IntKind.u64.wrap (dyn_1 + size_1))).set (Int.toNat 3) z4).set (Int.toNat 5) (IntKind.u64.wrap ((gt ((s8.2.set (Int.toNat 1) (IntKind.u64.wrap (dyn_1 + size_1))).set (Int.toNat 3) z4) 3) + (IntKind.u64.wrap (24 * (gt ((s8.2.set (Int.toNat 1) (IntKind.u64.wrap (dyn_1 + size_1))).set (Int.toNat 3) z4) 4)))))).length : Nat) : Int)) <|
          gd ((0 : Int) <= 6 /\ 6 < (((((s8.2.set (Int.toNat 1) (IntKind.u64.wrap (dyn_1 + size_1))).set (Int.toNat 3) z4).set (Int.toNat 5) (IntKind.u64.wrap ((gt ((s8.2.set (Int.toNat 1) (IntKind.u64.wrap (dyn_1 + size_1))).set (Int.toNat 3) z4) 3) + (IntKind.u64.wrap (24 * (gt ((s8.2.set (Int.toNat 1) (IntKind.u64.wrap (dyn_1 + size_1))).set (Int.toNat 3) z4) 4)))))).length : Nat) : Int)) <|
          let1 (IntKind.u64.wrap ((gt (((s8.2.set (Int.toNat 1) (IntKind.u64.wrap (dyn_1 + size_1))).set (Int.toNat 3) z4).set (Int.toNat 5) (IntKind.u64.wrap ((gt ((s8.2.set (Int.toNat 1) (IntKind.u64.wrap (dyn_1 + size_1))).set (Int.toNat 3) z4) 3) + (IntKind.u64.wrap (24 * (gt ((s8.2.set (Int.toNat 1) (IntKind.u64.wrap (dyn_1 + size_1))).set (Int.toNat 3) z4) 4)))))) 5) + (gt (((s8.2.set (Int.toNat 1) (IntKind.u64.wrap (dyn_1 + size_1))).set (Int.toNat 3) z4).set (Int.toNat 5) (IntKind.u64.wrap ((gt ((s8.2.set (Int.toNat 1) (IntKind.u64.wrap (dyn_1 + size_1))).set (Int.toNat 3) z4) 3) + (IntKind.u64.wrap (24 * (gt ((s8.2.set (Int.toNat 1) (IntKind.u64.wrap (dyn_1 + size_1))).set (Int.toNat 3) z4) 4)))))) 6))) fun end_1 =>
          (ref09_up end_1 256).bind fun z5 =>
          (ref09_up (IntKind.u64.wrap (z5 + (IntKind.u64.wrap ((p_s.2.2.2.2.1.length : Nat) : Int)))) 256).bind fun z6 =>
          (ref09_up (IntKind.u64.wrap (z6 + (IntKind.u64.wrap ((p_s.2.2.2.2.2.1.length : Nat) : Int)))) 8).bind fun z7 =>
          jn (fun (s9 : Int) =>
           (ref03_Put (p_s.1, s9, 64, s7)).bind fun z8 =>
           (ref04_Put (1, 4, 0, 0, end_1, end_1, 256)).bind fun z9 =>
           gd ((z8.1.length + z9.length) * 1 <= 140737488355328) <|
           jn (fun (s10 : List Int) =>
            jn (fun (s11 : List Int) =>
             (ref04_Put (2, 4, dyn_1, dyn_1, size_1, size_1, 8)).bind fun z12 =>
             gd ((s11.length + z12.length) * 1 <= 140737488355328) <|
             jn (fun (s14 : List Int) =>
              (ref05_Put (s8.1, (((s8.2.set (Int.toNat 1) (IntKind.u64.wrap (dyn_1 + size_1))).set (Int.toNat 3) z4).set (Int.toNat 5) (IntKind.u64.wrap ((gt ((s8.2.set (Int.toNat 1) (IntKind.u64.wrap (dyn_1 + size_1))).set (Int.toNat 3) z4) 3) + (IntKind.u64.wrap (24 * (gt ((s8.2.set (Int.toNat 1) (IntKind.u64.wrap (dyn_1 + size_1))).set (Int.toNat 3) z4) 4)))))))).bind fun z14 =>
              gd ((s14.length + z14.length) * 1 <= 140737488355328) <|
              gd (((s14 ++ z14).length + z2.1.length) * 1 <= 140737488355328) <|
              (ref09_fill ((s14 ++ z14) ++ z2.1) 8).bind fun z15 =>
              jn (fun (s16 : List Int) =>
               jn (fun (s17 : List Int) =>
                jn (fun (s24 : List Int) =>
                 jn (fun (s28 : List Int) =>
                  jn (fun (s30 : List Int) =>
                   jn (fun (s32 : List Int) =>
                    (if (decide (((s32.length : Nat) : Int) > 65536)) = true then
                     some ([], 13)
                    else
                     some (s32, 0))) (fun k29 =>
                    (if (decide (((p_s.2.2.2.2.2.2.2.1.length : Nat) : Int) > 0)) = true then
                     jn (fun (s33 : List Int) =>
                      gd ((s33.length + p_s.2.2.2.2.2.2.2.1.length) * 1 <= 140737488355328) <|
                      k29 (s33 ++ p_s.2.2.2.2.2.2.2.1)) (fun k30 =>
                      loopK (fun (s34 : List Int) rec4 =>
                       (if (decide ((IntKind.u64.wrap ((s34.length : Nat) : Int)) < z7)) = true then
                        gd ((s34.length + ([0] : List Int).length) * 1 <= 140737488355328) <|
                        rec4 (s34 ++ ([0] : List Int))
                       else
                        k30 s34)) bigF s30)
                    else
                     k29 s30))) (fun k27 =>
                   (if (decide (((p_s.2.2.2.2.2.1.length : Nat) : Int) > 0)) = true then
                    jn (fun (s31 : List Int) =>
                     k27 s31) (fun k28 =>
                     (ref09_fill s28 256).bind fun z19 =>
                     gd ((z19.length + p_s.2.2.2.2.2.1.length) * 1 <= 140737488355328) <|
                     k28 (z19 ++ p_s.2.2.2.2.2.1))
                   else
                    k27 s28))) (fun k25 =>
                  (if (decide (((p_s.2.2.2.2.1.length : Nat) : Int) > 0)) = true then
                   jn (fun (s29 : List Int) =>
                    k25 s29) (fun k26 =>
                    (ref09_fill s24 256).bind fun z18 =>
                    gd ((z18.length + p_s.2.2.2.2.1.length) * 1 <= 140737488355328) <|
                    k26 (z18 ++ p_s.2.2.2.2.1))
                  else
                   k25 s24))) (fun k22 =>
                 loopK (fun (s25 : (List Int) × Int) rec3 =>
                  (if (decide (s25.2 < ((p_s.2.2.2.2.2.2.2.2.2.2.length : Nat) : Int))) = true then
                   gd ((0 : Int) <= s25.2 /\ s25.2 < ((p_s.2.2.2.2.2.2.2.2.2.2.length : Nat) : Int)) <|
                   gd ((0 : Int) <= s25.2 /\ s25.2 < ((p_s.2.2.2.2.2.2.2.2.2.2.length : Nat) : Int)) <|
                   gd ((0 : Int) <= s25.2 /\ s25.2 < ((p_s.2.2.2.2.2.2.2.2.2.2.length : Nat) : Int)) <|
                   gd ((0 : Int) <= s25.2 /\ s25.2 < ((p_s.2.2.2.2.2.2.2.2.2.2.length : Nat) : Int)) <|
                   jn (fun (s26 : Yz7) =>
                    gd ((0 : Int) <= s25.2 /\ s25.2 < ((p_s.2.2.2.2.2.2.2.2.2.2.length : Nat) : Int)) <|
                    jn (fun (s27 : Yz7) =>
                     (ref07_Put (s27.1, s27.2.1, s27.2.2.1, s27.2.2.2)).bind fun z17 =>
                     gd ((s25.1.length + z17.length) * 1 <= 140737488355328) <|
                     let1 (IntKind.i64.wrap (s25.2 + 1)) fun i_3 =>
                     rec3 ((s25.1 ++ z17), i_3)) (fun k24 =>
                     (if (decide (((gt p_s.2.2.2.2.2.2.2.2.2.2 s25.2).2.2.2.1) >= 0)) = true then
                      gd ((0 : Int) <= s25.2 /\ s25.2 < ((p_s.2.2.2.2.2.2.2.2.2.2.length : Nat) : Int)) <|
                      k24 (s26.1, s26.2.1, IntKind.u32.wrap (IntKind.i64.wrap (((gt p_s.2.2.2.2.2.2.2.2.2.2 s25.2).2.2.2.1) + 1)), s26.2.2.2)
                     else
                      k24 (s26.1, s26.2.1, s26.2.2.1, s26.2.2.2)))) (fun k23 =>
                    (if (((gt p_s.2.2.2.2.2.2.2.2.2.2 s25.2).1) == 2) = true then
                     gd ((0 : Int) <= s25.2 /\ s25.2 < ((p_s.2.2.2.2.2.2.2.2.2.2.length : Nat) : Int)) <|
                     k23 (IntKind.u64.wrap (((gt p_s.2.2.2.2.2.2.2.2.2.2 s25.2).2.1) + z6), (gt p_s.2.2.2.2.2.2.2.2.2.2 s25.2).2.2.1, 0, (gt p_s.2.2.2.2.2.2.2.2.2.2 s25.2).2.2.2.2)
                    else
                     k23 (IntKind.u64.wrap (((gt p_s.2.2.2.2.2.2.2.2.2.2 s25.2).2.1) + z5), (gt p_s.2.2.2.2.2.2.2.2.2.2 s25.2).2.2.1, 0, (gt p_s.2.2.2.2.2.2.2.2.2.2 s25.2).2.2.2.2)))
                  else
                   k22 s25.1)) bigF (s17, 0))) (fun k16 =>
                loopK (fun (s18 : (List Int) × Int) rec2 =>
                 (if (decide (s18.2 < ((p_s.2.2.2.2.2.2.2.2.2.1.length : Nat) : Int))) = true then
                  gd ((0 : Int) <= s18.2 /\ s18.2 < ((p_s.2.2.2.2.2.2.2.2.2.1.length : Nat) : Int)) <|
                  gd ((0 : Int) <= (IntKind.i64.wrap ((IntKind.i64.wrap (1 + nd_1)) + s18.2)) /\ (IntKind.i64.wrap ((IntKind.i64.wrap (1 + nd_1)) + s18.2)) < ((z2.2.1.length : Nat) : Int)) <|
                  jn (fun (s19 : Yz5) =>
                   jn (fun (s20 : Yz5) =>
                    (ref06_Put (s20.1, s20.2.1, s20.2.2.1, s20.2.2.2.1, s20.2.2.2.2.1, s20.2.2.2.2.2)).bind fun z16 =>
                    gd ((s18.1.length + z16.length) * 1 <= 140737488355328) <|
                    let1 (IntKind.i64.wrap (s18.2 + 1)) fun i_2 =>
                    rec2 ((s18.1 ++ z16), i_2)) (fun k18 =>
                    jn (fun (s21 : Yz5) =>
                     k18 (s21.1, s21.2.1, s21.2.2.1, s21.2.2.2.1, s21.2.2.2.2.1, s21.2.2.2.2.2)) (fun k19 =>
                     (if (((gt p_s.2.2.2.2.2.2.2.2.2.1 s18.2).2.1) == 0) = true then
                      k19 (s19.1, s19.2.1, s19.2.2.1, 0, 0, s19.2.2.2.2.2)
                     else
                      jn (fun (s22 : Yz5) =>
                       k19 (s22.1, s22.2.1, s22.2.2.1, s22.2.2.2.1, s22.2.2.2.2.1, s22.2.2.2.2.2)) (fun k20 =>
                       (if (((gt p_s.2.2.2.2.2.2.2.2.2.1 s18.2).2.1) == 1) = true then
                        k20 (s19.1, IntKind.u8.wrap (s19.2.1 + 2), s19.2.2.1, s19.2.2.2.1, IntKind.u64.wrap (s19.2.2.2.2.1 + z5), s19.2.2.2.2.2)
                       else
                        jn (fun (s23 : Yz5) =>
                         k20 (s23.1, s23.2.1, s23.2.2.1, s23.2.2.2.1, s23.2.2.2.2.1, s23.2.2.2.2.2)) (fun k21 =>
                         (if (((gt p_s.2.2.2.2.2.2.2.2.2.1 s18.2).2.1) == 2) = true then
                          k21 (s19.1, IntKind.u8.wrap (s19.2.1 + 1), s19.2.2.1, s19.2.2.2.1, IntKind.u64.wrap (s19.2.2.2.2.1 + z6), s19.2.2.2.2.2)
                         else
                          k21 (s19.1, IntKind.u8.wrap (s19.2.1 + 6), s19.2.2.1, s19.2.2.2.1, s19.2.2.2.2.1, s19.2.2.2.2.2))))))))) (fun k17 =>
                   (if ((gt p_s.2.2.2.2.2.2.2.2.2.1 s18.2).2.2.2) = true then
                    k17 (IntKind.u32.wrap (gt z2.2.1 (IntKind.i64.wrap ((IntKind.i64.wrap (1 + nd_1)) + s18.2))), 32, 0, 1, (gt p_s.2.2.2.2.2.2.2.2.2.1 s18.2).2.2.1, 0)
                   else
                    k17 (IntKind.u32.wrap (gt z2.2.1 (IntKind.i64.wrap ((IntKind.i64.wrap (1 + nd_1)) + s18.2))), 16, 0, 1, (gt p_s.2.2.2.2.2.2.2.2.2.1 s18.2).2.2.1, 0)))
                 else
                  k16 s18.1)) bigF (s16, 0))) (fun k15 =>
               (if (decide (((p_s.2.2.2.2.2.2.2.2.2.1.length : Nat) : Int) > 0)) = true then
                gd ((0 : Int) <= 24 /\ (z15.length + Int.toNat 24) * 1 <= 140737488355328) <|
                k15 (z15 ++ List.replicate (Int.toNat 24) (0 : Int))
               else
                k15 z15))) (fun k13 =>
              (if (s6) = true then
               let1 (IntKind.u64.wrap ((p_s.2.2.2.2.2.2.2.1.length : Nat) : Int)) fun n_4 =>
               jn (fun (s15 : Int) =>
                (ref04_Put (7, 4, s15, s15, n_4, IntKind.u64.wrap (n_4 + p_s.2.2.2.2.2.2.2.2.1), 8)).bind fun z13 =>
                gd (((s11 ++ z12).length + z13.length) * 1 <= 140737488355328) <|
                k13 ((s11 ++ z12) ++ z13)) (fun k14 =>
                (if (n_4 == 0) = true then
                 k14 0
                else
                 k14 z7))
              else
               k13 (s11 ++ z12)))) (fun k10 =>
             (if (s4) = true then
              let1 (IntKind.u64.wrap ((p_s.2.2.2.2.2.1.length : Nat) : Int)) fun n_2 =>
              jn (fun (s12 : Int) =>
               jn (fun (s13 : Int) =>
                (ref04_Put (1, 6, s13, z6, s12, IntKind.u64.wrap (s12 + p_s.2.2.2.2.2.2.1), 256)).bind fun z11 =>
                gd ((s10.length + z11.length) * 1 <= 140737488355328) <|
                k10 (s10 ++ z11)) (fun k12 =>
                (if (s12 == 0) = true then
                 k12 0
                else
                 k12 z6))) (fun k11 =>
               (if (decide (((p_s.2.2.2.2.2.2.2.1.length : Nat) : Int) > 0)) = true then
                let1 (IntKind.u64.wrap ((IntKind.u64.wrap (z7 + (IntKind.u64.wrap ((p_s.2.2.2.2.2.2.2.1.length : Nat) : Int)))) - z6)) fun n_3 =>
                k11 n_3
               else
                k11 n_2))
             else
              k10 s10))) (fun k9 =>
            (if (decide (((p_s.2.2.2.2.1.length : Nat) : Int) > 0)) = true then
             let1 (IntKind.u64.wrap ((p_s.2.2.2.2.1.length : Nat) : Int)) fun n_1 =>
             (ref04_Put (1, 5, z5, z5, n_1, n_1, 256)).bind fun z10 =>
             gd (((z8.1 ++ z9).length + z10.length) * 1 <= 140737488355328) <|
             k9 ((z8.1 ++ z9) ++ z10)
            else
             k9 (z8.1 ++ z9)))) (fun k8 =>
           (if (decide (((p_s.2.2.2.2.1.length : Nat) : Int) > 0)) = true then
            let1 (IntKind.u64.wrap (z5 + p_s.2.2.2.1)) fun entry_1 =>
            k8 entry_1
           else
            k8 0))) (fun k7 =>
          (if (decide (((p_s.2.2.2.2.2.2.2.2.2.1.length : Nat) : Int) > 0)) = true then
           gd ((0 : Int) <= 4 /\ 4 < ((([gt z2.2.1 0, 0, IntKind.u64.wrap ((z2.1.length : Nat) : Int), 0, 0, 0, IntKind.u64.wrap (IntKind.i64.wrap (24 * ((p_s.2.2.2.2.2.2.2.2.2.2.length : Nat) : Int)))] : List Int).length : Nat) : Int)) <|
           k7 ((cutL z2.2.1 1 (IntKind.i64.wrap (1 + nd_1))), (([gt z2.2.1 0, 0, IntKind.u64.wrap ((z2.1.length : Nat) : Int), 0, 0, 0, IntKind.u64.wrap (IntKind.i64.wrap (24 * ((p_s.2.2.2.2.2.2.2.2.2.2.length : Nat) : Int)))] : List Int).set (Int.toNat 4) (IntKind.u64.wrap (IntKind.i64.wrap (((p_s.2.2.2.2.2.2.2.2.2.1.length : Nat) : Int) + 1)))))
          else
           k7 ((cutL z2.2.1 1 (IntKind.i64.wrap (1 + nd_1))), ([gt z2.2.1 0, 0, IntKind.u64.wrap ((z2.1.length : Nat) : Int), 0, 0, 0, IntKind.u64.wrap (IntKind.i64.wrap (24 * ((p_s.2.2.2.2.2.2.2.2.2.2.length : Nat) : Int)))] : List Int))))) (fun k6 =>
         (if (s6) = true then
          let1 (IntKind.i64.wrap (s5 + 1)) fun count_3 =>
          k6 count_3
         else
          k6 s5))) (fun k5 =>
        (if (decide (((p_s.2.2.2.2.2.2.2.1.length : Nat) : Int) > 0)) = true then
        k5 true
        else
        let1 (decide (p_s.2.2.2.2.2.2.2.2.1 > 0)) fun hasTls_1 =>
        k5 hasTls_1))) (fun k4 =>
       (if (s4) = true then
        let1 (IntKind.i64.wrap (s3 + 1)) fun count_2 =>
        k4 count_2
       else
        k4 s3))) (fun k3 =>
      (if (decide (((p_s.2.2.2.2.2.1.length : Nat) : Int) > 0)) = true then
      k3 true
      else
      (if (decide (((p_s.2.2.2.2.2.2.2.1.length : Nat) : Int) > 0)) = true then
      k3 true
      else
      let1 (decide (p_s.2.2.2.2.2.2.1 > 0)) fun hasData_1 =>
      k3 hasData_1)))) (fun k2 =>
     (if (decide (((p_s.2.2.2.2.1.length : Nat) : Int) > 0)) = true then
      let1 (IntKind.i64.wrap (2 + 1)) fun count_1 =>
      k2 count_1
     else
      k2 2)))) (fun k1 =>
   loopK (fun (s2 : (List (List UInt8)) × Int) rec1 =>
    (if (decide (s2.2 < ((p_s.2.2.2.2.2.2.2.2.2.1.length : Nat) : Int))) = true then
     gd ((0 : Int) <= s2.2 /\ s2.2 < ((p_s.2.2.2.2.2.2.2.2.2.1.length : Nat) : Int)) <|
     gd ((s2.1.length + ([(gt p_s.2.2.2.2.2.2.2.2.2.1 s2.2).1] : List (List UInt8)).length) * 16 <= 140737488355328) <|
     let1 (IntKind.i64.wrap (s2.2 + 1)) fun i_1 =>
     rec1 ((s2.1 ++ ([(gt p_s.2.2.2.2.2.2.2.2.2.1 s2.2).1] : List (List UInt8))), i_1)
    else
     k1 s2.1)) bigF ((([p_s.2.1] : List (List UInt8)) ++ p_s.2.2.1), 0)))
def law09_ImageTurned (p_s : Yz1) (turn : List Int) (cut : Int) : Option (Bool) :=
 (law09_awake).bind fun z1 =>
 (if (!z1) = true then
  some false
 else
  (law09_few (p_s.1, p_s.2.1, p_s.2.2.1, p_s.2.2.2.1, p_s.2.2.2.2.1, p_s.2.2.2.2.2.1, p_s.2.2.2.2.2.2.1, p_s.2.2.2.2.2.2.2.1, p_s.2.2.2.2.2.2.2.2.1, p_s.2.2.2.2.2.2.2.2.2.1, p_s.2.2.2.2.2.2.2.2.2.2)).bind fun z2 =>
  (if (!z2) = true then
   some true
  else
   (law09_spec (p_s.1, p_s.2.1, p_s.2.2.1, p_s.2.2.2.1, p_s.2.2.2.2.1, p_s.2.2.2.2.2.1, p_s.2.2.2.2.2.2.1, p_s.2.2.2.2.2.2.2.1, p_s.2.2.2.2.2.2.2.2.1, p_s.2.2.2.2.2.2.2.2.2.1, p_s.2.2.2.2.2.2.2.2.2.2)).bind fun z3 =>
   (ref09_Build z3).bind fun z4 =>
   jn (fun (s1 : Bool) =>
    (if (s1) = true then
     some true
    else
     jn (fun (s2 : List Int) =>
      jn (fun (s5 : List Int) =>
       (image_Parse s5).bind fun z5 =>
       (ref09_Parse s5).bind fun z6 =>
       jn (fun (s6 : Bool) =>
        some s6) (fun k5 =>
        (if (z5.2 == z6.2) = true then
         (law09_model ((z5.1.1.1, z5.1.1.2.1, z5.1.1.2.2.1, z5.1.1.2.2.2), z5.1.2.1, z5.1.2.2.1, z5.1.2.2.2.1, z5.1.2.2.2.2.1, z5.1.2.2.2.2.2.1, z5.1.2.2.2.2.2.2.1, z5.1.2.2.2.2.2.2.2)).bind fun z7 =>
         (ref09_Same z7 ((z6.1.1.1, z6.1.1.2.1, z6.1.1.2.2.1, z6.1.1.2.2.2), z6.1.2.1, z6.1.2.2.1, z6.1.2.2.2.1, z6.1.2.2.2.2.1, z6.1.2.2.2.2.2.1, z6.1.2.2.2.2.2.2.1, z6.1.2.2.2.2.2.2.2)).bind fun z8 =>
         k5 z8
        else
         k5 false))) (fun k4 =>
       (if ((band .i64 cut 7) == 1) = true then
        gd (((s2.length : Nat) : Int) ≠ 0) <|
        gd ((0 : Int) <= 0 /\ (0 : Int) <= (Int.tmod (band .i64 (shr .i64 cut 3) 16777215) ((s2.length : Nat) : Int)) /\ (Int.tmod (band .i64 (shr .i64 cut 3) 16777215) ((s2.length : Nat) : Int)) <= ((s2.length : Nat) : Int)) <|
        k4 (cutL s2 0 (Int.tmod (band .i64 (shr .i64 cut 3) 16777215) ((s2.length : Nat) : Int)))
       else
        k4 s2))) (fun k2 =>
      loopK (fun (s3 : Int × (List Int)) rec1 =>
       jn (fun (s4 : Bool) =>
        (if (s4) = true then
         gd ((0 : Int) <= s3.1 /\ s3.1 < ((turn.length : Nat) : Int)) <|
         gd (((s3.2.length : Nat) : Int) ≠ 0) <|
         let1 (Int.tmod (band .i64 (gt turn s3.1) 16777215) ((s3.2.length : Nat) : Int)) fun k_1 =>
         gd ((0 : Int) <= (IntKind.i64.wrap (s3.1 + 1)) /\ (IntKind.i64.wrap (s3.1 + 1)) < ((turn.length : Nat) : Int)) <|
         gd ((0 : Int) <= k_1 /\ k_1 < ((s3.2.length : Nat) : Int)) <|
         let1 (IntKind.i64.wrap (s3.1 + 2)) fun i_1 =>
         rec1 (i_1, (s3.2.set (Int.toNat k_1) (IntKind.u8.wrap (band .i64 (gt turn (IntKind.i64.wrap (s3.1 + 1))) 255))))
        else
         k2 s3.2)) (fun k3 =>
        (if (decide ((IntKind.i64.wrap (s3.1 + 1)) < ((turn.length : Nat) : Int))) = true then
        k3 (decide (s3.1 < 8))
        else
        k3 false))) bigF (0, z4.1)))) (fun k1 =>
    (if (z4.2 != 0) = true then
    k1 true
    else
    k1 (((z4.1.length : Nat) : Int) == 0)))))
end Dm

namespace Go.Proofs
set_option maxHeartbeats 1000000 in
set_option maxRecDepth 100000 in
theorem Tryz.stringslite_IndexByte (s : ByteArray) (c : Int) (w : World) :
    Calls Tryz.prog 140 #[.string s, .int .u8 c] w fun e w' => e = .returned (.int .i64 (Lib.indexByte s.data.toList c.toNat.toUInt8)) /\ w' = w := by
 go_enter Tryz.func140, Tryz.ntmps140
 go_wp2
 rw [run_callFunc_extern Tryz.func145 (by kernel_rfl) (by kernel_rfl) (by kernel_rfl) (e := Extern.BytealgIndexByte.indexByte) (by kernel_rfl), Lib.run_indexByteString]
 simp only [Result.andThen]
 rw [Oper.upon_value]
 go_wp2
 go_ret
 exact ⟨rfl, rfl⟩
set_option maxHeartbeats 2000000 in
set_option maxRecDepth 100000 in
theorem Tryz.stringslite_Index_one (s : ByteArray) (c : UInt8) (w : World) :
    Calls Tryz.prog 136 #[.string s, .string ⟨#[c]⟩] w fun e w' => e = .returned (.int .i64 (Lib.indexByte s.data.toList c)) /\ w' = w := by
 go_enter Tryz.func136, Tryz.ntmps136
 go_wp2_with (go_at_call 140; refine (Tryz.stringslite_IndexByte _ _ _).mono ?_; rintro e w' ⟨rfl, rfl⟩)
 · have h : ([c] == s.toList) = true := by assumption
   go_ret
   refine ⟨?_, rfl⟩
   have e : s.data.toList = [c] := by rw [<- Lib.toList_data]; exact (beq_iff_eq.1 h).symm
   rw [e]
   simp [Lib.indexByte]
 · go_ret
   exact ⟨rfl, rfl⟩
set_option maxHeartbeats 1000000 in
theorem Tryz.strings_Index_one (s : ByteArray) (c : UInt8) (w : World) :
    Calls Tryz.prog 121 #[.string s, .string ⟨#[c]⟩] w fun e w' => e = .returned (.int .i64 (Lib.indexByte s.data.toList c)) /\ w' = w := by
 go_enter Tryz.func121, Tryz.ntmps121
 go_wp2_with (go_at_call 136; refine (Tryz.stringslite_Index_one _ _ _).mono ?_; rintro e w' ⟨rfl, rfl⟩)
 go_ret
 exact ⟨rfl, rfl⟩
set_option maxHeartbeats 1000000 in
theorem Tryz.strings_Contains_one (s : ByteArray) (c : UInt8) (w : World) :
    Calls Tryz.prog 72 #[.string s, .string ⟨#[c]⟩] w fun e w' => e = .returned (.bool (decide (0 <= Lib.indexByte s.data.toList c))) /\ w' = w := by
 go_enter Tryz.func72, Tryz.ntmps72
 go_wp2_with (go_at_call 121; refine (Tryz.strings_Index_one _ _ _).mono ?_; rintro e w' ⟨rfl, rfl⟩)
 go_ret
 exact ⟨rfl, rfl⟩
end Go.Proofs
namespace Dm
open Go
theorem hasB_eq (l : List UInt8) (c : UInt8) : decide (0 <= Go.Lib.indexByte l c) = hasB l c := by
 induction l with
 | nil => rfl
 | cons b l ih =>
  unfold hasB at *
  simp only [Go.Lib.indexByte, List.any_cons]
  by_cases h : b == c
  · simp [h]
  · simp only [h, Bool.false_eq_true, if_false, Bool.false_or, <- ih]
    have := Go.Lib.indexByte_ge l c
    by_cases h2 : Go.Lib.indexByte l c == -1
    · simp only [h2, if_true]
      have : Go.Lib.indexByte l c = -1 := by simpa using h2
      simp [this]
    · have h3 : Go.Lib.indexByte l c ≠ -1 := by simpa using h2
      simp only [h2, Bool.false_eq_true, if_false]
      rw [decide_eq_decide]; omega
end Dm

namespace Dm
open Go Go.RowKit Go.Proofs
def tb : Tb := ⟨[(2, .int .i64), (3, .int .i64), (4, .bool), (5, .int .u8), (9, .string), (22, .slice 5), (24, .int .u64), (26, .struct #[⟨ "Kind", 3, 0, false, "", "", 0⟩, ⟨ "Entry", 24, 1, false, "", "", 8⟩, ⟨ "Segs", 24, 2, false, "", "", 16⟩, ⟨ "Count", 3, 3, false, "", "", 24⟩]), (27, .slice 62), (28, .slice 9), (29, .slice 78), (30, .slice 80), (32, .struct #[⟨ "Head", 26, 0, false, "", "", 0⟩, ⟨ "Segs", 27, 4, false, "", "", 32⟩, ⟨ "Soname", 9, 5, false, "", "", 56⟩, ⟨ "Needed", 28, 6, false, "", "", 72⟩, ⟨ "Names", 28, 7, false, "", "", 96⟩, ⟨ "Syms", 29, 8, false, "", "", 120⟩, ⟨ "Relas", 30, 9, false, "", "", 144⟩, ⟨ "Bytes", 22, 10, false, "", "", 168⟩]), (36, .struct #[⟨ "Kind", 3, 0, false, "", "", 0⟩, ⟨ "Entry", 24, 1, false, "", "", 8⟩, ⟨ "Segs", 24, 2, false, "", "", 16⟩, ⟨ "Count", 3, 3, false, "", "", 24⟩]), (38, .struct #[⟨ "Head", 36, 0, false, "", "", 0⟩, ⟨ "Segs", 27, 4, false, "", "", 32⟩, ⟨ "Soname", 9, 5, false, "", "", 56⟩, ⟨ "Needed", 28, 6, false, "", "", 72⟩, ⟨ "Names", 28, 7, false, "", "", 96⟩, ⟨ "Syms", 29, 8, false, "", "", 120⟩, ⟨ "Relas", 30, 9, false, "", "", 144⟩, ⟨ "Bytes", 22, 10, false, "", "", 168⟩]), (44, .slice 83), (45, .slice 108), (47, .struct #[⟨ "Kind", 3, 0, false, "", "", 0⟩, ⟨ "Soname", 9, 1, false, "", "", 8⟩, ⟨ "Needed", 28, 2, false, "", "", 24⟩, ⟨ "Entry", 24, 3, false, "", "", 48⟩, ⟨ "Code", 22, 4, false, "", "", 56⟩, ⟨ "Data", 22, 5, false, "", "", 80⟩, ⟨ "Bss", 24, 6, false, "", "", 104⟩, ⟨ "Tls", 22, 7, false, "", "", 112⟩, ⟨ "TlsBss", 24, 8, false, "", "", 136⟩, ⟨ "Defs", 44, 9, false, "", "", 144⟩, ⟨ "Fixes", 45, 10, false, "", "", 168⟩]), (52, .slice 98), (53, .slice 106), (55, .struct #[⟨ "Kind", 3, 0, false, "", "", 0⟩, ⟨ "Soname", 9, 1, false, "", "", 8⟩, ⟨ "Needed", 28, 2, false, "", "", 24⟩, ⟨ "Entry", 24, 3, false, "", "", 48⟩, ⟨ "Code", 22, 4, false, "", "", 56⟩, ⟨ "Data", 22, 5, false, "", "", 80⟩, ⟨ "Bss", 24, 6, false, "", "", 104⟩, ⟨ "Tls", 22, 7, false, "", "", 112⟩, ⟨ "TlsBss", 24, 8, false, "", "", 136⟩, ⟨ "Defs", 52, 9, false, "", "", 144⟩, ⟨ "Fixes", 53, 10, false, "", "", 168⟩]), (57, .slice 3), (58, .int .u64), (60, .int .u32), (62, .struct #[⟨ "Type", 60, 0, false, "", "", 0⟩, ⟨ "Flags", 60, 1, false, "", "", 4⟩, ⟨ "Off", 24, 2, false, "", "", 8⟩, ⟨ "Vaddr", 24, 3, false, "", "", 16⟩, ⟨ "File", 24, 4, false, "", "", 24⟩, ⟨ "Mem", 24, 5, false, "", "", 32⟩, ⟨ "Align", 24, 6, false, "", "", 40⟩]), (64, .pointer 70), (66, .slice 24), (68, .struct #[⟨ "Needed", 66, 0, false, "", "", 0⟩, ⟨ "Soname", 24, 1, false, "", "", 24⟩, ⟨ "Strtab", 24, 2, false, "", "", 32⟩, ⟨ "Strsz", 24, 3, false, "", "", 40⟩, ⟨ "Symtab", 24, 4, false, "", "", 48⟩, ⟨ "Symnum", 24, 5, false, "", "", 56⟩, ⟨ "Rela", 24, 6, false, "", "", 64⟩, ⟨ "Relasz", 24, 7, false, "", "", 72⟩]), (70, .struct #[⟨ "Image", 32, 0, true, "", "", 0⟩, ⟨ "info", 68, 11, false, "", "dormouse/image", 192⟩, ⟨ "table", 22, 19, false, "", "dormouse/image", 272⟩]), (71, .func #[] #[33] false), (72, .slice 71), (76, .int .u16), (78, .struct #[⟨ "Name", 60, 0, false, "", "", 0⟩, ⟨ "Info", 5, 1, false, "", "", 4⟩, ⟨ "Other", 5, 2, false, "", "", 5⟩, ⟨ "Sect", 76, 3, false, "", "", 6⟩, ⟨ "Value", 24, 4, false, "", "", 8⟩, ⟨ "Size", 24, 5, false, "", "", 16⟩]), (80, .struct #[⟨ "Off", 24, 0, false, "", "", 0⟩, ⟨ "Type", 60, 1, false, "", "", 8⟩, ⟨ "Sym", 60, 2, false, "", "", 12⟩, ⟨ "Add", 2, 3, false, "", "", 16⟩]), (83, .struct #[⟨ "Name", 9, 0, false, "", "", 0⟩, ⟨ "Where", 3, 1, false, "", "", 16⟩, ⟨ "Off", 24, 2, false, "", "", 24⟩, ⟨ "Weak", 4, 3, false, "", "", 32⟩]), (89, .struct #[⟨ "dyn", 24, 0, false, "", "dormouse/image", 0⟩, ⟨ "table", 24, 1, false, "", "dormouse/image", 8⟩, ⟨ "syms", 24, 2, false, "", "dormouse/image", 16⟩, ⟨ "relas", 24, 3, false, "", "dormouse/image", 24⟩, ⟨ "code", 24, 4, false, "", "dormouse/image", 32⟩, ⟨ "data", 24, 5, false, "", "dormouse/image", 40⟩, ⟨ "tls", 24, 6, false, "", "dormouse/image", 48⟩, ⟨ "end", 24, 7, false, "", "dormouse/image", 56⟩]), (98, .struct #[⟨ "Name", 9, 0, false, "", "", 0⟩, ⟨ "Where", 3, 1, false, "", "", 16⟩, ⟨ "Off", 24, 2, false, "", "", 24⟩, ⟨ "Weak", 4, 3, false, "", "", 32⟩]), (100, .struct #[⟨ "Needed", 66, 0, false, "", "", 0⟩, ⟨ "V", 66, 1, false, "", "", 24⟩]), (106, .struct #[⟨ "Where", 3, 0, false, "", "", 0⟩, ⟨ "Off", 24, 1, false, "", "", 8⟩, ⟨ "Type", 60, 2, false, "", "", 16⟩, ⟨ "Def", 3, 3, false, "", "", 24⟩, ⟨ "Add", 2, 4, false, "", "", 32⟩]), (108, .struct #[⟨ "Where", 3, 0, false, "", "", 0⟩, ⟨ "Off", 24, 1, false, "", "", 8⟩, ⟨ "Type", 60, 2, false, "", "", 16⟩, ⟨ "Def", 3, 3, false, "", "", 24⟩, ⟨ "Add", 2, 4, false, "", "", 32⟩]), (141, .map 9 24), (150, .struct #[⟨ "size", 3, 0, false, "", "dormouse/head", 0⟩, ⟨ "value", 24, 1, false, "", "dormouse/head", 8⟩]), (167, .pointer 24), (168, .map 24 167), (169, .map 24 4), (184, .slice 150), (186, .array 4 5), (187, .array 3 24), (188, .array 7 24), (194, .slice 4), (196, .slice 60)],
 [(2, .int .i64 0, 1, 8), (3, .int .i64 0, 1, 8), (4, .bool false, 1, 1), (5, .int .u8 0, 1, 1), (9, .string ⟨#[]⟩, 1, 16), (22, .slice none 0 0, 1, 24), (24, .int .u64 0, 1, 8), (26, .agg #[.int .i64 0, .int .u64 0, .int .u64 0, .int .i64 0], 4, 32), (27, .slice none 0 0, 1, 24), (28, .slice none 0 0, 1, 24), (29, .slice none 0 0, 1, 24), (30, .slice none 0 0, 1, 24), (32, .agg #[.int .i64 0, .int .u64 0, .int .u64 0, .int .i64 0, .slice none 0 0, .string ⟨#[]⟩, .slice none 0 0, .slice none 0 0, .slice none 0 0, .slice none 0 0, .slice none 0 0], 11, 192), (36, .agg #[.int .i64 0, .int .u64 0, .int .u64 0, .int .i64 0], 4, 32), (38, .agg #[.int .i64 0, .int .u64 0, .int .u64 0, .int .i64 0, .slice none 0 0, .string ⟨#[]⟩, .slice none 0 0, .slice none 0 0, .slice none 0 0, .slice none 0 0, .slice none 0 0], 11, 192), (44, .slice none 0 0, 1, 24), (45, .slice none 0 0, 1, 24), (47, .agg #[.int .i64 0, .string ⟨#[]⟩, .slice none 0 0, .int .u64 0, .slice none 0 0, .slice none 0 0, .int .u64 0, .slice none 0 0, .int .u64 0, .slice none 0 0, .slice none 0 0], 11, 192), (52, .slice none 0 0, 1, 24), (53, .slice none 0 0, 1, 24), (55, .agg #[.int .i64 0, .string ⟨#[]⟩, .slice none 0 0, .int .u64 0, .slice none 0 0, .slice none 0 0, .int .u64 0, .slice none 0 0, .int .u64 0, .slice none 0 0, .slice none 0 0], 11, 192), (57, .slice none 0 0, 1, 24), (58, .int .u64 0, 1, 8), (60, .int .u32 0, 1, 4), (62, .agg #[.int .u32 0, .int .u32 0, .int .u64 0, .int .u64 0, .int .u64 0, .int .u64 0, .int .u64 0], 7, 48), (64, .pointer none, 1, 8), (66, .slice none 0 0, 1, 24), (68, .agg #[.slice none 0 0, .int .u64 0, .int .u64 0, .int .u64 0, .int .u64 0, .int .u64 0, .int .u64 0, .int .u64 0], 8, 80), (70, .agg #[.int .i64 0, .int .u64 0, .int .u64 0, .int .i64 0, .slice none 0 0, .string ⟨#[]⟩, .slice none 0 0, .slice none 0 0, .slice none 0 0, .slice none 0 0, .slice none 0 0, .slice none 0 0, .int .u64 0, .int .u64 0, .int .u64 0, .int .u64 0, .int .u64 0, .int .u64 0, .int .u64 0, .slice none 0 0], 20, 296), (71, .nilFunc, 1, 8), (72, .slice none 0 0, 1, 24), (76, .int .u16 0, 1, 2), (78, .agg #[.int .u32 0, .int .u8 0, .int .u8 0, .int .u16 0, .int .u64 0, .int .u64 0], 6, 24), (80, .agg #[.int .u64 0, .int .u32 0, .int .u32 0, .int .i64 0], 4, 24), (83, .agg #[.string ⟨#[]⟩, .int .i64 0, .int .u64 0, .bool false], 4, 40), (89, .agg #[.int .u64 0, .int .u64 0, .int .u64 0, .int .u64 0, .int .u64 0, .int .u64 0, .int .u64 0, .int .u64 0], 8, 64), (98, .agg #[.string ⟨#[]⟩, .int .i64 0, .int .u64 0, .bool false], 4, 40), (100, .agg #[.slice none 0 0, .slice none 0 0], 2, 48), (106, .agg #[.int .i64 0, .int .u64 0, .int .u32 0, .int .i64 0, .int .i64 0], 5, 40), (108, .agg #[.int .i64 0, .int .u64 0, .int .u32 0, .int .i64 0, .int .i64 0], 5, 40), (141, .map none, 1, 8), (150, .agg #[.int .i64 0, .int .u64 0], 2, 16), (167, .pointer none, 1, 8), (168, .map none, 1, 8), (169, .map none, 1, 8), (184, .slice none 0 0, 1, 24), (186, .agg #[.int .u8 0, .int .u8 0, .int .u8 0, .int .u8 0], 4, 4), (187, .agg #[.int .u64 0, .int .u64 0, .int .u64 0], 3, 24), (188, .agg #[.int .u64 0, .int .u64 0, .int .u64 0, .int .u64 0, .int .u64 0, .int .u64 0, .int .u64 0], 7, 56), (194, .slice none 0 0, 1, 24), (196, .slice none 0 0, 1, 24)], [36, 62, 78, 80]⟩
theorem u22 : asc tb.und 22 = some (.slice 5) := by kernel_rfl
theorem i5 : asc tb.info 5 = some (.int .u8 0, 1, 1) := by kernel_rfl
theorem tbOk : TbOk Tryz.prog tb where
 und := by
  intro p hp
  simp only [tb, List.mem_cons, List.not_mem_nil, or_false] at hp
  rcases hp with rfl | rfl | rfl | rfl | rfl | rfl | rfl | rfl | rfl | rfl | rfl | rfl | rfl | rfl | rfl | rfl | rfl | rfl | rfl | rfl | rfl | rfl | rfl | rfl | rfl | rfl | rfl | rfl | rfl | rfl | rfl | rfl | rfl | rfl | rfl | rfl | rfl | rfl | rfl | rfl | rfl | rfl | rfl | rfl | rfl | rfl | rfl | rfl | rfl | rfl | rfl
  · exact Tryz.underlying2
  · exact Tryz.underlying3
  · exact Tryz.underlying4
  · exact Tryz.underlying5
  · exact Tryz.underlying9
  · exact Tryz.underlying22
  · exact Tryz.underlying24
  · exact Tryz.underlying26
  · exact Tryz.underlying27
  · exact Tryz.underlying28
  · exact Tryz.underlying29
  · exact Tryz.underlying30
  · exact Tryz.underlying32
  · exact Tryz.underlying36
  · exact Tryz.underlying38
  · exact Tryz.underlying44
  · exact Tryz.underlying45
  · exact Tryz.underlying47
  · exact Tryz.underlying52
  · exact Tryz.underlying53
  · exact Tryz.underlying55
  · exact Tryz.underlying57
  · exact Tryz.underlying58
  · exact Tryz.underlying60
  · exact Tryz.underlying62
  · exact Tryz.underlying64
  · exact Tryz.underlying66
  · exact Tryz.underlying68
  · exact Tryz.underlying70
  · exact Tryz.underlying71
  · exact Tryz.underlying72
  · exact Tryz.underlying76
  · exact Tryz.underlying78
  · exact Tryz.underlying80
  · exact Tryz.underlying83
  · exact Tryz.underlying89
  · exact Tryz.underlying98
  · exact Tryz.underlying100
  · exact Tryz.underlying106
  · exact Tryz.underlying108
  · exact Tryz.underlying141
  · exact Tryz.underlying150
  · exact Tryz.underlying167
  · exact Tryz.underlying168
  · exact Tryz.underlying169
  · exact Tryz.underlying184
  · exact Tryz.underlying186
  · exact Tryz.underlying187
  · exact Tryz.underlying188
  · exact Tryz.underlying194
  · exact Tryz.underlying196
 info := by
  intro p hp
  simp only [tb, List.mem_cons, List.not_mem_nil, or_false] at hp
  rcases hp with rfl | rfl | rfl | rfl | rfl | rfl | rfl | rfl | rfl | rfl | rfl | rfl | rfl | rfl | rfl | rfl | rfl | rfl | rfl | rfl | rfl | rfl | rfl | rfl | rfl | rfl | rfl | rfl | rfl | rfl | rfl | rfl | rfl | rfl | rfl | rfl | rfl | rfl | rfl | rfl | rfl | rfl | rfl | rfl | rfl | rfl | rfl | rfl | rfl | rfl | rfl
  · kernel_rfl
  · kernel_rfl
  · kernel_rfl
  · kernel_rfl
  · kernel_rfl
  · kernel_rfl
  · kernel_rfl
  · kernel_rfl
  · kernel_rfl
  · kernel_rfl
  · kernel_rfl
  · kernel_rfl
  · kernel_rfl
  · kernel_rfl
  · kernel_rfl
  · kernel_rfl
  · kernel_rfl
  · kernel_rfl
  · kernel_rfl
  · kernel_rfl
  · kernel_rfl
  · kernel_rfl
  · kernel_rfl
  · kernel_rfl
  · kernel_rfl
  · kernel_rfl
  · kernel_rfl
  · kernel_rfl
  · kernel_rfl
  · kernel_rfl
  · kernel_rfl
  · kernel_rfl
  · kernel_rfl
  · kernel_rfl
  · kernel_rfl
  · kernel_rfl
  · kernel_rfl
  · kernel_rfl
  · kernel_rfl
  · kernel_rfl
  · kernel_rfl
  · kernel_rfl
  · kernel_rfl
  · kernel_rfl
  · kernel_rfl
  · kernel_rfl
  · kernel_rfl
  · kernel_rfl
  · kernel_rfl
  · kernel_rfl
  · kernel_rfl
 ag := by
  intro t ht
  simp only [tb, List.mem_cons, List.not_mem_nil, or_false] at ht
  rcases ht with rfl | rfl | rfl | rfl
  · exact ⟨by kernel_rfl, by kernel_rfl⟩
  · exact ⟨by kernel_rfl, by kernel_rfl⟩
  · exact ⟨by kernel_rfl, by kernel_rfl⟩
  · exact ⟨by kernel_rfl, by kernel_rfl⟩
theorem mixed : Tryz.prog.follows .mixedOrders = true := by kernel_rfl
def c82 : TC := .pr (.s) (.pr (.i .i64) (.pr (.i .u64) (.b)))
def c105 : TC := .pr (.i .i64) (.pr (.i .u64) (.pr (.i .u32) (.pr (.i .i64) (.i .i64))))
def c46 : TC := .pr (.i .i64) (.pr (.s) (.pr (.sl none (.s)) (.pr (.i .u64) (.pr (.sl none (.i .u8)) (.pr (.sl none (.i .u8)) (.pr (.i .u64) (.pr (.sl none (.i .u8)) (.pr (.i .u64) (.pr (.sl none c82) (.sl none c105))))))))))
def c67 : TC := .pr (.sl none (.i .u64)) (.pr (.i .u64) (.pr (.i .u64) (.pr (.i .u64) (.pr (.i .u64) (.pr (.i .u64) (.pr (.i .u64) (.i .u64)))))))
def c61 : TC := .pr (.i .u32) (.pr (.i .u32) (.pr (.i .u64) (.pr (.i .u64) (.pr (.i .u64) (.pr (.i .u64) (.i .u64))))))
def c88 : TC := .pr (.i .u64) (.pr (.i .u64) (.pr (.i .u64) (.pr (.i .u64) (.pr (.i .u64) (.pr (.i .u64) (.pr (.i .u64) (.i .u64)))))))
def c149 : TC := .pr (.i .i64) (.i .u64)
def c25 : TC := .pr (.i .i64) (.pr (.i .u64) (.pr (.i .u64) (.i .i64)))
def c77 : TC := .pr (.i .u32) (.pr (.i .u8) (.pr (.i .u8) (.pr (.i .u16) (.pr (.i .u64) (.i .u64)))))
def c79 : TC := .pr (.i .u64) (.pr (.i .u32) (.pr (.i .u32) (.i .i64)))
def c31 : TC := .pr c25 (.pr (.sl none c61) (.pr (.s) (.pr (.sl none (.s)) (.pr (.sl none (.s)) (.pr (.sl none c77) (.pr (.sl none c79) (.sl none (.i .u8))))))))
def c69 : TC := .pr c31 (.pr c67 (.sl none (.i .u8)))
def c37 : TC := .pr c25 (.pr (.sl none c61) (.pr (.s) (.pr (.sl none (.s)) (.pr (.sl none (.s)) (.pr (.sl none c77) (.pr (.sl none c79) (.sl none (.i .u8))))))))
def c54 : TC := .pr (.i .i64) (.pr (.s) (.pr (.sl none (.s)) (.pr (.i .u64) (.pr (.sl none (.i .u8)) (.pr (.sl none (.i .u8)) (.pr (.i .u64) (.pr (.sl none (.i .u8)) (.pr (.i .u64) (.pr (.sl none c82) (.sl none c105))))))))))
def c99 : TC := .pr (.sl none (.i .u64)) (.sl none (.i .u64))
end Dm

namespace Dm
open Go Go.RowKit Go.Proofs
def rNN : Sc := .reg .nil
def sNN (a : Sc) : Sc := .seq rNN a
def oNN : Vk := .op [] [] []
def ct_image_may_1 : Ct := ⟨69, [.v true c82], [.val false .b], fun s => image_may_1 s.1⟩
theorem image_may_1_ok : Holds Tryz.prog ct_image_may_1 := Holds.mk' (N := 11) (sc := sNN (.seq (.jn ⟨[], [], [.sl 2 false .b]⟩ (.reg (.sp 4 .nil .nil))) .ret))
 (cts := []) tbOk mixed trivial Tryz.func69 rfl Tryz.ntmps69 (by kernel_rfl) (by kernel_rfl) (by kernel_rfl)
def ct_slices_IndexFunc_image_Def_image_Def_may_1 : Ct := ⟨119, [.v false (.sl none c82), .fn 69 []], [.val false (.i .i64)], fun s => slices_IndexFunc_image_Def_image_Def_may_1 s.1⟩
theorem slices_IndexFunc_image_Def_image_Def_may_1_ok : Holds Tryz.prog ct_slices_IndexFunc_image_Def_image_Def_may_1 := Holds.mk' (N := 19) (sc := sNN (.seq (sNN (.jn ⟨[], [], []⟩ (.blk (.lp ⟨[0, 1, 7], [], [.sl 8 false (.i .i64)]⟩ (sNN (.seq (.cond .skip .exit) (.seq (.blk (sNN (.seq (.reg (.h 5 (.cl 0 false) .nil)) (.cond (sNN .ret) .skip)))) rNN))))))) (sNN .ret)))
 (cts := [ct_image_may_1]) tbOk mixed ⟨image_may_1_ok, trivial⟩ Tryz.func119 rfl Tryz.ntmps119 (by kernel_rfl) (by kernel_rfl) (by kernel_rfl)
def ct_slices_ContainsFunc_image_Def_image_Def_may_1 : Ct := ⟨68, [.v false (.sl none c82), .fn 69 []], [.val false .b], fun s => slices_ContainsFunc_image_Def_image_Def_may_1 s.1⟩
theorem slices_ContainsFunc_image_Def_image_Def_may_1_ok : Holds Tryz.prog ct_slices_ContainsFunc_image_Def_image_Def_may_1 := Holds.mk' (N := 9) (sc := sNN (.seq (.reg (.h 2 (.cl 0 false) .nil)) .ret))
 (cts := [ct_slices_IndexFunc_image_Def_image_Def_may_1]) tbOk mixed ⟨slices_IndexFunc_image_Def_image_Def_may_1_ok, trivial⟩ Tryz.func68 rfl Tryz.ntmps68 (by kernel_rfl) (by kernel_rfl) (by kernel_rfl)
def ct_image_may_2 : Ct := ⟨71, [.v true c105, .p (47, false, c46)], [.val false .b], fun s => image_may_2 s.1 s.2.1⟩
theorem image_may_2_ok : Holds Tryz.prog ct_image_may_2 := Holds.mk' (N := 20) (sc := sNN (.seq (.jn ⟨[], [], [.sl 3 false .b]⟩ (.reg (.sp 4 (.sp 9 .nil .nil) .nil))) .ret))
 (cts := []) tbOk mixed trivial Tryz.func71 rfl Tryz.ntmps71 (by kernel_rfl) (by kernel_rfl) (by kernel_rfl)
def ct_slices_IndexFunc_image_Fix_image_Fix_may_2 : Ct := ⟨120, [.v false (.sl none c105), .fn 71 [(47, false, c46)]], [.val false (.i .i64)], fun s => slices_IndexFunc_image_Fix_image_Fix_may_2 s.1 s.2.1.1⟩
theorem slices_IndexFunc_image_Fix_image_Fix_may_2_ok : Holds Tryz.prog ct_slices_IndexFunc_image_Fix_image_Fix_may_2 := Holds.mk' (N := 19) (sc := sNN (.seq (sNN (.jn ⟨[], [], []⟩ (.blk (.lp ⟨[0, 1, 7], [], [.sl 8 false (.i .i64)]⟩ (sNN (.seq (.cond .skip .exit) (.seq (.blk (sNN (.seq (.reg (.h 5 (.cl 0 false) .nil)) (.cond (sNN .ret) .skip)))) rNN))))))) (sNN .ret)))
 (cts := [ct_image_may_2]) tbOk mixed ⟨image_may_2_ok, trivial⟩ Tryz.func120 rfl Tryz.ntmps120 (by kernel_rfl) (by kernel_rfl) (by kernel_rfl)
def ct_slices_ContainsFunc_image_Fix_image_Fix_may_2 : Ct := ⟨70, [.v false (.sl none c105), .fn 71 [(47, false, c46)]], [.val false .b], fun s => slices_ContainsFunc_image_Fix_image_Fix_may_2 s.1 s.2.1.1⟩
theorem slices_ContainsFunc_image_Fix_image_Fix_may_2_ok : Holds Tryz.prog ct_slices_ContainsFunc_image_Fix_image_Fix_may_2 := Holds.mk' (N := 9) (sc := sNN (.seq (.reg (.h 2 (.cl 0 false) .nil)) .ret))
 (cts := [ct_slices_IndexFunc_image_Fix_image_Fix_may_2]) tbOk mixed ⟨slices_IndexFunc_image_Fix_image_Fix_may_2_ok, trivial⟩ Tryz.func70 rfl Tryz.ntmps70 (by kernel_rfl) (by kernel_rfl) (by kernel_rfl)
def ct_image_may : Ct := ⟨26, [.v true c46], [.val false (.i .i64)], fun s => image_may s.1⟩
theorem image_may_ok : Holds Tryz.prog ct_image_may := Holds.mk' (N := 48) (sc := sNN (.seq (.jn ⟨[1], [], [.sl 3 false .b]⟩ (.reg (.h 2 (.cl 0 false) (.sp 4 .nil (.h 7 (.cl 1 true) .nil))))) (.seq (.blk (.seq (.jn ⟨[1], [], [.sl 13 false .b]⟩ (.reg (.sp 4 (.sp 9 .nil .nil) .nil))) (.cond (sNN .ret) (.seq (.jn ⟨[], [], [.sl 25 false .b]⟩ (.reg (.sp 4 .nil (.sp 9 .nil .nil)))) (.cond (sNN .ret) .skip))))) (sNN .ret))))
 (cts := [ct_slices_ContainsFunc_image_Def_image_Def_may_1, ct_slices_ContainsFunc_image_Fix_image_Fix_may_2]) tbOk mixed ⟨slices_ContainsFunc_image_Def_image_Def_may_1_ok, slices_ContainsFunc_image_Fix_image_Fix_may_2_ok, trivial⟩ Tryz.func26 rfl Tryz.ntmps26 (by kernel_rfl) (by kernel_rfl) (by kernel_rfl)
def ct_strings_Contains : Ct := ⟨72, [.v false .s, .v false .s], [.val false .b], fun s => strings_Contains s.1 s.2.1⟩
theorem strings_Contains_ow {w : World} {F : SH} {s sub : List UInt8} (hs : Sep w F (blks []) w F []) {r : Bool} (hS : strings_Contains s sub = some r) :
    Calls Tryz.prog 72 [strV s, strV sub].toArray w (Gives (fun u w' => ∃ (F' : SH), u = .bool r /\ Sep w F (blks []) w' F' [])) := by
 unfold strings_Contains at hS
 split at hS
 · rename_i c
   have hr := Option.some.inj hS; subst hr
   refine (Tryz.strings_Contains_one ⟨s.toArray⟩ c w).mono ?_
   rintro e w' ⟨rfl, rfl⟩
   exact ⟨_, rfl, F, by rw [<- hasB_eq], hs⟩
 · cases hS
theorem strings_Contains_ok : Holds Tryz.prog ct_strings_Contains := Holds.ssB ⟨_, Tryz.func72, by kernel_rfl, by kernel_rfl⟩ (fun hs _ hS => strings_Contains_ow hs hS)
def ct_names_Build : Ct := ⟨27, [.v false (.sl none .s)], [.val false (.sl (some 5) (.i .u8)), .val false (.sl (some 24) (.i .u64)), .val false (.i .i64)], fun s => names_Build s.1⟩
theorem names_Build_ok : Holds Tryz.prog ct_names_Build := Holds.mk' (N := 61) (sc := sNN (sNN (sNN (sNN (.seq (sNN (.jn ⟨[0, 5, 6, 7], [], []⟩ (.blk (.lp ⟨[0, 5, 6, 7, 17, 18], [], [.sl 19 false (.i .i64)]⟩ (sNN (.seq (.cond .skip .exit) (.seq (.blk (.seq (.reg (.h 2 (.nm [22]) .nil)) (.seq (.reg (.h 1 (.cl 0 false) .nil)) (.cond (sNN .ret) .skip)))) rNN))))))) (.seq (sNN (.jn ⟨[], [], [.sl 5 false (.sl (some 5) (.i .u8)), .sl 7 false (.sl (some 24) (.i .u64))]⟩ (.blk (.lp ⟨[6, 26, 27], [], [.sl 5 false (.sl (some 5) (.i .u8)), .sl 7 false (.sl (some 24) (.i .u64)), .sl 28 false (.i .i64), .mp (.at_ 6 []) .s (.i .u64)]⟩ (sNN (.seq (.cond .skip .exit) (.seq (.blk (.seq (.reg (.h 2 (.nm [31]) .nil)) (.seq (.reg (.h 6 (.nm [36]) (.h 7 (.nm [37]) .nil))) (.seq (sNN (.jn ⟨[6, 7, 26, 27, 28], [], [.sl 5 false (.sl (some 5) (.i .u8)), .sl 12 false (.i .u64), .mp (.at_ 6 []) .s (.i .u64)]⟩ (.cond (.seq (.reg (.h 3 (.nm [42]) .nil)) (sNN rNN)) .skip))) (.seq (sNN (.cond (sNN .ret) .skip)) rNN))))) rNN))))))) (sNN .ret)))))))
 (cts := [ct_strings_Contains]) tbOk mixed ⟨strings_Contains_ok, trivial⟩ Tryz.func27 rfl Tryz.ntmps27 (by kernel_rfl) (by kernel_rfl) (by kernel_rfl)
def ct_octets_width : Ct := ⟨137, [.v false (.i .i64)], [.val false .b], fun s => octets_width s.1⟩
theorem octets_width_ok : Holds Tryz.prog ct_octets_width := Holds.mk' (N := 17) (sc := sNN (.seq (.jn ⟨[], [], [.sl 2 false .b]⟩ (.reg (.sp 3 .nil (.sp 7 .nil (.sp 11 .nil .nil))))) .ret))
 (cts := []) tbOk mixed trivial Tryz.func137 rfl Tryz.ntmps137 (by kernel_rfl) (by kernel_rfl) (by kernel_rfl)
def ct_octets_has : Ct := ⟨97, [.v false (.i .i64), .v false (.i .u64), .v false (.i .u64)], [.val false .b], fun s => octets_has s.1 s.2.1 s.2.2.1⟩
theorem octets_has_ok : Holds Tryz.prog ct_octets_has := Holds.mk' (N := 20) (sc := sNN (.seq (.reg (.h 2 (.nm [9]) .nil)) (.seq (.jn ⟨[], [], [.sl 6 false .b]⟩ (.reg (.sp 4 .nil .nil))) .ret)))
 (cts := []) tbOk mixed trivial Tryz.func97 rfl Tryz.ntmps97 (by kernel_rfl) (by kernel_rfl) (by kernel_rfl)
def ct_octets_fits : Ct := ⟨122, [.v false (.sl none (.i .u8)), .v false (.i .u64), .v false (.i .i64)], [.val false (.i .i64)], fun s => octets_fits s.1 s.2.1 s.2.2.1⟩
theorem octets_fits_ok : Holds Tryz.prog ct_octets_fits := Holds.mk' (N := 19) (sc := sNN (.seq (.blk (.seq (.reg (.h 1 (.cl 0 false) .nil)) (.cond (sNN .ret) (.seq (.reg (.h 5 (.cl 1 false) .nil)) (.cond (sNN .ret) .skip))))) (sNN .ret)))
 (cts := [ct_octets_width, ct_octets_has]) tbOk mixed ⟨octets_width_ok, octets_has_ok, trivial⟩ Tryz.func122 rfl Tryz.ntmps122 (by kernel_rfl) (by kernel_rfl) (by kernel_rfl)
def ct_slices_Clone_byte_byte : Ct := ⟨16, [.v false (.sl none (.i .u8))], [.val false (.sl (some 5) (.i .u8))], fun s => slices_Clone_byte_byte s.1⟩
theorem slices_Clone_byte_byte_ow {w : World} {F : SH} {s : List Int} {ao : Option Addr} {cp : Nat} (hs : Sep w F (blks [.ro (tI .u8) (.slice ao s.length cp) s]) w F [.ro (tI .u8) (.slice ao s.length cp) s]) {r : List Int} (hS : slices_Clone_byte_byte s = some r) :
    Calls Tryz.prog 16 [.slice ao s.length cp].toArray w (Gives (fun u w' => ∃ (ao1 : Option Addr) (cp1 : Nat) (F' : SH), u = .slice ao1 r.length cp1 /\ Sep w F (blks [.ro (tI .u8) (.slice ao s.length cp) s]) w' F' [.row 5 (tI .u8) (.slice ao1 r.length cp1) r])) := by
 generalize blks [.ro (tI .u8) (.slice ao s.length cp) s] = R at hs ⊢
 unfold slices_Clone_byte_byte at hS
 obtain ⟨hc1, hS⟩ := of_gd hS
 have hr := Option.some.inj hS; subst hr
 refine fn_ok (vs := [.slice ao s.length cp]) Tryz.func16 rfl 8 Tryz.ntmps16 (Nat.le_of_ble_eq_true rfl) ?_
 intro a hf
 replace hf := Fr.cast (L' := [(0, .slice ao s.length cp)]) hf (by kernel_rfl)
 refine sq ?_
 refine reg ?_
 refine st tbOk 1 [0] (L' := [(0, .slice ao s.length cp)]) hf (by kernel_rfl) ?_
 clear hf; clear a; intro a hf
 refine wpList_nil ?_
 refine sq ?_
 refine sq ?_
 refine reg ?_
 refine st tbOk 1 [0, 3] (L' := [(0, .slice ao s.length cp), (3, .slice ao s.length cp)]) hf (by kernel_rfl) ?_
 clear hf; clear a; intro a hf
 refine eqnil tbOk u22 (ao := ao) (n := s.length) (c := cp) hf (by kernel_rfl) (by kernel_rfl) (by kernel_rfl) ?_
 clear hf; clear a; intro a hf
 refine wpList_nil ?_
 refine cnd (b := ao.isNone) hf (by kernel_rfl) (fun hb => ?_) (fun hb => ?_)
 · have hao : ao = none := by simpa using hb
   subst hao
   have hnil := (hs.ro 0 rfl).none_nil (Nat.le_of_ble_eq_true rfl)
   subst hnil
   refine sq ?_
   refine reg ?_
   refine st tbOk 1 [2] (L' := [(2, .slice none 0 0)]) hf (by kernel_rfl) ?_
   clear hf; clear a; intro a hf
   refine wpList_nil ?_
   refine wp_ret ?_
   replace hs := hs.addNil 5 (tI .u8)
   exact ret_ok hf (vs := [.slice none 0 0]) (by kernel_rfl) ⟨none, 0, _, rfl, hs.sel [0] rfl rfl⟩
 · refine wp_skip ?_
   refine sq ?_
   refine reg ?_
   refine bsR tbOk u22 i5 rfl (t := (tI .u8)) (vs := []) (cells := #[]) ([] : List Int) hs.le hf (by kernel_rfl) (by kernel_rfl) (by kernel_rfl) rfl (by kernel_rfl) rfl rfl ?_
   clear hf; clear a; intro w1 a ho hx hf
   replace hs := hs.newRow ho hx
   clear ho hx
   refine st tbOk 1 [5, 6] (L' := [(5, .slice (some ⟨w.heap.size, 0, none⟩) ([] : List Int).length ([] : List Int).length), (6, .slice ao s.length cp)]) hf (by kernel_rfl) ?_
   clear hf; clear a; intro a hf
   refine apR tbOk u22 i5 rfl rfl rfl rfl hs.le (hs.own 0 rfl) (hs.raR 1 rfl) (by simpa using hc1) hf (by kernel_rfl) (by kernel_rfl) (by kernel_rfl) (by kernel_rfl) ?_
   clear hf; clear a; intro ao2 cp2 w2 a ho hg hl hf
   replace hs := hs.updRow 0 rfl ho hg hl
   clear ho hg hl
   refine st tbOk 1 [2] (L' := [(2, .slice ao2 s.length cp2)]) hf (by kernel_rfl) ?_
   clear hf; clear a; intro a hf
   refine wpList_nil ?_
   refine wp_ret ?_
   exact ret_ok hf (vs := [.slice ao2 s.length cp2]) (by kernel_rfl) ⟨ao2, cp2, _, rfl, hs.sel [0] rfl rfl⟩
theorem slices_Clone_byte_byte_ok : Holds Tryz.prog ct_slices_Clone_byte_byte := Holds.slSl (c := .i .u8) ⟨_, Tryz.func16, by kernel_rfl, by kernel_rfl⟩ (fun hs _ hS => slices_Clone_byte_byte_ow hs hS)
def ct_octets_Set : Ct := ⟨74, [.v false (.sl none (.i .u8)), .v false (.i .u64), .v false (.i .i64), .v false (.i .u64)], [.val false (.sl (some 5) (.i .u8)), .val false (.i .i64)], fun s => octets_Set s.1 s.2.1 s.2.2.1 s.2.2.2.1⟩
theorem octets_Set_ok : Holds Tryz.prog ct_octets_Set := Holds.mk' (N := 40) (sc := sNN (.seq (.seq (.reg (.h 3 (.cl 0 false) .nil)) (sNN (.cond (sNN .ret) .skip))) (.seq (.reg (.h 1 (.cl 1 false) .nil)) (.seq (sNN (.jn ⟨[11], [], [.rw (.at_ 11 []) 5 (.i .u8)]⟩ (.blk (.lp ⟨[1, 3, 11, 22], [], [.sl 23 false (.i .i64), .rw (.at_ 11 []) 5 (.i .u8)]⟩ (sNN (.seq (.cond .skip .exit) (.seq (.blk (sNN (.reg (.h 9 (.bn) .nil)))) rNN))))))) (sNN .ret)))))
 (cts := [ct_octets_fits, ct_slices_Clone_byte_byte]) tbOk mixed ⟨octets_fits_ok, slices_Clone_byte_byte_ok, trivial⟩ Tryz.func74 rfl Tryz.ntmps74 (by kernel_rfl) (by kernel_rfl) (by kernel_rfl)
def ct_dynamic_Put_1 : Ct := ⟨73, [.v false (.i .u64), .v false (.i .u64), .p (22, true, .sl (some 5) (.i .u8))], [.ob 0 22 (.sl (some 5) (.i .u8))], fun s => dynamic_Put_1 s.1 s.2.1 s.2.2.1⟩
theorem dynamic_Put_1_ok : Holds Tryz.prog ct_dynamic_Put_1 := Holds.mk' (N := 27) (sc := sNN (.jn ⟨[], [0], [.bx (.at_ 2 []) 22 (.sl (some 5) (.i .u8))]⟩ (.blk (.lp ⟨[2, 11, 12], [0], [.sl 13 false (.i .i64), .bx (.at_ 2 []) 22 (.sl (some 5) (.i .u8))]⟩ (sNN (.seq (.cond .skip .exit) (.seq (.blk (.seq (.reg (.h 2 (.nm [16]) .nil)) (.seq (.reg (.h 2 (.cl 0 true) .nil)) rNN))) rNN)))))))
 (cts := [ct_octets_Set]) tbOk mixed ⟨octets_Set_ok, trivial⟩ Tryz.func73 rfl Tryz.ntmps73 (by kernel_rfl) (by kernel_rfl) (by kernel_rfl)
def ct_dynamic_Put : Ct := ⟨28, [.v true c67], [.val false (.sl (some 5) (.i .u8))], fun s => dynamic_Put s.1⟩
theorem dynamic_Put_ok : Holds Tryz.prog ct_dynamic_Put := Holds.mk' (N := 59) (sc := sNN (sNN (sNN (.seq (sNN (.jn ⟨[1, 3, 4], [], [.bx (.at_ 3 []) 22 (.sl (some 5) (.i .u8))]⟩ (.blk (.lp ⟨[1, 3, 4, 9, 10], [], [.sl 11 false (.i .i64), .bx (.at_ 3 []) 22 (.sl (some 5) (.i .u8))]⟩ (sNN (.seq (.cond .skip .exit) (.seq (.blk (.seq (.reg (.h 2 (.nm [14]) .nil)) (.reg (.h 2 (.cl 0 false) .nil)))) rNN))))))) (.seq (sNN (.jn ⟨[1, 3, 4], [], [.bx (.at_ 3 []) 22 (.sl (some 5) (.i .u8))]⟩ (.cond (.reg (.h 3 (.cl 0 false) .nil)) .skip))) (.seq (.reg (.h 3 (.cl 0 false) .nil)) (.seq (.reg (.h 3 (.cl 0 false) .nil)) (.seq (sNN (.jn ⟨[1, 3, 4], [], [.bx (.at_ 3 []) 22 (.sl (some 5) (.i .u8))]⟩ (.cond (.seq (.reg (.h 3 (.cl 0 false) .nil)) (.reg (.h 3 (.cl 0 false) .nil))) .skip))) (.seq (sNN (.jn ⟨[3, 4], [], [.bx (.at_ 3 []) 22 (.sl (some 5) (.i .u8))]⟩ (.cond (.seq (.reg (.h 3 (.cl 0 false) .nil)) (.reg (.h 3 (.cl 0 false) .nil))) .skip))) (.seq (.reg (.h 1 (.cl 0 false) .nil)) (sNN .ret)))))))))))
 (cts := [ct_dynamic_Put_1]) tbOk mixed ⟨dynamic_Put_1_ok, trivial⟩ Tryz.func28 rfl Tryz.ntmps28 (by kernel_rfl) (by kernel_rfl) (by kernel_rfl)
def ct_image_hasData : Ct := ⟨75, [.v true c46], [.val false .b], fun s => image_hasData s.1⟩
theorem image_hasData_ok : Holds Tryz.prog ct_image_hasData := Holds.mk' (N := 18) (sc := sNN (.seq (.jn ⟨[], [], [.sl 2 false .b]⟩ (.reg (.sp 5 .nil (.sp 11 .nil .nil)))) .ret))
 (cts := []) tbOk mixed trivial Tryz.func75 rfl Tryz.ntmps75 (by kernel_rfl) (by kernel_rfl) (by kernel_rfl)
def ct_image_hasTls : Ct := ⟨76, [.v true c46], [.val false .b], fun s => image_hasTls s.1⟩
theorem image_hasTls_ok : Holds Tryz.prog ct_image_hasTls := Holds.mk' (N := 12) (sc := sNN (.seq (.jn ⟨[], [], [.sl 2 false .b]⟩ (.reg (.sp 5 .nil .nil))) .ret))
 (cts := []) tbOk mixed trivial Tryz.func76 rfl Tryz.ntmps76 (by kernel_rfl) (by kernel_rfl) (by kernel_rfl)
def ct_image_plan_segments : Ct := ⟨29, [.v true c88, .v true c46, .v false (.i .u64)], [.val false (.sl (some 62) c61)], fun s => image_plan_segments s.1 s.2.1 s.2.2.1⟩
theorem image_plan_segments_ok : Holds Tryz.prog ct_image_plan_segments := Holds.mk' (N := 103) (sc := sNN (sNN (.seq (.seq (.reg (.h 4 (.nm [22]) .nil)) (sNN (.jn ⟨[2, 3, 4], [], [.sl 7 false (.sl (some 62) c61)]⟩ (.cond rNN .skip)))) (.seq (.seq (.reg (.h 1 (.cl 0 false) .nil)) (.jn ⟨[2, 3, 4], [], [.sl 7 false (.sl (some 62) c61)]⟩ (.cond (.seq (.reg (.h 10 (.nm [46]) .nil)) (.seq (sNN (.jn ⟨[2, 3, 4, 7], [], [.sl 9 false (.i .u64)]⟩ (.cond (.reg (.h 4 (.nm [54]) .nil)) .skip))) (sNN (.seq (sNN (.jn ⟨[2, 3, 4, 7, 9], [], [.sl 10 false (.i .u64)]⟩ (.cond rNN .skip))) rNN)))) .skip))) (sNN (.seq (.seq (.reg (.h 1 (.cl 1 false) .nil)) (.jn ⟨[], [], [.sl 7 false (.sl (some 62) c61)]⟩ (.cond (.seq (.drw 8 [oNN, .op [0] [0] [], .op [0, 1] [] [], .op [2] [] [], oNN, .op [4] [] [], .op [3] [] [], .op [5] [] []] (.h 6 (.nm [86]) .nil)) (.seq (sNN (.jn ⟨[4, 7, 11], [], [.sl 12 false (.i .u64)]⟩ (.cond rNN .skip))) rNN)) .skip))) (sNN .ret)))))))
 (cts := [ct_image_hasData, ct_image_hasTls]) tbOk mixed ⟨image_hasData_ok, image_hasTls_ok, trivial⟩ Tryz.func29 rfl Tryz.ntmps29 (by kernel_rfl) (by kernel_rfl) (by kernel_rfl)
def ct_octets_Down : Ct := ⟨123, [.v false (.i .u64), .v false (.i .u64)], [.val false (.i .u64), .val false (.i .i64)], fun s => octets_Down s.1 s.2.1⟩
theorem octets_Down_ok : Holds Tryz.prog ct_octets_Down := Holds.mk' (N := 19) (sc := sNN (.seq (.seq (.jn ⟨[0, 1], [], [.sl 14 false .b]⟩ (.reg (.sp 3 .nil .nil))) (.cond (sNN .ret) .skip)) (sNN .ret)))
 (cts := []) tbOk mixed trivial Tryz.func123 rfl Tryz.ntmps123 (by kernel_rfl) (by kernel_rfl) (by kernel_rfl)
def ct_octets_Up : Ct := ⟨77, [.v false (.i .u64), .v false (.i .u64)], [.val false (.i .u64), .val false (.i .i64)], fun s => octets_Up s.1 s.2.1⟩
theorem octets_Up_ok : Holds Tryz.prog ct_octets_Up := Holds.mk' (N := 32) (sc := sNN (.seq (.reg (.h 2 (.cl 0 false) .nil)) (.seq (.blk (.seq (.jn ⟨[1, 6, 7], [], [.sl 14 false .b]⟩ (.reg (.sp 3 .nil .nil))) (.cond (sNN .ret) (sNN (.cond (sNN .ret) .skip))))) (sNN .ret))))
 (cts := [ct_octets_Down]) tbOk mixed ⟨octets_Down_ok, trivial⟩ Tryz.func77 rfl Tryz.ntmps77 (by kernel_rfl) (by kernel_rfl) (by kernel_rfl)
def ct_image_up : Ct := ⟨30, [.v false (.i .u64), .v false (.i .u64)], [.val false (.i .u64)], fun s => image_up s.1 s.2.1⟩
theorem image_up_ok : Holds Tryz.prog ct_image_up := Holds.mk' (N := 14) (sc := sNN (.seq (.reg (.h 2 (.cl 0 false) .nil)) (sNN .ret)))
 (cts := [ct_octets_Up]) tbOk mixed ⟨octets_Up_ok, trivial⟩ Tryz.func30 rfl Tryz.ntmps30 (by kernel_rfl) (by kernel_rfl) (by kernel_rfl)
def ct_head_row : Ct := ⟨78, [.v false (.sl none c149)], [.val false (.sl (some 5) (.i .u8))], fun s => head_row s.1⟩
theorem head_row_ok : Holds Tryz.prog ct_head_row := Holds.mk' (N := 30) (sc := sNN (sNN (.seq (sNN (.jn ⟨[], [], [.sl 3 false (.sl (some 5) (.i .u8))]⟩ (.blk (.lp ⟨[8, 9], [], [.sl 3 false (.sl (some 5) (.i .u8)), .sl 10 false (.i .i64)]⟩ (sNN (.seq (.cond .skip .exit) (.seq (.blk (sNN (.seq (.drw 13 [oNN, .op [0] [] [], .op [1] [1] [], oNN, .op [3] [] [], oNN, .op [5] [] [], .op [1, 2, 4, 6] [1, 2, 4, 6] [], .op [1, 2, 4, 6, 7] [1, 2, 4, 6, 7] [], .op [1, 2, 4, 6, 7, 8] [1, 2, 4, 6, 7, 8] [], .op [1, 2, 4, 6, 7, 8] [] [], .op [1, 2, 4, 6, 7, 8, 9] [1, 2, 4, 6, 7, 8, 9] [], .op [10] [] []] (.h 7 (.cl 0 true) .nil)) rNN))) rNN))))))) (sNN .ret))))
 (cts := [ct_octets_Set]) tbOk mixed ⟨octets_Set_ok, trivial⟩ Tryz.func78 rfl Tryz.ntmps78 (by kernel_rfl) (by kernel_rfl) (by kernel_rfl)
def ct_head_Put : Ct := ⟨31, [.v true c25], [.val false (.sl (some 5) (.i .u8)), .val false (.i .i64)], fun s => head_Put s.1⟩
theorem head_Put_ok : Holds Tryz.prog ct_head_Put := Holds.mk' (N := 52) (sc := sNN (.seq (.seq (.jn ⟨[1], [], [.sl 22 false .b]⟩ (.reg (.sp 4 .nil (.sp 9 .nil (.sp 14 .nil .nil))))) (.cond (sNN .ret) .skip)) (sNN (.seq (.reg (.h 25 (.cl 0 true) .nil)) .ret))))
 (cts := [ct_head_row]) tbOk mixed ⟨head_row_ok, trivial⟩ Tryz.func31 rfl Tryz.ntmps31 (by kernel_rfl) (by kernel_rfl) (by kernel_rfl)
def ct_segs_Put : Ct := ⟨32, [.v true c61], [.val false (.sl (some 5) (.i .u8))], fun s => segs_Put s.1⟩
theorem segs_Put_ok : Holds Tryz.prog ct_segs_Put := Holds.mk' (N := 45) (sc := sNN (sNN (.seq (sNN (.jn ⟨[], [], [.sl 3 false (.sl (some 5) (.i .u8))]⟩ (.blk (.lp ⟨[28, 29], [], [.sl 3 false (.sl (some 5) (.i .u8)), .sl 30 false (.i .i64)]⟩ (sNN (.seq (.cond .skip .exit) (.seq (.blk (.seq (.reg (.h 2 (.nm [33]) .nil)) (.seq (.reg (.h 2 (.cl 0 true) .nil)) rNN))) rNN))))))) (sNN .ret))))
 (cts := [ct_octets_Set]) tbOk mixed ⟨octets_Set_ok, trivial⟩ Tryz.func32 rfl Tryz.ntmps32 (by kernel_rfl) (by kernel_rfl) (by kernel_rfl)
def ct_symbols_Put_1 : Ct := ⟨124, [.v false (.i .u64), .v false (.i .i64), .p (22, true, .sl (some 5) (.i .u8))], [.ob 0 22 (.sl (some 5) (.i .u8))], fun s => symbols_Put_1 s.1 s.2.1 s.2.2.1⟩
theorem symbols_Put_1_ok : Holds Tryz.prog ct_symbols_Put_1 := Holds.mk' (N := 18) (sc := .seq (.reg (.h 4 (.cl 0 true) .nil)) rNN)
 (cts := [ct_octets_Set]) tbOk mixed ⟨octets_Set_ok, trivial⟩ Tryz.func124 rfl Tryz.ntmps124 (by kernel_rfl) (by kernel_rfl) (by kernel_rfl)
def ct_symbols_Put : Ct := ⟨79, [.v true c77], [.val false (.sl (some 5) (.i .u8))], fun s => symbols_Put s.1⟩
theorem symbols_Put_ok : Holds Tryz.prog ct_symbols_Put := Holds.mk' (N := 35) (sc := sNN (sNN (sNN (.seq (.reg (.h 4 (.cl 0 false) .nil)) (.seq (.reg (.h 4 (.cl 0 false) .nil)) (.seq (.reg (.h 4 (.cl 0 false) .nil)) (.seq (.reg (.h 4 (.cl 0 false) .nil)) (.seq (.reg (.h 3 (.cl 0 false) .nil)) (.seq (.reg (.h 3 (.cl 0 false) .nil)) (sNN .ret))))))))))
 (cts := [ct_symbols_Put_1]) tbOk mixed ⟨symbols_Put_1_ok, trivial⟩ Tryz.func79 rfl Tryz.ntmps79 (by kernel_rfl) (by kernel_rfl) (by kernel_rfl)
def ct_image_plan_place : Ct := ⟨80, [.v true c88, .v false (.i .i64)], [.val false (.i .u64)], fun s => image_plan_place s.1 s.2.1⟩
theorem image_plan_place_ok : Holds Tryz.prog ct_image_plan_place := Holds.mk' (N := 14) (sc := sNN (.seq (sNN (.blk (sNN (.cond (sNN .ret) (sNN (.cond (sNN .ret) .skip)))))) (sNN .ret)))
 (cts := []) tbOk mixed trivial Tryz.func80 rfl Tryz.ntmps80 (by kernel_rfl) (by kernel_rfl) (by kernel_rfl)
def ct_image_kind : Ct := ⟨81, [.v false (.i .i64)], [.val false (.i .u8)], fun s => image_kind s.1⟩
theorem image_kind_ok : Holds Tryz.prog ct_image_kind := Holds.mk' (N := 6) (sc := sNN (sNN .ret))
 (cts := []) tbOk mixed trivial Tryz.func81 rfl Tryz.ntmps81 (by kernel_rfl) (by kernel_rfl) (by kernel_rfl)
def ct_image_plan_entries : Ct := ⟨34, [.v true c88, .v true c46, .v false (.sl none (.i .u64))], [.val false (.sl (some 5) (.i .u8))], fun s => image_plan_entries s.1 s.2.1 s.2.2.1⟩
theorem image_plan_entries_ok : Holds Tryz.prog ct_image_plan_entries := Holds.mk' (N := 61) (sc := sNN (sNN (.seq (sNN (.cond (sNN .ret) .skip)) (.seq (.reg (.h 2 (.cl 0 false) .nil)) (.seq (sNN (.jn ⟨[], [], [.sl 7 false (.sl (some 5) (.i .u8))]⟩ (.blk (.lp ⟨[2, 3, 20, 21], [], [.sl 7 false (.sl (some 5) (.i .u8)), .sl 22 false (.i .i64)]⟩ (sNN (.seq (.cond .skip .exit) (.seq (.blk (sNN (.seq (.drw 14 [oNN, oNN, .op [0, 1] [0, 1] [], .op [0, 1, 2] [] [], .op [3] [] [], oNN, oNN, .op [6] [] [], .op [5, 7] [] [], oNN, .op [9] [] [], .op [8, 10] [] [], .op [4, 11] [4, 11] [], oNN, .sk] (.h 8 (.cl 1 true) .nil)) (.seq (sNN (.jn ⟨[2, 3, 7, 9, 10, 20, 21, 22], [], [.bx (.at_ 10 []) 78 c77]⟩ (.cond rNN .skip))) (.seq (.drw 7 [oNN, .op [0] [] [], oNN, .op [2] [] [], .op [3] [] [], .op [1, 4] [] [], oNN, .sk] (.h 4 (.cl 2 true) .nil)) (.seq (sNN (.jn ⟨[2, 3, 7, 10, 20, 21, 22], [], [.bx (.at_ 10 []) 78 c77]⟩ (.cond rNN .skip))) (.reg (.h 2 (.cl 0 false) .nil)))))))) rNN))))))) (sNN .ret))))))
 (cts := [ct_symbols_Put, ct_image_plan_place, ct_image_kind]) tbOk mixed ⟨symbols_Put_ok, image_plan_place_ok, image_kind_ok, trivial⟩ Tryz.func34 rfl Tryz.ntmps34 (by kernel_rfl) (by kernel_rfl) (by kernel_rfl)
def ct_image_Build_1 : Ct := ⟨33, [.v false (.i .u64), .v false (.sl none (.i .u8)), .p (22, true, .sl (some 5) (.i .u8))], [.ob 1 22 (.sl (some 5) (.i .u8))], fun s => image_Build_1 s.1 s.2.1 s.2.2.1⟩
theorem image_Build_1_ok : Holds Tryz.prog ct_image_Build_1 := Holds.mk' (N := 18) (sc := sNN (.jn ⟨[], [1], [.bx (.at_ 2 []) 22 (.sl (some 5) (.i .u8))]⟩ (.cond (sNN rNN) .skip)))
 (cts := []) tbOk mixed trivial Tryz.func33 rfl Tryz.ntmps33 (by kernel_rfl) (by kernel_rfl) (by kernel_rfl)
def ct_rela_Put : Ct := ⟨82, [.v true c79], [.val false (.sl (some 5) (.i .u8))], fun s => rela_Put s.1⟩
theorem rela_Put_ok : Holds Tryz.prog ct_rela_Put := Holds.mk' (N := 36) (sc := sNN (sNN (.seq (sNN (.jn ⟨[], [], [.sl 3 false (.sl (some 5) (.i .u8))]⟩ (.blk (.lp ⟨[21], [], [.sl 3 false (.sl (some 5) (.i .u8)), .sl 22 false (.i .i64)]⟩ (sNN (.seq (.cond .skip .exit) (.seq (.blk (.seq (.reg (.h 1 (.nm [24]) .nil)) (.seq (.reg (.h 2 (.cl 0 true) .nil)) rNN))) rNN))))))) (sNN .ret))))
 (cts := [ct_octets_Set]) tbOk mixed ⟨octets_Set_ok, trivial⟩ Tryz.func82 rfl Tryz.ntmps82 (by kernel_rfl) (by kernel_rfl) (by kernel_rfl)
def ct_image_plan_fixes : Ct := ⟨35, [.v true c88, .v true c46], [.val false (.sl (some 5) (.i .u8))], fun s => image_plan_fixes s.1 s.2.1⟩
theorem image_plan_fixes_ok : Holds Tryz.prog ct_image_plan_fixes := Holds.mk' (N := 37) (sc := sNN (sNN (.seq (sNN (.jn ⟨[], [], [.sl 5 false (.sl (some 5) (.i .u8))]⟩ (.blk (.lp ⟨[2, 9, 10], [], [.sl 5 false (.sl (some 5) (.i .u8)), .sl 11 false (.i .i64)]⟩ (sNN (.seq (.cond .skip .exit) (.seq (.blk (sNN (.drw 19 [oNN, oNN, oNN, .op [2] [] [], .op [1, 3] [] [], oNN, .op [5] [] [], .op [4, 6] [] [], oNN, .op [8] [] [], oNN, .op [10] [] [], .op [11] [] [], .op [12] [] [], .op [13] [] [], oNN, .op [15] [] [], .op [7, 9, 14, 16] [7, 9, 14, 16] [], .op [7, 9, 14, 16, 17] [7, 9, 14, 16, 17] [], .sk, .sk] (.h 4 (.cl 0 true) (.h 18 (.cl 1 true) .nil))))) rNN))))))) (sNN .ret))))
 (cts := [ct_image_plan_place, ct_rela_Put]) tbOk mixed ⟨image_plan_place_ok, rela_Put_ok, trivial⟩ Tryz.func35 rfl Tryz.ntmps35 (by kernel_rfl) (by kernel_rfl) (by kernel_rfl)
def ct_image_Build : Ct := ⟨13, [.v true c46], [.val false (.sl (some 5) (.i .u8)), .val false (.i .i64)], fun s => image_Build s.1⟩
theorem image_Build_ok : Holds Tryz.prog ct_image_Build := Holds.mk' (N := 241) (sc := sNN (.seq (.seq (.reg (.h 1 (.cl 0 false) .nil)) (sNN (.cond (sNN .ret) .skip))) (sNN (.seq (sNN (.jn ⟨[1], [], [.sl 5 false (.sl (some 9) .s)]⟩ (.blk (.lp ⟨[1, 33, 34], [], [.sl 5 false (.sl (some 9) .s), .sl 35 false (.i .i64)]⟩ (sNN (.seq (.cond .skip .exit) (.seq (.blk (sNN rNN)) rNN))))))) (.seq (.reg (.h 1 (.cl 1 true) .nil)) (.seq (sNN (.cond (sNN .ret) .skip)) (.seq (.fz [.at_ 9 []] (.drw 19 [oNN, oNN, .op [1] [1] [], .op [1, 2] [] [], .op [3] [] [], .op [0, 4] [0, 4] [], oNN, .op [6] [6] [], .op [6, 7] [] [], oNN, .op [9] [] [], .op [10] [] [], oNN, .op [12] [12] [], .op [12, 13] [] [], .op [14] [] [], .op [15] [] [], .op [0, 4, 5, 8, 11, 16] [0, 4, 5, 8, 11, 16] [], oNN, .sk] .nil)) (.seq (sNN (.jn ⟨[1, 8, 9, 11], [], [.bx (.at_ 11 []) 68 c67]⟩ (.cond rNN .skip))) (.seq (.reg (.h 1 (.cl 2 false) (.h 4 (.nm [85]) .nil))) (sNN (.seq (.reg (.h 2 (.cl 3 false) (.h 5 (.nm [90]) .nil))) (sNN (sNN (.seq (.reg (.h 5 (.cl 4 false) .nil)) (sNN (sNN (.seq (.reg (.h 2 (.cl 4 false) .nil)) (.seq (.reg (.h 7 (.cl 4 false) .nil)) (.seq (.reg (.h 7 (.cl 4 false) .nil)) (.seq (.wr (.at_ 11 [])) (sNN (.seq (sNN (.jn ⟨[1, 8, 9, 11, 12, 13, 14], [], [.sl 15 false (.i .u64)]⟩ (.cond (.reg (.h 5 (.nm [159]) .nil)) .skip))) (.seq (.reg (.h 6 (.cl 5 false) .nil)) (.seq (.seq (.reg (.h 3 (.cl 3 false) .nil)) (.jn ⟨[1, 8, 9, 11, 13, 16], [], [.bx (.at_ 16 []) 22 (.sl (some 5) (.i .u8))]⟩ (.blk (.lp ⟨[1, 8, 9, 11, 13, 16, 173, 174], [], [.sl 175 false (.i .i64), .bx (.at_ 16 []) 22 (.sl (some 5) (.i .u8))]⟩ (sNN (.seq (.cond .skip .exit) (.seq (.blk (sNN (.drw 3 [oNN, oNN, .op [1] [1] [], .sk, .sk] (.h 2 (.cl 6 true) .nil)))) rNN))))))) (.seq (.drw 3 [oNN, oNN, .op [1] [1] [], .sk, .fl [] [], .sk, .sk] (.h 2 (.cl 2 true) .nil)) (sNN (sNN (.seq (.drw 12 [oNN, oNN, .op [1] [] [], oNN, oNN, oNN, oNN, .op [6] [6] [], .op [6, 7] [] [], .op [8] [] [], .op [5, 9] [5, 9] [], .op [3, 4, 5, 9, 10] [3, 4, 5, 9, 10] [], .sk] (.h 11 (.cl 7 true) (.h 1000 (.cl 8 true) .nil))) (.seq (.drw 6 [oNN, oNN, .op [1] [] [], oNN, oNN, .op [3, 4] [3, 4] [], .sk] (.h 5 (.cl 9 true) (.h 1000 (.cl 8 true) .nil))) (.seq (.reg (.h 5 (.cl 8 false) .nil)) (.seq (.reg (.h 5 (.cl 8 false) .nil)) (.seq (.reg (.h 5 (.cl 8 false) .nil)) (.seq (sNN (.cond (sNN .ret) .skip)) (sNN .ret))))))))))))))))))))))))))))))))))
 (cts := [ct_image_may, ct_names_Build, ct_dynamic_Put, ct_image_plan_segments, ct_image_up, ct_head_Put, ct_segs_Put, ct_image_plan_entries, ct_image_Build_1, ct_image_plan_fixes]) tbOk mixed ⟨image_may_ok, names_Build_ok, dynamic_Put_ok, image_plan_segments_ok, image_up_ok, head_Put_ok, segs_Put_ok, image_plan_entries_ok, image_Build_1_ok, image_plan_fixes_ok, trivial⟩ Tryz.func13 rfl Tryz.ntmps13 (by kernel_rfl) (by kernel_rfl) (by kernel_rfl)
def ct_octets_Get : Ct := ⟨90, [.v false (.sl none (.i .u8)), .v false (.i .u64), .v false (.i .i64)], [.val false (.i .u64), .val false (.i .i64)], fun s => octets_Get s.1 s.2.1 s.2.2.1⟩
theorem octets_Get_ok : Holds Tryz.prog ct_octets_Get := Holds.mk' (N := 38) (sc := sNN (.seq (.seq (.reg (.h 3 (.cl 0 false) .nil)) (sNN (.cond (sNN .ret) .skip))) (sNN (.seq (sNN (.jn ⟨[], [], [.sl 9 false (.i .u64)]⟩ (.blk (.lp ⟨[0, 1, 18], [], [.sl 9 false (.i .u64), .sl 19 false (.i .i64)]⟩ (sNN (.seq (.cond .skip .exit) (.seq (.blk (sNN (.reg (.h 12 (.bn) (.h 14 (.nm [35]) .nil))))) rNN))))))) (sNN .ret)))))
 (cts := [ct_octets_fits]) tbOk mixed ⟨octets_fits_ok, trivial⟩ Tryz.func90 rfl Tryz.ntmps90 (by kernel_rfl) (by kernel_rfl) (by kernel_rfl)
end Dm

namespace Dm
open Go Go.RowKit Go.Proofs
def ct_head_Get_1 : Ct := ⟨89, [.v false (.i .u64), .v false (.i .i64), .p (22, false, .sl none (.i .u8))], [.val false (.i .u64)], fun s => head_Get_1 s.1 s.2.1 s.2.2.1⟩
theorem head_Get_1_ok : Holds Tryz.prog ct_head_Get_1 := Holds.mk' (N := 16) (sc := sNN (.seq (.reg (.h 3 (.cl 0 false) .nil)) (sNN .ret)))
 (cts := [ct_octets_Get]) tbOk mixed ⟨octets_Get_ok, trivial⟩ Tryz.func89 rfl Tryz.ntmps89 (by kernel_rfl) (by kernel_rfl) (by kernel_rfl)
def ct_slices_Equal_byte_byte : Ct := ⟨91, [.v false (.sl none (.i .u8)), .v false (.sl none (.i .u8))], [.val false .b], fun s => slices_Equal_byte_byte s.1 s.2.1⟩
theorem slices_Equal_byte_byte_ok : Holds Tryz.prog ct_slices_Equal_byte_byte := Holds.mk' (N := 26) (sc := sNN (.seq (sNN (.cond (sNN .ret) .skip)) (.seq (sNN (.jn ⟨[], [], []⟩ (.blk (.lp ⟨[0, 1, 12], [], [.sl 13 false (.i .i64)]⟩ (sNN (.seq (.cond .skip .exit) (.seq (.blk (sNN (.seq (.drw 9 [oNN, oNN, .op [0, 1] [0, 1] [], .op [0, 1, 2] [] [], oNN, oNN, .op [4, 5] [4, 5] [], .op [4, 5, 6] [] [], .op [3, 7] [] []] .nil) (.cond (sNN .ret) .skip)))) rNN))))))) (sNN .ret))))
 (cts := []) tbOk mixed trivial Tryz.func91 rfl Tryz.ntmps91 (by kernel_rfl) (by kernel_rfl) (by kernel_rfl)
def ct_head_Get : Ct := ⟨45, [.v false (.sl none (.i .u8))], [.val true c25, .val false (.i .i64)], fun s => head_Get s.1⟩
theorem head_Get_ok : Holds Tryz.prog ct_head_Get := Holds.mk' (N := 40) (sc := sNN (.seq (sNN (.cond (sNN .ret) .skip)) (sNN (.seq (.reg (.h 1 (.cl 0 true) (.h 4 (.cl 0 true) (.h 6 (.cl 0 true) (.h 8 (.cl 0 true) .nil))))) (.seq (.seq (.reg (.h 1 (.cl 1 false) .nil)) (.seq (.jn ⟨[2, 5], [], [.sl 37 false .b]⟩ (.reg (.sp 3 .nil (.h 6 (.cl 2 true) .nil)))) (.cond (sNN .ret) .skip))) (sNN .ret))))))
 (cts := [ct_head_Get_1, ct_head_Put, ct_slices_Equal_byte_byte]) tbOk mixed ⟨head_Get_1_ok, head_Put_ok, slices_Equal_byte_byte_ok, trivial⟩ Tryz.func45 rfl Tryz.ntmps45 (by kernel_rfl) (by kernel_rfl) (by kernel_rfl)
def ct_octets_Cut : Ct := ⟨50, [.v false (.sl none (.i .u8)), .v false (.i .u64), .v false (.i .u64)], [.val false (.sl (some 5) (.i .u8)), .val false (.i .i64)], fun s => octets_Cut s.1 s.2.1 s.2.2.1⟩
theorem octets_Cut_ok : Holds Tryz.prog ct_octets_Cut := Holds.mk' (N := 21) (sc := sNN (.seq (.seq (.reg (.h 4 (.cl 0 false) .nil)) (.cond (sNN .ret) .skip)) (.seq (.reg (.h 6 (.cl 1 false) .nil)) .ret)))
 (cts := [ct_octets_has, ct_slices_Clone_byte_byte]) tbOk mixed ⟨octets_has_ok, slices_Clone_byte_byte_ok, trivial⟩ Tryz.func50 rfl Tryz.ntmps50 (by kernel_rfl) (by kernel_rfl) (by kernel_rfl)
def ct_segs_Get : Ct := ⟨92, [.v false (.sl none (.i .u8))], [.val true c61, .val false (.i .i64)], fun s => segs_Get s.1⟩
theorem segs_Get_ok : Holds Tryz.prog ct_segs_Get := Holds.mk' (N := 48) (sc := sNN (.seq (sNN (.cond (sNN .ret) .skip)) (sNN (.seq (sNN (.jn ⟨[2, 4], [], [.ar (.at_ 4 []) 188 .u64 7]⟩ (.blk (.lp ⟨[0, 2, 4], [], [.sl 10 false (.i .i64), .ar (.at_ 4 []) 188 .u64 7]⟩ (sNN (.seq (.cond .skip .exit) (.seq (.blk (sNN (.reg (.h 5 (.cl 0 false) .nil)))) rNN))))))) (.seq (sNN (.cond (sNN .ret) .skip)) (sNN .ret))))))
 (cts := [ct_octets_Get]) tbOk mixed ⟨octets_Get_ok, trivial⟩ Tryz.func92 rfl Tryz.ntmps92 (by kernel_rfl) (by kernel_rfl) (by kernel_rfl)
def ct_segs_Table : Ct := ⟨46, [.v false (.sl none (.i .u8)), .v false (.i .u64), .v false (.i .i64)], [.val false (.sl (some 62) c61), .val false (.i .i64)], fun s => segs_Table s.1 s.2.1 s.2.2.1⟩
theorem segs_Table_ok : Holds Tryz.prog ct_segs_Table := Holds.mk' (N := 53) (sc := sNN (.seq (.seq (.jn ⟨[0, 1, 2], [], [.sl 19 false .b]⟩ (.reg (.sp 3 .nil .nil))) (.cond (sNN .ret) .skip)) (.seq (.reg (.h 5 (.cl 0 false) .nil)) (.seq (sNN (.cond (sNN .ret) .skip)) (sNN (.seq (sNN (.fz [.at_ 8 []] (.jn ⟨[], [], [.sl 10 false (.sl (some 62) c61)]⟩ (.blk (.fz [.at_ 8 []] (.lp ⟨[8, 32], [], [.sl 10 false (.sl (some 62) c61), .sl 33 false (.i .i64)]⟩ (sNN (.seq (.cond .skip .exit) (.seq (.blk (sNN (.seq (.reg (.h 4 (.cl 1 false) .nil)) (.seq (sNN (.cond (sNN .ret) .skip)) rNN)))) rNN))))))))) (sNN .ret)))))))
 (cts := [ct_octets_Cut, ct_segs_Get]) tbOk mixed ⟨octets_Cut_ok, segs_Get_ok, trivial⟩ Tryz.func46 rfl Tryz.ntmps46 (by kernel_rfl) (by kernel_rfl) (by kernel_rfl)
def ct_slices_Index_uint32_uint32 : Ct := ⟨144, [.v false (.sl none (.i .u32)), .v false (.i .u32)], [.val false (.i .i64)], fun s => slices_Index_uint32_uint32 s.1 s.2.1⟩
theorem slices_Index_uint32_uint32_ok : Holds Tryz.prog ct_slices_Index_uint32_uint32 := Holds.mk' (N := 19) (sc := sNN (.seq (sNN (.jn ⟨[], [], []⟩ (.blk (.lp ⟨[0, 1, 7], [], [.sl 8 false (.i .i64)]⟩ (sNN (.seq (.cond .skip .exit) (.seq (.blk (sNN (sNN (.cond (sNN .ret) .skip)))) rNN))))))) (sNN .ret)))
 (cts := []) tbOk mixed trivial Tryz.func144 rfl Tryz.ntmps144 (by kernel_rfl) (by kernel_rfl) (by kernel_rfl)
def ct_slices_Contains_uint32_uint32 : Ct := ⟨138, [.v false (.sl none (.i .u32)), .v false (.i .u32)], [.val false .b], fun s => slices_Contains_uint32_uint32 s.1 s.2.1⟩
theorem slices_Contains_uint32_uint32_ok : Holds Tryz.prog ct_slices_Contains_uint32_uint32 := Holds.mk' (N := 9) (sc := sNN (.seq (.reg (.h 2 (.cl 0 false) .nil)) .ret))
 (cts := [ct_slices_Index_uint32_uint32]) tbOk mixed ⟨slices_Index_uint32_uint32_ok, trivial⟩ Tryz.func138 rfl Tryz.ntmps138 (by kernel_rfl) (by kernel_rfl) (by kernel_rfl)
def ct_segs_kind : Ct := ⟨125, [.v false (.i .u32)], [.val false .b], fun s => segs_kind s.1⟩
theorem segs_kind_ok : Holds Tryz.prog ct_segs_kind := Holds.mk' (N := 6) (sc := sNN (.seq (.reg (.h 2 (.cl 0 true) .nil)) .ret))
 (cts := [ct_slices_Contains_uint32_uint32]) tbOk mixed ⟨slices_Contains_uint32_uint32_ok, trivial⟩ Tryz.func125 rfl Tryz.ntmps125 (by kernel_rfl) (by kernel_rfl) (by kernel_rfl)
def ct_segs_one : Ct := ⟨93, [.v true c61, .v false (.i .u64)], [.val false (.i .i64)], fun s => segs_one s.1 s.2.1⟩
theorem segs_one_ok : Holds Tryz.prog ct_segs_one := Holds.mk' (N := 69) (sc := sNN (.seq (.blk (.seq (.jn ⟨[1, 2], [], [.sl 5 false .b]⟩ (.reg (.h 2 (.cl 0 false) (.sp 5 .nil .nil)))) (.cond (sNN .ret) (sNN (.cond (sNN .ret) (.seq (.jn ⟨[2], [], [.sl 19 false .b]⟩ (.reg (.sp 5 .nil .nil))) (.cond (sNN .ret) (sNN (.cond (sNN .ret) (.seq (.jn ⟨[2], [], [.sl 39 false .b]⟩ (.reg (.sp 4 .nil .nil))) (.cond (sNN .ret) (.seq (.jn ⟨[], [], [.sl 51 false .b]⟩ (.reg (.sp 4 (.sp 12 .nil .nil) .nil))) (.cond (sNN .ret) .skip))))))))))))) (sNN .ret)))
 (cts := [ct_segs_kind]) tbOk mixed ⟨segs_kind_ok, trivial⟩ Tryz.func93 rfl Tryz.ntmps93 (by kernel_rfl) (by kernel_rfl) (by kernel_rfl)
def ct_segs_Find_1 : Ct := ⟨49, [.v true c61, .p (60, false, .i .u32)], [.val false .b], fun s => segs_Find_1 s.1 s.2.1⟩
theorem segs_Find_1_ok : Holds Tryz.prog ct_segs_Find_1 := Holds.mk' (N := 8) (sc := sNN (sNN .ret))
 (cts := []) tbOk mixed trivial Tryz.func49 rfl Tryz.ntmps49 (by kernel_rfl) (by kernel_rfl) (by kernel_rfl)
def ct_slices_IndexFunc_api_Seg_api_Seg_Find_1 : Ct := ⟨48, [.v false (.sl none c61), .fn 49 [(60, false, .i .u32)]], [.val false (.i .i64)], fun s => slices_IndexFunc_api_Seg_api_Seg_Find_1 s.1 s.2.1.1⟩
theorem slices_IndexFunc_api_Seg_api_Seg_Find_1_ok : Holds Tryz.prog ct_slices_IndexFunc_api_Seg_api_Seg_Find_1 := Holds.mk' (N := 19) (sc := sNN (.seq (sNN (.jn ⟨[], [], []⟩ (.blk (.lp ⟨[0, 1, 7], [], [.sl 8 false (.i .i64)]⟩ (sNN (.seq (.cond .skip .exit) (.seq (.blk (sNN (.seq (.reg (.h 5 (.cl 0 false) .nil)) (.cond (sNN .ret) .skip)))) rNN))))))) (sNN .ret)))
 (cts := [ct_segs_Find_1]) tbOk mixed ⟨segs_Find_1_ok, trivial⟩ Tryz.func48 rfl Tryz.ntmps48 (by kernel_rfl) (by kernel_rfl) (by kernel_rfl)
def ct_segs_Find : Ct := ⟨18, [.v false (.sl none c61), .v false (.i .u32)], [.val true c61, .val false .b], fun s => segs_Find s.1 s.2.1⟩
theorem segs_Find_ok : Holds Tryz.prog ct_segs_Find := Holds.mk' (N := 17) (sc := sNN (.seq (.reg (.h 2 (.cl 0 true) .nil)) (.seq (sNN (.cond (sNN .ret) .skip)) (sNN .ret))))
 (cts := [ct_slices_IndexFunc_api_Seg_api_Seg_Find_1]) tbOk mixed ⟨slices_IndexFunc_api_Seg_api_Seg_Find_1_ok, trivial⟩ Tryz.func18 rfl Tryz.ntmps18 (by kernel_rfl) (by kernel_rfl) (by kernel_rfl)
def ct_segs_single : Ct := ⟨94, [.v true c61], [.val false .b], fun s => segs_single s.1⟩
theorem segs_single_ok : Holds Tryz.prog ct_segs_single := Holds.mk' (N := 11) (sc := sNN (.seq (.jn ⟨[], [], [.sl 2 false .b]⟩ (.reg (.sp 4 .nil .nil))) .ret))
 (cts := []) tbOk mixed trivial Tryz.func94 rfl Tryz.ntmps94 (by kernel_rfl) (by kernel_rfl) (by kernel_rfl)
def ct_segs_pages : Ct := ⟨95, [.v true c61], [.val false (.i .u64), .val false (.i .u64)], fun s => segs_pages s.1⟩
theorem segs_pages_ok : Holds Tryz.prog ct_segs_pages := Holds.mk' (N := 25) (sc := sNN (.seq (.reg (.h 2 (.cl 0 false) .nil)) (.seq (.reg (.h 5 (.cl 1 false) .nil)) (sNN .ret))))
 (cts := [ct_octets_Down, ct_octets_Up]) tbOk mixed ⟨octets_Down_ok, octets_Up_ok, trivial⟩ Tryz.func95 rfl Tryz.ntmps95 (by kernel_rfl) (by kernel_rfl) (by kernel_rfl)
def ct_segs_within_1 : Ct := ⟨126, [.v true c61, .p (62, false, c61)], [.val false .b], fun s => segs_within_1 s.1 s.2.1⟩
theorem segs_within_1_ok : Holds Tryz.prog ct_segs_within_1 := Holds.mk' (N := 50) (sc := sNN (.seq (.jn ⟨[], [], [.sl 3 false .b]⟩ (.reg (.sp 4 (.sp 11 (.sp 21 (.sp 34 .nil .nil) .nil) .nil) .nil))) .ret))
 (cts := []) tbOk mixed trivial Tryz.func126 rfl Tryz.ntmps126 (by kernel_rfl) (by kernel_rfl) (by kernel_rfl)
def ct_slices_IndexFunc_api_Seg_api_Seg_within_1 : Ct := ⟨48, [.v false (.sl none c61), .fn 126 [(62, false, c61)]], [.val false (.i .i64)], fun s => slices_IndexFunc_api_Seg_api_Seg_within_1 s.1 s.2.1.1⟩
theorem slices_IndexFunc_api_Seg_api_Seg_within_1_ok : Holds Tryz.prog ct_slices_IndexFunc_api_Seg_api_Seg_within_1 := Holds.mk' (N := 19) (sc := sNN (.seq (sNN (.jn ⟨[], [], []⟩ (.blk (.lp ⟨[0, 1, 7], [], [.sl 8 false (.i .i64)]⟩ (sNN (.seq (.cond .skip .exit) (.seq (.blk (sNN (.seq (.reg (.h 5 (.cl 0 false) .nil)) (.cond (sNN .ret) .skip)))) rNN))))))) (sNN .ret)))
 (cts := [ct_segs_within_1]) tbOk mixed ⟨segs_within_1_ok, trivial⟩ Tryz.func48 rfl Tryz.ntmps48 (by kernel_rfl) (by kernel_rfl) (by kernel_rfl)
def ct_slices_ContainsFunc_api_Seg_api_Seg_within_1 : Ct := ⟨103, [.v false (.sl none c61), .fn 126 [(62, false, c61)]], [.val false .b], fun s => slices_ContainsFunc_api_Seg_api_Seg_within_1 s.1 s.2.1.1⟩
theorem slices_ContainsFunc_api_Seg_api_Seg_within_1_ok : Holds Tryz.prog ct_slices_ContainsFunc_api_Seg_api_Seg_within_1 := Holds.mk' (N := 9) (sc := sNN (.seq (.reg (.h 2 (.cl 0 false) .nil)) .ret))
 (cts := [ct_slices_IndexFunc_api_Seg_api_Seg_within_1]) tbOk mixed ⟨slices_IndexFunc_api_Seg_api_Seg_within_1_ok, trivial⟩ Tryz.func103 rfl Tryz.ntmps103 (by kernel_rfl) (by kernel_rfl) (by kernel_rfl)
def ct_segs_within : Ct := ⟨96, [.v false (.sl none c61), .v true c61], [.val false .b], fun s => segs_within s.1 s.2.1⟩
theorem segs_within_ok : Holds Tryz.prog ct_segs_within := Holds.mk' (N := 13) (sc := sNN (.seq (.jn ⟨[], [], [.sl 4 false .b]⟩ (.reg (.sp 4 .nil (.h 6 (.cl 0 true) .nil)))) .ret))
 (cts := [ct_slices_ContainsFunc_api_Seg_api_Seg_within_1]) tbOk mixed ⟨slices_ContainsFunc_api_Seg_api_Seg_within_1_ok, trivial⟩ Tryz.func96 rfl Tryz.ntmps96 (by kernel_rfl) (by kernel_rfl) (by kernel_rfl)
def ct_segs_Check : Ct := ⟨47, [.v false (.sl none c61), .v false (.i .u64)], [.val false (.i .i64)], fun s => segs_Check s.1 s.2.1⟩
theorem segs_Check_ok : Holds Tryz.prog ct_segs_Check := Holds.mk' (N := 70) (sc := sNN (sNN (.seq (sNN (.jn ⟨[0], [], []⟩ (.blk (.lp ⟨[0, 1, 15, 16], [], [.sl 5 false (.i .u64), .sl 17 false (.i .i64)]⟩ (sNN (.seq (.cond .skip .exit) (.seq (.jn ⟨[0, 1, 15, 16, 17], [], [.sl 5 false (.i .u64)]⟩ (.blk (sNN (.seq (.seq (.reg (.h 2 (.cl 0 false) .nil)) (sNN (.cond (sNN .ret) .skip))) (.seq (.seq (.drw 10 [oNN, oNN, .op [0, 1] [0, 1] [], oNN, .op [3] [] [], .op [0, 1, 2, 4] [0, 1, 2, 4] [], .op [0, 1, 2, 4, 5] [0, 1, 2, 4, 5] [], .op [0, 1, 2, 4, 5, 6] [0, 1, 2, 4, 5, 6] [], .fl [0, 1, 2, 4, 5, 6] [], oNN, .sk, .sk] (.h 5 (.cl 1 true) .nil)) (.seq (.jn ⟨[0, 1, 5, 7, 15, 16, 17], [], [.sl 41 false .b]⟩ (.reg (.sp 2 (.h 3 (.cl 2 false) .nil) .nil))) (.cond (sNN .ret) .skip))) (sNN (.jn ⟨[0, 1, 15, 16, 17], [], [.sl 5 false (.i .u64)]⟩ (.cond (.seq (.reg (.h 1 (.cl 3 false) .nil)) (.seq (sNN (.cond (sNN .ret) .skip)) rNN)) .skip)))))))) rNN))))))) (.seq (sNN (.jn ⟨[], [], []⟩ (.blk (.lp ⟨[0, 55, 56], [], [.sl 57 false (.i .i64)]⟩ (sNN (.seq (.cond .skip .exit) (.seq (.blk (sNN (.seq (.jn ⟨[0, 55, 56, 57], [], [.sl 68 false .b]⟩ (.reg (.h 1 (.cl 2 false) (.sp 3 (.h 5 (.cl 4 false) .nil) .nil)))) (.cond (sNN .ret) .skip)))) rNN))))))) (sNN .ret)))))
 (cts := [ct_segs_one, ct_segs_Find, ct_segs_single, ct_segs_pages, ct_segs_within]) tbOk mixed ⟨segs_one_ok, segs_Find_ok, segs_single_ok, segs_pages_ok, segs_within_ok, trivial⟩ Tryz.func47 rfl Tryz.ntmps47 (by kernel_rfl) (by kernel_rfl) (by kernel_rfl)
def ct_image_reader_shape : Ct := ⟨17, [.p (70, true, .pr (.pr (.pr (.i .i64) (.pr (.i .u64) (.pr (.i .u64) (.i .i64)))) (.pr (.sl none c61) (.pr .s (.pr (.sl (some 9) .s) (.pr (.sl (some 9) .s) (.pr (.sl none c77) (.pr (.sl (some 80) c79) (.sl (some 5) (.i .u8))))))))) (.pr (.pr (.sl none (.i .u64)) (.pr (.i .u64) (.pr (.i .u64) (.pr (.i .u64) (.pr (.i .u64) (.pr (.i .u64) (.pr (.i .u64) (.i .u64)))))))) (.sl none (.i .u8))))], [.val false (.i .i64), .ob 0 70 (.pr (.pr (.pr (.i .i64) (.pr (.i .u64) (.pr (.i .u64) (.i .i64)))) (.pr (.sl none c61) (.pr .s (.pr (.sl (some 9) .s) (.pr (.sl (some 9) .s) (.pr (.sl none c77) (.pr (.sl (some 80) c79) (.sl (some 5) (.i .u8))))))))) (.pr (.pr (.sl none (.i .u64)) (.pr (.i .u64) (.pr (.i .u64) (.pr (.i .u64) (.pr (.i .u64) (.pr (.i .u64) (.pr (.i .u64) (.i .u64)))))))) (.sl none (.i .u8))))], fun s => image_reader_shape s.1⟩
theorem image_reader_shape_ok : Holds Tryz.prog ct_image_reader_shape := Holds.mk' (N := 84) (sc := sNN (sNN (.seq (.seq (.reg (.h 6 (.cl 0 true) .nil)) (sNN (.cond (sNN .ret) .skip))) (.seq (sNN (.cond (sNN .ret) .skip)) (.seq (.seq (.drw 25 [oNN, oNN, .op [1] [1] [], .op [1, 2] [1, 2] [], .op [1, 2, 3] [1, 2, 3] [], .op [1, 2, 3, 4] [1, 2, 3, 4] [], oNN, .op [6] [6] [], .op [6, 7] [6, 7] [], .op [6, 7, 8] [6, 7, 8] [], .op [6, 7, 8, 9] [6, 7, 8, 9] [], .op [6, 7, 8, 9, 10] [] [], oNN, .op [12] [12] [], .op [12, 13] [12, 13] [], .op [12, 13, 14] [12, 13, 14] [], .op [12, 13, 14, 15] [12, 13, 14, 15] [], .op [12, 13, 14, 15, 16] [] [], .op [1, 2, 3, 4, 5, 11, 17] [1, 2, 3, 4, 5, 11, 17] [], .op [1, 2, 3, 4, 5, 11, 17, 18] [1, 2, 3, 4, 5, 11, 17, 18] [], .op [1, 2, 3, 4, 5, 11, 17, 18, 19] [1, 2, 3, 4, 5, 11, 17, 18, 19] [], .fl [1, 2, 3, 4, 5, 11, 17, 18, 19] [], .op [0] [0] [], .op [0, 22] [0, 22] [], .op [0, 22, 23] [0, 22, 23] [], .sk, .sk] (.h 18 (.cl 1 true) .nil)) (sNN (.cond (sNN .ret) .skip))) (.seq (.seq (.drw 14 [oNN, .op [0] [0] [], .op [0, 1] [0, 1] [], .op [0, 1, 2] [0, 1, 2] [], .op [0, 1, 2, 3] [0, 1, 2, 3] [], oNN, .op [5] [5] [], .op [5, 6] [5, 6] [], .op [5, 6, 7] [5, 6, 7] [], .op [5, 6, 7, 8] [5, 6, 7, 8] [], .op [5, 6, 7, 8, 9] [] [], .op [10] [] [], .op [0, 1, 2, 3, 4, 11] [] [], .op [12] [] []] (.h 12 (.cl 2 true) .nil)) (sNN (.cond (sNN .ret) .skip))) (.seq (.seq (.reg (.h 5 (.cl 3 true) .nil)) (sNN (.cond (sNN .ret) .skip))) (sNN .ret))))))))
 (cts := [ct_head_Get, ct_segs_Table, ct_segs_Check, ct_segs_Find]) tbOk mixed ⟨head_Get_ok, segs_Table_ok, segs_Check_ok, segs_Find_ok, trivial⟩ Tryz.func17 rfl Tryz.ntmps17 (by kernel_rfl) (by kernel_rfl) (by kernel_rfl)
def ct_dynamic_Get : Ct := ⟨51, [.v false (.sl none (.i .u8))], [.val true (.pr (.sl (some 24) (.i .u64)) (.pr (.i .u64) (.pr (.i .u64) (.pr (.i .u64) (.pr (.i .u64) (.pr (.i .u64) (.pr (.i .u64) (.i .u64)))))))), .val false (.i .i64)], fun s => dynamic_Get s.1⟩
theorem dynamic_Get_ok : Holds Tryz.prog ct_dynamic_Get := Holds.mk' (N := 101) (sc := sNN (sNN (.seq (.reg (.h 0 (.mm 4) .nil)) (sNN (.seq (sNN (.jn ⟨[2, 4, 6], [], [.mp (.at_ 6 []) (.i .u64) .b, .bx (.at_ 4 []) 68 (.pr (.sl (some 24) (.i .u64)) (.pr (.i .u64) (.pr (.i .u64) (.pr (.i .u64) (.pr (.i .u64) (.pr (.i .u64) (.pr (.i .u64) (.i .u64))))))))]⟩ (.blk (.lp ⟨[0, 2, 4, 5, 6], [], [.sl 7 false (.i .u64), .mp (.at_ 6 []) (.i .u64) .b, .bx (.at_ 4 []) 68 (.pr (.sl (some 24) (.i .u64)) (.pr (.i .u64) (.pr (.i .u64) (.pr (.i .u64) (.pr (.i .u64) (.pr (.i .u64) (.pr (.i .u64) (.i .u64))))))))]⟩ (.seq (.jn ⟨[0, 2, 4, 5, 6, 7], [], [.bx (.at_ 4 []) 68 (.pr (.sl (some 24) (.i .u64)) (.pr (.i .u64) (.pr (.i .u64) (.pr (.i .u64) (.pr (.i .u64) (.pr (.i .u64) (.pr (.i .u64) (.i .u64)))))))), .mp (.at_ 6 []) (.i .u64) .b]⟩ (.blk (.seq (.reg (.h 2 (.cl 0 false) .nil)) (.seq (.reg (.h 3 (.cl 0 false) .nil)) (.seq (.seq (.jn ⟨[0, 2, 4, 5, 6, 7, 8, 10], [], [.sl 44 false .b]⟩ (.reg (.sp 3 .nil .nil))) (.cond (sNN .ret) .skip)) (.seq (sNN (.cond .exit .skip)) (sNN (.seq (.blk (sNN (.cond (sNN .exit) (sNN (.cond (sNN .ret) (sNN (.cond (sNN .ret) .skip))))))) (sNN rNN))))))))) (.reg (.h 2 (.nm [25]) .nil))))))) (.seq (.seq (.jn ⟨[2, 4], [], [.sl 98 false .b]⟩ (.reg (.sp 4 .nil (.sp 9 .nil (.sp 16 .nil .nil))))) (.cond (sNN .ret) .skip)) (sNN .ret)))))))
 (cts := [ct_octets_Get]) tbOk mixed ⟨octets_Get_ok, trivial⟩ Tryz.func51 rfl Tryz.ntmps51 (by kernel_rfl) (by kernel_rfl) (by kernel_rfl)
def ct_segs_Place : Ct := ⟨98, [.v false (.sl none c61), .v false (.i .u64), .v false (.i .u64)], [.val false (.i .u64), .val false (.i .i64)], fun s => segs_Place s.1 s.2.1 s.2.2.1⟩
theorem segs_Place_ok : Holds Tryz.prog ct_segs_Place := Holds.mk' (N := 53) (sc := sNN (.seq (sNN (.jn ⟨[], [], []⟩ (.blk (.lp ⟨[1, 2, 11, 12], [], [.sl 13 false (.i .i64)]⟩ (sNN (.seq (.cond .skip .exit) (.seq (.blk (sNN (.seq (.reg (.h 4 (.nm [20]) .nil)) (.seq (.jn ⟨[1, 2, 9, 10, 11, 12, 13], [], [.sl 47 false .b]⟩ (.reg (.sp 3 (.sp 8 (.sp 14 (.sp 20 .nil .nil) .nil) .nil) .nil))) (.cond (sNN .ret) .skip))))) rNN))))))) (sNN .ret)))
 (cts := []) tbOk mixed trivial Tryz.func98 rfl Tryz.ntmps98 (by kernel_rfl) (by kernel_rfl) (by kernel_rfl)
def ct_image_reader_at : Ct := ⟨52, [.p (70, false, c69), .v false (.i .u64), .v false (.i .u64)], [.val false (.sl (some 5) (.i .u8)), .val false (.i .i64)], fun s => image_reader_at s.1 s.2.1 s.2.2.1⟩
theorem image_reader_at_ok : Holds Tryz.prog ct_image_reader_at := Holds.mk' (N := 34) (sc := sNN (.seq (.reg (.h 7 (.cl 0 false) .nil)) (.seq (sNN (.cond (sNN .ret) .skip)) (.seq (.reg (.h 7 (.cl 1 false) .nil)) .ret))))
 (cts := [ct_segs_Place, ct_octets_Cut]) tbOk mixed ⟨segs_Place_ok, octets_Cut_ok, trivial⟩ Tryz.func52 rfl Tryz.ntmps52 (by kernel_rfl) (by kernel_rfl) (by kernel_rfl)
def ct_names_Check : Ct := ⟨53, [.v false (.sl none (.i .u8))], [.val false (.i .i64)], fun s => names_Check s.1⟩
theorem names_Check_ok : Holds Tryz.prog ct_names_Check := Holds.mk' (N := 22) (sc := sNN (.seq (.seq (.reg (.h 2 (.nm [5]) .nil)) (.seq (.jn ⟨[], [], [.sl 21 false .b]⟩ (.reg (.sp 3 .nil (.sp 9 .nil .nil)))) (.cond (sNN .ret) .skip))) (sNN .ret)))
 (cts := []) tbOk mixed trivial Tryz.func53 rfl Tryz.ntmps53 (by kernel_rfl) (by kernel_rfl) (by kernel_rfl)
def ct_slices_Index_byte_byte : Ct := ⟨99, [.v false (.sl none (.i .u8)), .v false (.i .u8)], [.val false (.i .i64)], fun s => slices_Index_byte_byte s.1 s.2.1⟩
theorem slices_Index_byte_byte_ok : Holds Tryz.prog ct_slices_Index_byte_byte := Holds.mk' (N := 19) (sc := sNN (.seq (sNN (.jn ⟨[], [], []⟩ (.blk (.lp ⟨[0, 1, 7], [], [.sl 8 false (.i .i64)]⟩ (sNN (.seq (.cond .skip .exit) (.seq (.blk (sNN (sNN (.cond (sNN .ret) .skip)))) rNN))))))) (sNN .ret)))
 (cts := []) tbOk mixed trivial Tryz.func99 rfl Tryz.ntmps99 (by kernel_rfl) (by kernel_rfl) (by kernel_rfl)
def ct_names_At : Ct := ⟨54, [.v false (.sl none (.i .u8)), .v false (.i .u64)], [.val false .s, .val false (.i .i64)], fun s => names_At s.1 s.2.1⟩
theorem names_At_ok : Holds Tryz.prog ct_names_At := Holds.mk' (N := 24) (sc := sNN (.seq (sNN (.cond (sNN .ret) .skip)) (sNN (.seq (.reg (.h 1 (.cl 0 false) .nil)) (.seq (sNN (.cond (sNN .ret) .skip)) (sNN .ret))))))
 (cts := [ct_slices_Index_byte_byte]) tbOk mixed ⟨slices_Index_byte_byte_ok, trivial⟩ Tryz.func54 rfl Tryz.ntmps54 (by kernel_rfl) (by kernel_rfl) (by kernel_rfl)
def ct_image_reader_named : Ct := ⟨20, [.p (70, true, .pr (.pr (.pr (.i .i64) (.pr (.i .u64) (.pr (.i .u64) (.i .i64)))) (.pr (.sl none c61) (.pr .s (.pr (.sl (some 9) .s) (.pr (.sl (some 9) .s) (.pr (.sl none c77) (.pr (.sl (some 80) c79) (.sl (some 5) (.i .u8))))))))) (.pr (.pr (.sl none (.i .u64)) (.pr (.i .u64) (.pr (.i .u64) (.pr (.i .u64) (.pr (.i .u64) (.pr (.i .u64) (.pr (.i .u64) (.i .u64)))))))) (.sl none (.i .u8)))), .v true c61], [.val false (.i .i64), .ob 0 70 (.pr (.pr (.pr (.i .i64) (.pr (.i .u64) (.pr (.i .u64) (.i .i64)))) (.pr (.sl none c61) (.pr .s (.pr (.sl (some 9) .s) (.pr (.sl (some 9) .s) (.pr (.sl none c77) (.pr (.sl (some 80) c79) (.sl (some 5) (.i .u8))))))))) (.pr (.pr (.sl none (.i .u64)) (.pr (.i .u64) (.pr (.i .u64) (.pr (.i .u64) (.pr (.i .u64) (.pr (.i .u64) (.pr (.i .u64) (.i .u64)))))))) (.sl none (.i .u8))))], fun s => image_reader_named s.1 s.2.1⟩
theorem image_reader_named_ok : Holds Tryz.prog ct_image_reader_named := Holds.mk' (N := 134) (sc := sNN (.seq (.drw 15 [oNN, .op [0] [0] [], .op [0, 1] [0, 1] [], .op [0, 1, 2] [0, 1, 2] [], .op [0, 1, 2, 3] [0, 1, 2, 3] [], oNN, .op [5] [] [], oNN, .op [7] [] [], .op [0, 1, 2, 3, 4, 6, 8] [0, 1, 2, 3, 4, 6, 8] [], .op [0, 1, 2, 3, 4, 6, 8, 9] [0, 1, 2, 3, 4, 6, 8, 9] [], .op [0, 1, 2, 3, 4, 6, 8, 9, 10] [0, 1, 2, 3, 4, 6, 8, 9, 10] [], .op [0, 1, 2, 3, 4, 6, 8, 9, 10] [] [], .op [0, 1, 2, 3, 4, 6, 8, 9, 10, 11] [0, 1, 2, 3, 4, 6, 8, 9, 10, 11] [], .op [12] [] []] (.h 9 (.cl 0 true) .nil)) (.seq (sNN (.cond (sNN .ret) .skip)) (.seq (.seq (.reg (.h 2 (.cl 1 true) .nil)) (sNN (.cond (sNN .ret) .skip))) (.seq (.seq (.drw 18 [oNN, oNN, oNN, .op [2] [2] [], .op [2, 3] [2, 3] [], .op [2, 3, 4] [2, 3, 4] [], .op [2, 3, 4, 5] [] [], oNN, .op [7] [7] [], .op [7, 8] [7, 8] [], .op [7, 8, 9] [7, 8, 9] [], .op [7, 8, 9, 10] [] [], .op [1, 6, 11] [1, 6, 11] [], .op [1, 6, 11, 12] [1, 6, 11, 12] [], .op [1, 6, 11, 12, 13] [1, 6, 11, 12, 13] [], .fl [1, 6, 11, 12, 13] [], .op [0] [0] [], .op [0, 16] [0, 16] [], .sk, .sk] (.h 12 (.cl 2 true) .nil)) (sNN (.cond (sNN .ret) .skip))) (.seq (.seq (.reg (.h 4 (.cl 3 true) .nil)) (sNN (.cond (sNN .ret) .skip))) (.seq (sNN (.jn ⟨[0], [0], [.bx (.at_ 0 []) 70 (.pr (.pr (.pr (.i .i64) (.pr (.i .u64) (.pr (.i .u64) (.i .i64)))) (.pr (.sl none c61) (.pr .s (.pr (.sl (some 9) .s) (.pr (.sl (some 9) .s) (.pr (.sl none c77) (.pr (.sl (some 80) c79) (.sl (some 5) (.i .u8))))))))) (.pr (.pr (.sl (some 24) (.i .u64)) (.pr (.i .u64) (.pr (.i .u64) (.pr (.i .u64) (.pr (.i .u64) (.pr (.i .u64) (.pr (.i .u64) (.i .u64)))))))) (.sl (some 5) (.i .u8))))]⟩ (.cond (.seq (.drw 17 [oNN, oNN, .op [1] [1] [], .op [1, 2] [1, 2] [], .op [1, 2, 3] [1, 2, 3] [], oNN, .op [5] [5] [], .op [5, 6] [5, 6] [], .op [5, 6, 7] [5, 6, 7] [], .op [5, 6, 7, 8] [] [], .op [1, 2, 3, 4, 9] [1, 2, 3, 4, 9] [], .op [1, 2, 3, 4, 9, 10] [1, 2, 3, 4, 9, 10] [], .op [1, 2, 3, 4, 9, 10, 11] [] [], .fl [1, 2, 3, 4, 9, 10, 11] [], .op [0] [0] [], .op [0, 14] [0, 14] [], .op [0, 14, 15] [0, 14, 15] [], .sk, .sk] (.h 10 (.cl 4 true) .nil)) (sNN (.cond (sNN .ret) .skip))) .skip))) (.seq (sNN (.fz [.at_ 97 []] (.jn ⟨[], [0], [.bx (.at_ 0 []) 70 (.pr (.pr (.pr (.i .i64) (.pr (.i .u64) (.pr (.i .u64) (.i .i64)))) (.pr (.sl none c61) (.pr .s (.pr (.sl (some 9) .s) (.pr (.sl (some 9) .s) (.pr (.sl none c77) (.pr (.sl (some 80) c79) (.sl (some 5) (.i .u8))))))))) (.pr (.pr (.sl none (.i .u64)) (.pr (.i .u64) (.pr (.i .u64) (.pr (.i .u64) (.pr (.i .u64) (.pr (.i .u64) (.pr (.i .u64) (.i .u64)))))))) (.sl (some 5) (.i .u8))))]⟩ (.blk (.lp ⟨[0, 97, 98], [0], [.sl 99 false (.i .i64), .bx (.at_ 0 []) 70 (.pr (.pr (.pr (.i .i64) (.pr (.i .u64) (.pr (.i .u64) (.i .i64)))) (.pr (.sl none c61) (.pr .s (.pr (.sl (some 9) .s) (.pr (.sl (some 9) .s) (.pr (.sl none c77) (.pr (.sl (some 80) c79) (.sl (some 5) (.i .u8))))))))) (.pr (.pr (.sl none (.i .u64)) (.pr (.i .u64) (.pr (.i .u64) (.pr (.i .u64) (.pr (.i .u64) (.pr (.i .u64) (.pr (.i .u64) (.i .u64)))))))) (.sl (some 5) (.i .u8))))]⟩ (sNN (.seq (.cond .skip .exit) (.seq (.blk (.seq (.reg (.h 2 (.nm [102]) .nil)) (.seq (.reg (.h 5 (.cl 4 true) .nil)) (.seq (.seq (.jn ⟨[0, 9, 10, 97, 98, 99], [0], [.sl 117 false .b]⟩ (.reg (.sp 3 .nil .nil))) (.jn ⟨[0, 9, 97, 98, 99], [0], [.sl 10 false (.i .i64)]⟩ (.cond rNN .skip))) (.seq (sNN (.cond (sNN .ret) .skip)) rNN))))) rNN)))))))) (sNN .ret)))))))))
 (cts := [ct_octets_Cut, ct_dynamic_Get, ct_image_reader_at, ct_names_Check, ct_names_At]) tbOk mixed ⟨octets_Cut_ok, dynamic_Get_ok, image_reader_at_ok, names_Check_ok, names_At_ok, trivial⟩ Tryz.func20 rfl Tryz.ntmps20 (by kernel_rfl) (by kernel_rfl) (by kernel_rfl)
def ct_image_Parse_1_b : Ct := ⟨19, [.pf 64 (70, true, .pr (.pr (.pr (.i .i64) (.pr (.i .u64) (.pr (.i .u64) (.i .i64)))) (.pr (.sl none c61) (.pr .s (.pr (.sl (some 9) .s) (.pr (.sl (some 9) .s) (.pr (.sl none c77) (.pr (.sl (some 80) c79) (.sl (some 5) (.i .u8))))))))) (.pr (.pr (.sl none (.i .u64)) (.pr (.i .u64) (.pr (.i .u64) (.pr (.i .u64) (.pr (.i .u64) (.pr (.i .u64) (.pr (.i .u64) (.i .u64)))))))) (.sl none (.i .u8)))), .p (62, true, c61)], [.val false (.i .i64), .ob 1 70 (.pr (.pr (.pr (.i .i64) (.pr (.i .u64) (.pr (.i .u64) (.i .i64)))) (.pr (.sl none c61) (.pr .s (.pr (.sl (some 9) .s) (.pr (.sl (some 9) .s) (.pr (.sl none c77) (.pr (.sl (some 80) c79) (.sl (some 5) (.i .u8))))))))) (.pr (.pr (.sl none (.i .u64)) (.pr (.i .u64) (.pr (.i .u64) (.pr (.i .u64) (.pr (.i .u64) (.pr (.i .u64) (.pr (.i .u64) (.i .u64)))))))) (.sl none (.i .u8)))), .ob 10 62 c61], fun s => image_Parse_1_b s.1 s.2.1⟩
theorem image_Parse_1_b_ok : Holds Tryz.prog ct_image_Parse_1_b := Holds.mk' (N := 6) (sc := sNN (.seq (.reg (.h 2 (.cl 0 false) .nil)) .ret))
 (cts := [ct_image_reader_named]) tbOk mixed ⟨image_reader_named_ok, trivial⟩ Tryz.func19 rfl Tryz.ntmps19 (by kernel_rfl) (by kernel_rfl) (by kernel_rfl)
def ct_symbols_one_1 : Ct := ⟨127, [.v false (.i .u64), .v false (.i .i64), .p (22, false, .sl none (.i .u8))], [.val false (.i .u64)], fun s => symbols_one_1 s.1 s.2.1 s.2.2.1⟩
theorem symbols_one_1_ok : Holds Tryz.prog ct_symbols_one_1 := Holds.mk' (N := 16) (sc := sNN (.seq (.reg (.h 3 (.cl 0 false) .nil)) (sNN .ret)))
 (cts := [ct_octets_Get]) tbOk mixed ⟨octets_Get_ok, trivial⟩ Tryz.func127 rfl Tryz.ntmps127 (by kernel_rfl) (by kernel_rfl) (by kernel_rfl)
def ct_symbols_one : Ct := ⟨100, [.v false (.sl none (.i .u8))], [.val true c77], fun s => symbols_one s.1⟩
theorem symbols_one_ok : Holds Tryz.prog ct_symbols_one := Holds.mk' (N := 22) (sc := sNN (sNN (.seq (.reg (.h 1 (.cl 0 true) (.h 4 (.cl 0 true) (.h 7 (.cl 0 true) (.h 10 (.cl 0 true) (.h 13 (.cl 0 true) (.h 15 (.cl 0 true) .nil))))))) .ret)))
 (cts := [ct_symbols_one_1]) tbOk mixed ⟨symbols_one_1_ok, trivial⟩ Tryz.func100 rfl Tryz.ntmps100 (by kernel_rfl) (by kernel_rfl) (by kernel_rfl)
def ct_symbols_Table : Ct := ⟨55, [.v false (.sl none (.i .u8))], [.val false (.sl (some 78) c77), .val false (.i .i64)], fun s => symbols_Table s.1⟩
theorem symbols_Table_ok : Holds Tryz.prog ct_symbols_Table := Holds.mk' (N := 21) (sc := sNN (.seq (sNN (.cond (sNN .ret) .skip)) (sNN (.seq (.jn ⟨[], [], [.sl 4 false (.sl (some 78) c77)]⟩ (.blk (.lp ⟨[], [], [.sl 0 false (.sl none (.i .u8)), .sl 4 false (.sl (some 78) c77)]⟩ (.seq (sNN (.cond .skip .exit)) (.seq (.blk (.reg (.h 3 (.cl 0 false) .nil))) rNN))))) (sNN .ret)))))
 (cts := [ct_symbols_one]) tbOk mixed ⟨symbols_one_ok, trivial⟩ Tryz.func55 rfl Tryz.ntmps55 (by kernel_rfl) (by kernel_rfl) (by kernel_rfl)
def ct_symbols_Defined : Ct := ⟨60, [.v true c77], [.val false .b], fun s => symbols_Defined s.1⟩
theorem symbols_Defined_ok : Holds Tryz.prog ct_symbols_Defined := Holds.mk' (N := 6) (sc := sNN (sNN .ret))
 (cts := []) tbOk mixed trivial Tryz.func60 rfl Tryz.ntmps60 (by kernel_rfl) (by kernel_rfl) (by kernel_rfl)
def ct_symbols_Bind : Ct := ⟨128, [.v true c77], [.val false (.i .i64)], fun s => symbols_Bind s.1⟩
theorem symbols_Bind_ok : Holds Tryz.prog ct_symbols_Bind := Holds.mk' (N := 7) (sc := sNN (sNN .ret))
 (cts := []) tbOk mixed trivial Tryz.func128 rfl Tryz.ntmps128 (by kernel_rfl) (by kernel_rfl) (by kernel_rfl)
end Dm

namespace Dm
open Go Go.RowKit Go.Proofs
def ct_symbols_Kind : Ct := ⟨61, [.v true c77], [.val false (.i .i64)], fun s => symbols_Kind s.1⟩
theorem symbols_Kind_ok : Holds Tryz.prog ct_symbols_Kind := Holds.mk' (N := 7) (sc := sNN (sNN .ret))
 (cts := []) tbOk mixed trivial Tryz.func61 rfl Tryz.ntmps61 (by kernel_rfl) (by kernel_rfl) (by kernel_rfl)
def ct_slices_Index_int_int : Ct := ⟨139, [.v false (.sl none (.i .i64)), .v false (.i .i64)], [.val false (.i .i64)], fun s => slices_Index_int_int s.1 s.2.1⟩
theorem slices_Index_int_int_ok : Holds Tryz.prog ct_slices_Index_int_int := Holds.mk' (N := 19) (sc := sNN (.seq (sNN (.jn ⟨[], [], []⟩ (.blk (.lp ⟨[0, 1, 7], [], [.sl 8 false (.i .i64)]⟩ (sNN (.seq (.cond .skip .exit) (.seq (.blk (sNN (sNN (.cond (sNN .ret) .skip)))) rNN))))))) (sNN .ret)))
 (cts := []) tbOk mixed trivial Tryz.func139 rfl Tryz.ntmps139 (by kernel_rfl) (by kernel_rfl) (by kernel_rfl)
def ct_slices_Contains_int_int : Ct := ⟨129, [.v false (.sl none (.i .i64)), .v false (.i .i64)], [.val false .b], fun s => slices_Contains_int_int s.1 s.2.1⟩
theorem slices_Contains_int_int_ok : Holds Tryz.prog ct_slices_Contains_int_int := Holds.mk' (N := 9) (sc := sNN (.seq (.reg (.h 2 (.cl 0 false) .nil)) .ret))
 (cts := [ct_slices_Index_int_int]) tbOk mixed ⟨slices_Index_int_int_ok, trivial⟩ Tryz.func129 rfl Tryz.ntmps129 (by kernel_rfl) (by kernel_rfl) (by kernel_rfl)
def ct_symbols_may : Ct := ⟨101, [.v true c77], [.val false .b], fun s => symbols_may s.1⟩
theorem symbols_may_ok : Holds Tryz.prog ct_symbols_may := Holds.mk' (N := 50) (sc := sNN (sNN (.seq (.jn ⟨[1, 3], [], [.sl 4 false .b]⟩ (.reg (.h 1 (.cl 0 false) (.sp 3 .nil (.sp 7 (.sp 12 (.h 13 (.cl 1 false) (.h 17 (.nm [22]) .nil)) .nil) .nil))))) (.seq (.jn ⟨[], [], [.sl 2 false .b]⟩ (.reg (.h 1 (.cl 1 false) (.sp 4 (.h 6 (.cl 2 false) (.h 7 (.cl 3 true) (.sp 10 (.sp 15 (.sp 20 (.sp 25 .nil .nil) .nil) .nil) .nil))) .nil)))) .ret))))
 (cts := [ct_symbols_Defined, ct_symbols_Bind, ct_symbols_Kind, ct_slices_Contains_int_int]) tbOk mixed ⟨symbols_Defined_ok, symbols_Bind_ok, symbols_Kind_ok, slices_Contains_int_int_ok, trivial⟩ Tryz.func101 rfl Tryz.ntmps101 (by kernel_rfl) (by kernel_rfl) (by kernel_rfl)
def ct_symbols_Check : Ct := ⟨56, [.v false (.sl none c77)], [.val false (.i .i64)], fun s => symbols_Check s.1⟩
theorem symbols_Check_ok : Holds Tryz.prog ct_symbols_Check := Holds.mk' (N := 29) (sc := sNN (.seq (sNN (.jn ⟨[], [], []⟩ (.blk (.lp ⟨[5, 6], [], [.sl 7 false (.i .i64)]⟩ (sNN (.seq (.cond .skip .exit) (.seq (.blk (sNN (.seq (.jn ⟨[5, 6, 7], [], [.sl 27 false .b]⟩ (.reg (.sp 3 (.sp 8 .nil (.sp 11 (.h 12 (.cl 0 false) .nil) .nil)) (.sp 11 (.h 12 (.cl 0 false) .nil) .nil)))) (.cond (sNN .ret) .skip)))) rNN))))))) (sNN .ret)))
 (cts := [ct_symbols_may]) tbOk mixed ⟨symbols_may_ok, trivial⟩ Tryz.func56 rfl Tryz.ntmps56 (by kernel_rfl) (by kernel_rfl) (by kernel_rfl)
def ct_image_reader_symbols : Ct := ⟨21, [.p (70, true, .pr (.pr (.pr (.i .i64) (.pr (.i .u64) (.pr (.i .u64) (.i .i64)))) (.pr (.sl none c61) (.pr .s (.pr (.sl (some 9) .s) (.pr (.sl (some 9) .s) (.pr (.sl none c77) (.pr (.sl (some 80) c79) (.sl (some 5) (.i .u8))))))))) (.pr (.pr (.sl none (.i .u64)) (.pr (.i .u64) (.pr (.i .u64) (.pr (.i .u64) (.pr (.i .u64) (.pr (.i .u64) (.pr (.i .u64) (.i .u64)))))))) (.sl none (.i .u8))))], [.val false (.i .i64), .ob 0 70 (.pr (.pr (.pr (.i .i64) (.pr (.i .u64) (.pr (.i .u64) (.i .i64)))) (.pr (.sl none c61) (.pr .s (.pr (.sl (some 9) .s) (.pr (.sl (some 9) .s) (.pr (.sl none c77) (.pr (.sl (some 80) c79) (.sl (some 5) (.i .u8))))))))) (.pr (.pr (.sl none (.i .u64)) (.pr (.i .u64) (.pr (.i .u64) (.pr (.i .u64) (.pr (.i .u64) (.pr (.i .u64) (.pr (.i .u64) (.i .u64)))))))) (.sl none (.i .u8))))], fun s => image_reader_symbols s.1⟩
theorem image_reader_symbols_ok : Holds Tryz.prog ct_image_reader_symbols := Holds.mk' (N := 89) (sc := sNN (sNN (.seq (sNN (.cond (sNN .ret) .skip)) (.seq (sNN (.cond (sNN .ret) .skip)) (.seq (.reg (.h 8 (.cl 0 true) .nil)) (.seq (sNN (.cond (sNN .ret) .skip)) (.seq (.reg (.h 2 (.cl 1 true) .nil)) (.seq (.seq (.reg (.h 5 (.cl 2 true) .nil)) (sNN (.cond (sNN .ret) .skip))) (.seq (sNN (.fz [.at_ 56 []] (.jn ⟨[], [0], [.bx (.at_ 0 []) 70 (.pr (.pr (.pr (.i .i64) (.pr (.i .u64) (.pr (.i .u64) (.i .i64)))) (.pr (.sl none c61) (.pr .s (.pr (.sl (some 9) .s) (.pr (.sl (some 9) .s) (.pr (.sl none c77) (.pr (.sl (some 80) c79) (.sl (some 5) (.i .u8))))))))) (.pr (.pr (.sl none (.i .u64)) (.pr (.i .u64) (.pr (.i .u64) (.pr (.i .u64) (.pr (.i .u64) (.pr (.i .u64) (.pr (.i .u64) (.i .u64)))))))) (.sl none (.i .u8))))]⟩ (.blk (.lp ⟨[0, 56, 57], [0], [.sl 58 false (.i .i64), .bx (.at_ 0 []) 70 (.pr (.pr (.pr (.i .i64) (.pr (.i .u64) (.pr (.i .u64) (.i .i64)))) (.pr (.sl none c61) (.pr .s (.pr (.sl (some 9) .s) (.pr (.sl (some 9) .s) (.pr (.sl none c77) (.pr (.sl (some 80) c79) (.sl (some 5) (.i .u8))))))))) (.pr (.pr (.sl none (.i .u64)) (.pr (.i .u64) (.pr (.i .u64) (.pr (.i .u64) (.pr (.i .u64) (.pr (.i .u64) (.pr (.i .u64) (.i .u64)))))))) (.sl none (.i .u8))))]⟩ (sNN (.seq (.cond .skip .exit) (.seq (.blk (sNN (.seq (.drw 13 [oNN, .op [0] [0] [], .op [0, 1] [0, 1] [], .op [0, 1, 2] [0, 1, 2] [], oNN, .op [4] [] [], .op [5] [] [], .op [0, 1, 2, 3, 6] [0, 1, 2, 3, 6] [], .op [0, 1, 2, 3, 6, 7] [0, 1, 2, 3, 6, 7] [], .op [0, 1, 2, 3, 6, 7, 8] [] [], .op [0, 1, 2, 3, 6, 7, 8] [] [], .op [9] [] [], .op [10] [] []] (.h 7 (.cl 3 true) .nil)) (.seq (sNN (.cond (sNN .ret) .skip)) rNN)))) rNN)))))))) (sNN .ret))))))))))
 (cts := [ct_image_reader_at, ct_symbols_Table, ct_symbols_Check, ct_names_At]) tbOk mixed ⟨image_reader_at_ok, symbols_Table_ok, symbols_Check_ok, names_At_ok, trivial⟩ Tryz.func21 rfl Tryz.ntmps21 (by kernel_rfl) (by kernel_rfl) (by kernel_rfl)
def ct_rela_Table : Ct := ⟨57, [.v false (.sl none (.i .u8))], [.val false (.sl (some 80) c79), .val false (.i .i64)], fun s => rela_Table s.1⟩
theorem rela_Table_ok : Holds Tryz.prog ct_rela_Table := Holds.mk' (N := 64) (sc := sNN (.seq (sNN (.cond (sNN .ret) .skip)) (sNN (.seq (sNN (.jn ⟨[], [], [.sl 4 false (.sl (some 80) c79)]⟩ (.blk (.lp ⟨[0], [], [.sl 4 false (.sl (some 80) c79), .sl 5 false (.i .u64)]⟩ (.seq (sNN (.cond .skip .exit)) (.seq (.blk (.seq (.reg (.h 2 (.cl 0 false) .nil)) (.seq (.reg (.h 3 (.cl 0 false) .nil)) (.seq (.reg (.h 3 (.cl 0 false) .nil)) (.seq (.reg (.h 3 (.cl 0 false) .nil)) rNN))))) (.reg (.h 2 (.nm [24]) .nil)))))))) (sNN .ret)))))
 (cts := [ct_octets_Get]) tbOk mixed ⟨octets_Get_ok, trivial⟩ Tryz.func57 rfl Tryz.ntmps57 (by kernel_rfl) (by kernel_rfl) (by kernel_rfl)
def ct_rela_Value : Ct := ⟨102, [.v false (.i .u32), .v false (.i .u64), .v false (.i .u64), .v false (.i .i64)], [.val false (.i .u64), .val false (.i .i64)], fun s => rela_Value s.1 s.2.1 s.2.2.1 s.2.2.2.1⟩
theorem rela_Value_ok : Holds Tryz.prog ct_rela_Value := Holds.mk' (N := 32) (sc := sNN (.seq (sNN (.blk (sNN (.cond (sNN .ret) (sNN (.cond (sNN .ret) (.seq (sNN (.jn ⟨[2, 3, 10], [], [.sl 19 false .b]⟩ (.cond .skip (sNN (.jn ⟨[2, 3, 10], [], [.sl 19 false .b]⟩ (.cond .skip rNN)))))) (.cond (sNN .ret) (.seq (sNN (.jn ⟨[2, 3], [], [.sl 24 false .b]⟩ (.cond .skip (sNN (.jn ⟨[2, 3], [], [.sl 24 false .b]⟩ (.cond .skip rNN)))))) (.cond (sNN .ret) .skip)))))))))) (sNN .ret)))
 (cts := []) tbOk mixed trivial Tryz.func102 rfl Tryz.ntmps102 (by kernel_rfl) (by kernel_rfl) (by kernel_rfl)
def ct_rela_Check : Ct := ⟨58, [.v false (.sl none c79), .v false (.i .i64)], [.val false (.i .i64)], fun s => rela_Check s.1 s.2.1⟩
theorem rela_Check_ok : Holds Tryz.prog ct_rela_Check := Holds.mk' (N := 51) (sc := sNN (.seq (sNN (.jn ⟨[], [], []⟩ (.blk (.lp ⟨[1, 10, 11], [], [.sl 12 false (.i .i64)]⟩ (sNN (.seq (.cond .skip .exit) (.seq (.blk (sNN (.seq (.seq (.reg (.h 2 (.cl 0 false) .nil)) (sNN (.cond (sNN .ret) .skip))) (.seq (.jn ⟨[1, 6, 10, 11, 12], [], [.sl 9 false .b]⟩ (.reg (.sp 4 .nil (.h 8 (.nm [32]) .nil)))) (.blk (.seq (.jn ⟨[1, 6, 9, 10, 11, 12], [], [.sl 33 false .b]⟩ (.reg (.sp 4 .nil .nil))) (.cond (sNN .ret) (sNN (.cond (sNN .ret) .skip))))))))) rNN))))))) (sNN .ret)))
 (cts := [ct_rela_Value]) tbOk mixed ⟨rela_Value_ok, trivial⟩ Tryz.func58 rfl Tryz.ntmps58 (by kernel_rfl) (by kernel_rfl) (by kernel_rfl)
def ct_image_reader_relocations : Ct := ⟨22, [.p (70, true, .pr (.pr (.pr (.i .i64) (.pr (.i .u64) (.pr (.i .u64) (.i .i64)))) (.pr (.sl none c61) (.pr .s (.pr (.sl (some 9) .s) (.pr (.sl (some 9) .s) (.pr (.sl none c77) (.pr (.sl (some 80) c79) (.sl (some 5) (.i .u8))))))))) (.pr (.pr (.sl none (.i .u64)) (.pr (.i .u64) (.pr (.i .u64) (.pr (.i .u64) (.pr (.i .u64) (.pr (.i .u64) (.pr (.i .u64) (.i .u64)))))))) (.sl none (.i .u8))))], [.val false (.i .i64), .ob 0 70 (.pr (.pr (.pr (.i .i64) (.pr (.i .u64) (.pr (.i .u64) (.i .i64)))) (.pr (.sl none c61) (.pr .s (.pr (.sl (some 9) .s) (.pr (.sl (some 9) .s) (.pr (.sl none c77) (.pr (.sl (some 80) c79) (.sl (some 5) (.i .u8))))))))) (.pr (.pr (.sl none (.i .u64)) (.pr (.i .u64) (.pr (.i .u64) (.pr (.i .u64) (.pr (.i .u64) (.pr (.i .u64) (.pr (.i .u64) (.i .u64)))))))) (.sl none (.i .u8))))], fun s => image_reader_relocations s.1⟩
theorem image_reader_relocations_ok : Holds Tryz.prog ct_image_reader_relocations := Holds.mk' (N := 53) (sc := sNN (sNN (.seq (sNN (.cond (sNN .ret) .skip)) (.seq (sNN (.cond (sNN .ret) .skip)) (.seq (.reg (.h 7 (.cl 0 true) .nil)) (.seq (sNN (.cond (sNN .ret) .skip)) (.seq (.seq (.reg (.h 2 (.cl 1 true) .nil)) (sNN (.cond (sNN .ret) .skip))) (.seq (.drw 13 [oNN, .op [0] [0] [], .op [0, 1] [0, 1] [], .op [0, 1, 2] [0, 1, 2] [], .op [0, 1, 2, 3] [0, 1, 2, 3] [], oNN, .op [5] [5] [], .op [5, 6] [5, 6] [], .op [5, 6, 7] [5, 6, 7] [], .op [5, 6, 7, 8] [5, 6, 7, 8] [], .op [5, 6, 7, 8, 9] [] [], .op [0, 1, 2, 3, 4, 10] [] [], .op [11] [] []] (.h 11 (.cl 2 true) .nil)) .ret))))))))
 (cts := [ct_image_reader_at, ct_rela_Table, ct_rela_Check]) tbOk mixed ⟨image_reader_at_ok, rela_Table_ok, rela_Check_ok, trivial⟩ Tryz.func22 rfl Tryz.ntmps22 (by kernel_rfl) (by kernel_rfl) (by kernel_rfl)
def ct_image_reader_loaded_1 : Ct := ⟨104, [.v true c61, .p (24, false, .i .u64)], [.val false .b], fun s => image_reader_loaded_1 s.1 s.2.1⟩
theorem image_reader_loaded_1_ok : Holds Tryz.prog ct_image_reader_loaded_1 := Holds.mk' (N := 32) (sc := sNN (.seq (.jn ⟨[], [], [.sl 3 false .b]⟩ (.reg (.sp 4 (.sp 10 (.sp 19 .nil .nil) .nil) .nil))) .ret))
 (cts := []) tbOk mixed trivial Tryz.func104 rfl Tryz.ntmps104 (by kernel_rfl) (by kernel_rfl) (by kernel_rfl)
def ct_slices_IndexFunc_api_Seg_api_Seg_reader_loaded_1 : Ct := ⟨48, [.v false (.sl none c61), .fn 104 [(24, false, .i .u64)]], [.val false (.i .i64)], fun s => slices_IndexFunc_api_Seg_api_Seg_reader_loaded_1 s.1 s.2.1.1⟩
theorem slices_IndexFunc_api_Seg_api_Seg_reader_loaded_1_ok : Holds Tryz.prog ct_slices_IndexFunc_api_Seg_api_Seg_reader_loaded_1 := Holds.mk' (N := 19) (sc := sNN (.seq (sNN (.jn ⟨[], [], []⟩ (.blk (.lp ⟨[0, 1, 7], [], [.sl 8 false (.i .i64)]⟩ (sNN (.seq (.cond .skip .exit) (.seq (.blk (sNN (.seq (.reg (.h 5 (.cl 0 false) .nil)) (.cond (sNN .ret) .skip)))) rNN))))))) (sNN .ret)))
 (cts := [ct_image_reader_loaded_1]) tbOk mixed ⟨image_reader_loaded_1_ok, trivial⟩ Tryz.func48 rfl Tryz.ntmps48 (by kernel_rfl) (by kernel_rfl) (by kernel_rfl)
def ct_slices_ContainsFunc_api_Seg_api_Seg_reader_loaded_1 : Ct := ⟨103, [.v false (.sl none c61), .fn 104 [(24, false, .i .u64)]], [.val false .b], fun s => slices_ContainsFunc_api_Seg_api_Seg_reader_loaded_1 s.1 s.2.1.1⟩
theorem slices_ContainsFunc_api_Seg_api_Seg_reader_loaded_1_ok : Holds Tryz.prog ct_slices_ContainsFunc_api_Seg_api_Seg_reader_loaded_1 := Holds.mk' (N := 9) (sc := sNN (.seq (.reg (.h 2 (.cl 0 false) .nil)) .ret))
 (cts := [ct_slices_IndexFunc_api_Seg_api_Seg_reader_loaded_1]) tbOk mixed ⟨slices_IndexFunc_api_Seg_api_Seg_reader_loaded_1_ok, trivial⟩ Tryz.func103 rfl Tryz.ntmps103 (by kernel_rfl) (by kernel_rfl) (by kernel_rfl)
def ct_image_reader_loaded : Ct := ⟨59, [.p (70, false, c69), .v false (.i .u64)], [.val false .b], fun s => image_reader_loaded s.1 s.2.1⟩
theorem image_reader_loaded_ok : Holds Tryz.prog ct_image_reader_loaded := Holds.mk' (N := 12) (sc := sNN (.seq (.reg (.h 6 (.cl 0 true) .nil)) .ret))
 (cts := [ct_slices_ContainsFunc_api_Seg_api_Seg_reader_loaded_1]) tbOk mixed ⟨slices_ContainsFunc_api_Seg_api_Seg_reader_loaded_1_ok, trivial⟩ Tryz.func59 rfl Tryz.ntmps59 (by kernel_rfl) (by kernel_rfl) (by kernel_rfl)
def ct_image_reader_sound : Ct := ⟨23, [.p (70, false, c69)], [.val false (.i .i64)], fun s => image_reader_sound s.1⟩
theorem image_reader_sound_ok : Holds Tryz.prog ct_image_reader_sound := Holds.mk' (N := 71) (sc := sNN (.seq (sNN (.jn ⟨[0], [], []⟩ (.blk (.lp ⟨[0, 13, 14], [], [.sl 15 false (.i .i64)]⟩ (sNN (.seq (.cond .skip .exit) (.seq (.blk (sNN (.seq (.jn ⟨[0, 13, 14, 15], [], [.sl 28 false .b]⟩ (.reg (.sp 4 (.h 7 (.cl 0 false) .nil) .nil))) (.cond (sNN .ret) .skip)))) rNN))))))) (.seq (.reg (.h 5 (.cl 1 false) .nil)) (.seq (sNN (.jn ⟨[], [], []⟩ (.blk (.lp ⟨[5, 6, 43, 44], [], [.sl 45 false (.i .i64)]⟩ (sNN (.seq (.cond .skip .exit) (.seq (.jn ⟨[5, 6, 43, 44, 45], [], []⟩ (.blk (sNN (.jn ⟨[5, 6, 43, 44, 45], [], []⟩ (.blk (.seq (.reg (.h 1 (.cl 2 false) .nil)) (.jn ⟨[5, 6, 43, 44, 45], [], []⟩ (.cond .skip (.seq (.reg (.h 1 (.cl 3 false) .nil)) (.jn ⟨[5, 6, 43, 44, 45], [], []⟩ (.cond (.seq (.jn ⟨[5, 6, 43, 44, 45], [], [.sl 65 false .b]⟩ (.reg (.sp 3 .nil .nil))) (.cond (sNN .ret) .skip)) (sNN (.cond (sNN .ret) .skip))))))))))))) rNN))))))) (sNN .ret)))))
 (cts := [ct_image_reader_loaded, ct_segs_Find, ct_symbols_Defined, ct_symbols_Kind]) tbOk mixed ⟨image_reader_loaded_ok, segs_Find_ok, symbols_Defined_ok, symbols_Kind_ok, trivial⟩ Tryz.func23 rfl Tryz.ntmps23 (by kernel_rfl) (by kernel_rfl) (by kernel_rfl)
def ct_image_Parse : Ct := ⟨8, [.v false (.sl none (.i .u8))], [.val true (.pr (.pr (.i .i64) (.pr (.i .u64) (.pr (.i .u64) (.i .i64)))) (.pr (.sl none c61) (.pr .s (.pr (.sl (some 9) .s) (.pr (.sl (some 9) .s) (.pr (.sl none c77) (.pr (.sl (some 80) c79) (.sl (some 5) (.i .u8))))))))), .val false (.i .i64)], fun s => image_Parse s.1⟩
def sr_image_Parse : Sc := sNN (.seq (.cond .skip .exit) (.seq (.blk (.seq (.reg (.h 0 (.fi) .nil)) (.seq (.reg (.h 1 (.cs [(3, false), (4, false), (5, false), (6, true)]) .nil)) (sNN (.cond (sNN .ret) .skip))))) rNN))
theorem image_Parse_ok : Holds Tryz.prog ct_image_Parse := Holds.mk' (N := 64) (sc := sNN (.seq (sNN (.cond (sNN .ret) .skip)) (.seq (.reg (.h 1 (.cs [(0, false)]) .nil)) (.seq (.seq (.reg (.h 1 (.cs [(1, false)]) .nil)) (sNN (.cond (sNN .ret) .skip))) (sNN (.seq (.seq (.reg (.h 5 (.cs [(2, false)]) .nil)) (sNN (.cond (.reg (.h 5 (.fb) .nil)) .skip))) (.nil 6 (.seq (.seq (.reg (.h 3 (.fb) (.h 4 (.fa) .nil))) (.jn ⟨[2, 4], [], []⟩ (.blk (.lpu sr_image_Parse (.lpu sr_image_Parse (.lpu sr_image_Parse (.lpu sr_image_Parse (.lpu sr_image_Parse (.lpu sr_image_Parse .no))))))))) (sNN .ret)) (.seq (.seq (.reg (.h 3 (.fb) (.h 4 (.fa) .nil))) (.fz [.at_ 4 []] (.jn ⟨[2, 4], [], [.bx (.at_ 4 [0]) 70 (.pr (.pr (.pr (.i .i64) (.pr (.i .u64) (.pr (.i .u64) (.i .i64)))) (.pr (.sl none c61) (.pr .s (.pr (.sl (some 9) .s) (.pr (.sl (some 9) .s) (.pr (.sl none c77) (.pr (.sl (some 80) c79) (.sl (some 5) (.i .u8))))))))) (.pr (.pr (.sl none (.i .u64)) (.pr (.i .u64) (.pr (.i .u64) (.pr (.i .u64) (.pr (.i .u64) (.pr (.i .u64) (.pr (.i .u64) (.i .u64)))))))) (.sl none (.i .u8))))]⟩ (.blk (.lpu sr_image_Parse (.lpu sr_image_Parse (.lpu sr_image_Parse (.lpu sr_image_Parse (.lpu sr_image_Parse (.lpu sr_image_Parse .no)))))))))) (sNN .ret)))))))))
 (cts := [ct_slices_Clone_byte_byte, ct_image_reader_shape, ct_segs_Find, ct_image_Parse_1_b, ct_image_reader_symbols, ct_image_reader_relocations, ct_image_reader_sound]) tbOk mixed ⟨slices_Clone_byte_byte_ok, image_reader_shape_ok, segs_Find_ok, image_Parse_1_b_ok, image_reader_symbols_ok, image_reader_relocations_ok, image_reader_sound_ok, trivial⟩ Tryz.func8 rfl Tryz.ntmps8 (by kernel_rfl) (by kernel_rfl) (by kernel_rfl)
def ct_law09_awake : Ct := ⟨7, [], [.val false .b], fun s => law09_awake⟩
theorem law09_awake_ok : Holds Tryz.prog ct_law09_awake := Holds.mk' (N := 42) (sc := sNN (.seq (.reg (.h 1 (.cl 0 false) .nil)) (.seq (.reg (.h 1 (.cl 1 false) .nil)) (.seq (.reg (.h 0 (.cl 1 false) .nil)) (.seq (.jn ⟨[], [], [.sl 0 false .b]⟩ (.reg (.sp 3 (.sp 8 (.sp 12 (.sp 18 .nil .nil) .nil) .nil) .nil))) .ret)))))
 (cts := [ct_image_Build, ct_image_Parse]) tbOk mixed ⟨image_Build_ok, image_Parse_ok, trivial⟩ Tryz.func7 rfl Tryz.ntmps7 (by kernel_rfl) (by kernel_rfl) (by kernel_rfl)
def ct_ref01_width : Ct := ⟨130, [.v false (.i .i64)], [.val false .b], fun s => ref01_width s.1⟩
theorem ref01_width_ok : Holds Tryz.prog ct_ref01_width := Holds.mk' (N := 17) (sc := sNN (.seq (.jn ⟨[], [], [.sl 2 false .b]⟩ (.reg (.sp 3 .nil (.sp 7 .nil (.sp 11 .nil .nil))))) .ret))
 (cts := []) tbOk mixed trivial Tryz.func130 rfl Tryz.ntmps130 (by kernel_rfl) (by kernel_rfl) (by kernel_rfl)
def ct_ref01_Inside : Ct := ⟨131, [.v false (.i .i64), .v false (.i .u64), .v false (.i .u64)], [.val false .b], fun s => ref01_Inside s.1 s.2.1 s.2.2.1⟩
theorem ref01_Inside_ok : Holds Tryz.prog ct_ref01_Inside := Holds.mk' (N := 17) (sc := sNN (.seq (sNN (.cond (sNN .ret) .skip)) (sNN .ret)))
 (cts := []) tbOk mixed trivial Tryz.func131 rfl Tryz.ntmps131 (by kernel_rfl) (by kernel_rfl) (by kernel_rfl)
def ct_ref01_Get : Ct := ⟨105, [.v false (.sl none (.i .u8)), .v false (.i .u64), .v false (.i .i64)], [.val false (.i .u64), .val false (.i .i64)], fun s => ref01_Get s.1 s.2.1 s.2.2.1⟩
theorem ref01_Get_ok : Holds Tryz.prog ct_ref01_Get := Holds.mk' (N := 41) (sc := sNN (.seq (.reg (.h 1 (.cl 0 false) .nil)) (.seq (sNN (.cond (sNN .ret) .skip)) (.seq (.reg (.h 5 (.cl 1 false) .nil)) (.seq (sNN (.cond (sNN .ret) .skip)) (sNN (.seq (.seq (.reg (.h 2 (.nm [24]) .nil)) (.jn ⟨[], [], [.sl 9 false (.i .u64)]⟩ (.blk (.lp ⟨[0, 1], [], [.sl 9 false (.i .u64), .sl 10 false (.i .i64)]⟩ (.seq (sNN (.cond .skip .exit)) (.seq (.blk (.reg (.h 11 (.nm [39]) .nil))) (.reg (.h 2 (.nm [28]) .nil)))))))) (sNN .ret))))))))
 (cts := [ct_ref01_width, ct_ref01_Inside]) tbOk mixed ⟨ref01_width_ok, ref01_Inside_ok, trivial⟩ Tryz.func105 rfl Tryz.ntmps105 (by kernel_rfl) (by kernel_rfl) (by kernel_rfl)
def ct_ref03_number : Ct := ⟨85, [.v false (.sl (some 5) (.i .u8)), .v false (.i .u64), .v false (.i .i64)], [.val false (.sl (some 5) (.i .u8))], fun s => ref03_number s.1 s.2.1 s.2.2.1⟩
theorem ref03_number_ok : Holds Tryz.prog ct_ref03_number := Holds.mk' (N := 22) (sc := sNN (.seq (sNN (.jn ⟨[], [], [.sl 0 false (.sl (some 5) (.i .u8))]⟩ (.blk (.lp ⟨[2], [], [.sl 0 false (.sl (some 5) (.i .u8)), .sl 1 false (.i .u64), .sl 7 false (.i .i64)]⟩ (.seq (sNN (.cond .skip .exit)) (.seq (.blk (sNN (.reg (.h 2 (.nm [20]) .nil)))) (.reg (.h 2 (.nm [12]) .nil)))))))) (sNN .ret)))
 (cts := []) tbOk mixed trivial Tryz.func85 rfl Tryz.ntmps85 (by kernel_rfl) (by kernel_rfl) (by kernel_rfl)
def ct_ref03_Put : Ct := ⟨40, [.v true c25], [.val false (.sl (some 5) (.i .u8)), .val false (.i .i64)], fun s => ref03_Put s.1⟩
theorem ref03_Put_ok : Holds Tryz.prog ct_ref03_Put := Holds.mk' (N := 54) (sc := sNN (.seq (.seq (.jn ⟨[1], [], [.sl 22 false .b]⟩ (.reg (.sp 4 .nil (.sp 9 .nil (.sp 14 .nil .nil))))) (.cond (sNN .ret) .skip)) (sNN (.seq (.reg (.h 4 (.cl 0 false) .nil)) (.seq (.reg (.h 1 (.cl 0 false) .nil)) (.seq (.reg (.h 1 (.cl 0 false) .nil)) (.seq (.reg (.h 3 (.cl 0 false) .nil)) (.seq (.reg (.h 3 (.cl 0 false) .nil)) (.seq (.reg (.h 1 (.cl 0 false) .nil)) (.seq (.reg (.h 1 (.cl 0 false) .nil)) (.seq (.reg (.h 1 (.cl 0 false) .nil)) (.seq (.reg (.h 4 (.cl 0 false) .nil)) (.seq (.reg (.h 1 (.cl 0 false) .nil)) .ret)))))))))))))
 (cts := [ct_ref03_number]) tbOk mixed ⟨ref03_number_ok, trivial⟩ Tryz.func40 rfl Tryz.ntmps40 (by kernel_rfl) (by kernel_rfl) (by kernel_rfl)
def ct_ref03_Get : Ct := ⟨62, [.v false (.sl none (.i .u8))], [.val true c25, .val false (.i .i64)], fun s => ref03_Get s.1⟩
theorem ref03_Get_ok : Holds Tryz.prog ct_ref03_Get := Holds.mk' (N := 60) (sc := sNN (.seq (sNN (.cond (sNN .ret) .skip)) (sNN (.seq (.reg (.h 1 (.cl 0 false) .nil)) (sNN (.seq (.reg (.h 1 (.cl 0 false) .nil)) (.seq (.reg (.h 1 (.cl 0 false) .nil)) (.seq (.reg (.h 1 (.cl 0 false) .nil)) (sNN (.seq (.reg (.h 1 (.cl 1 false) .nil)) (.seq (.seq (.jn ⟨[2, 4], [], [.sl 57 false .b]⟩ (.drw 10 [oNN, .op [0] [] [], .op [1] [] [], .op [2] [2] [], .op [2, 3] [] [], .op [2] [2] [], .op [2, 5] [2, 5] [], .op [2, 5, 6] [] [], .op [2, 4, 7] [] [], .op [2, 8] [] []] (.sp 3 .nil .nil))) (.cond (sNN .ret) .skip)) (sNN .ret))))))))))))
 (cts := [ct_ref01_Get, ct_ref03_Put]) tbOk mixed ⟨ref01_Get_ok, ref03_Put_ok, trivial⟩ Tryz.func62 rfl Tryz.ntmps62 (by kernel_rfl) (by kernel_rfl) (by kernel_rfl)
def ct_ref01_Cut : Ct := ⟨106, [.v false (.sl none (.i .u8)), .v false (.i .u64), .v false (.i .u64)], [.val false (.sl (some 5) (.i .u8)), .val false (.i .i64)], fun s => ref01_Cut s.1 s.2.1 s.2.2.1⟩
theorem ref01_Cut_ok : Holds Tryz.prog ct_ref01_Cut := Holds.mk' (N := 33) (sc := sNN (.seq (.reg (.h 4 (.cl 0 false) .nil)) (.seq (sNN (.cond (sNN .ret) .skip)) (sNN (.seq (sNN (.jn ⟨[], [], [.sl 9 false (.sl (some 5) (.i .u8))]⟩ (.blk (.lp ⟨[0, 1, 2], [], [.sl 9 false (.sl (some 5) (.i .u8)), .sl 10 false (.i .u64)]⟩ (.seq (sNN (.cond .skip .exit)) (.seq (.blk rNN) (.reg (.h 2 (.nm [22]) .nil)))))))) (sNN .ret))))))
 (cts := [ct_ref01_Inside]) tbOk mixed ⟨ref01_Inside_ok, trivial⟩ Tryz.func106 rfl Tryz.ntmps106 (by kernel_rfl) (by kernel_rfl) (by kernel_rfl)
def ct_ref04_at : Ct := ⟨132, [.v false (.sl none (.i .u8)), .v false (.i .u64), .v false (.i .i64)], [.val false (.i .u64)], fun s => ref04_at s.1 s.2.1 s.2.2.1⟩
theorem ref04_at_ok : Holds Tryz.prog ct_ref04_at := Holds.mk' (N := 17) (sc := sNN (.seq (.reg (.h 3 (.cl 0 false) .nil)) (sNN .ret)))
 (cts := [ct_ref01_Get]) tbOk mixed ⟨ref01_Get_ok, trivial⟩ Tryz.func132 rfl Tryz.ntmps132 (by kernel_rfl) (by kernel_rfl) (by kernel_rfl)
def ct_ref04_Get : Ct := ⟨107, [.v false (.sl none (.i .u8))], [.val true c61, .val false (.i .i64)], fun s => ref04_Get s.1⟩
theorem ref04_Get_ok : Holds Tryz.prog ct_ref04_Get := Holds.mk' (N := 31) (sc := sNN (.seq (sNN (.cond (sNN .ret) .skip)) (.seq (.seq (.reg (.h 1 (.cl 0 false) (.h 3 (.cl 0 false) .nil))) (.cond (sNN .ret) .skip)) (.seq (.reg (.h 1 (.cl 0 false) (.h 4 (.cl 0 false) (.h 7 (.cl 0 false) (.h 9 (.cl 0 false) (.h 11 (.cl 0 false) (.h 13 (.cl 0 false) (.h 15 (.cl 0 false) .nil)))))))) .ret))))
 (cts := [ct_ref04_at]) tbOk mixed ⟨ref04_at_ok, trivial⟩ Tryz.func107 rfl Tryz.ntmps107 (by kernel_rfl) (by kernel_rfl) (by kernel_rfl)
def ct_ref04_Table : Ct := ⟨63, [.v false (.sl none (.i .u8)), .v false (.i .u64), .v false (.i .i64)], [.val false (.sl (some 62) c61), .val false (.i .i64)], fun s => ref04_Table s.1 s.2.1 s.2.2.1⟩
theorem ref04_Table_ok : Holds Tryz.prog ct_ref04_Table := Holds.mk' (N := 56) (sc := sNN (.seq (.seq (.jn ⟨[0, 1, 2], [], [.sl 19 false .b]⟩ (.reg (.sp 3 .nil .nil))) (.cond (sNN .ret) .skip)) (.seq (.reg (.h 5 (.cl 0 false) .nil)) (.seq (sNN (.cond (sNN .ret) .skip)) (sNN (.seq (sNN (.fz [.at_ 8 []] (.jn ⟨[], [], [.sl 10 false (.sl (some 62) c61)]⟩ (.blk (.fz [.at_ 8 []] (.lp ⟨[2, 8], [], [.sl 10 false (.sl (some 62) c61), .sl 11 false (.i .i64)]⟩ (.seq (sNN (.cond .skip .exit)) (.seq (.blk (.seq (.reg (.h 7 (.cl 1 false) .nil)) (.seq (sNN (.cond (sNN .ret) .skip)) rNN))) (.reg (.h 2 (.nm [36]) .nil)))))))))) (sNN .ret)))))))
 (cts := [ct_ref01_Cut, ct_ref04_Get]) tbOk mixed ⟨ref01_Cut_ok, ref04_Get_ok, trivial⟩ Tryz.func63 rfl Tryz.ntmps63 (by kernel_rfl) (by kernel_rfl) (by kernel_rfl)
def ct_ref04_alone : Ct := ⟨108, [.v true c61, .v false (.i .u64)], [.val false (.i .i64)], fun s => ref04_alone s.1 s.2.1⟩
theorem ref04_alone_ok : Holds Tryz.prog ct_ref04_alone := Holds.mk' (N := 82) (sc := sNN (.seq (.seq (.jn ⟨[1, 2], [], [.sl 32 false .b]⟩ (.reg (.sp 4 (.sp 9 (.sp 14 (.sp 19 (.sp 24 .nil .nil) .nil) .nil) .nil) .nil))) (.cond (sNN .ret) .skip)) (.seq (sNN (.cond (sNN .ret) .skip)) (.seq (.seq (.jn ⟨[2], [], [.sl 48 false .b]⟩ (.reg (.sp 5 .nil .nil))) (.cond (sNN .ret) .skip)) (.seq (sNN (.cond (sNN .ret) .skip)) (.seq (.seq (.jn ⟨[2], [], [.sl 64 false .b]⟩ (.reg (.sp 4 .nil .nil))) (.cond (sNN .ret) .skip)) (.seq (.seq (.jn ⟨[], [], [.sl 81 false .b]⟩ (.reg (.sp 4 (.sp 12 .nil .nil) .nil))) (.cond (sNN .ret) .skip)) (sNN .ret))))))))
 (cts := []) tbOk mixed trivial Tryz.func108 rfl Tryz.ntmps108 (by kernel_rfl) (by kernel_rfl) (by kernel_rfl)
def ct_ref04_First : Ct := ⟨109, [.v true c61], [.val false (.i .u64)], fun s => ref04_First s.1⟩
theorem ref04_First_ok : Holds Tryz.prog ct_ref04_First := Holds.mk' (N := 7) (sc := sNN (sNN .ret))
 (cts := []) tbOk mixed trivial Tryz.func109 rfl Tryz.ntmps109 (by kernel_rfl) (by kernel_rfl) (by kernel_rfl)
def ct_ref04_Behind : Ct := ⟨110, [.v true c61], [.val false (.i .u64)], fun s => ref04_Behind s.1⟩
theorem ref04_Behind_ok : Holds Tryz.prog ct_ref04_Behind := Holds.mk' (N := 11) (sc := sNN (sNN .ret))
 (cts := []) tbOk mixed trivial Tryz.func110 rfl Tryz.ntmps110 (by kernel_rfl) (by kernel_rfl) (by kernel_rfl)
def ct_ref04_Check : Ct := ⟨64, [.v false (.sl none c61), .v false (.i .u64)], [.val false (.i .i64)], fun s => ref04_Check s.1 s.2.1⟩
theorem ref04_Check_ok : Holds Tryz.prog ct_ref04_Check := Holds.mk' (N := 189) (sc := sNN (.seq (sNN (.jn ⟨[0], [], []⟩ (.blk (.lp ⟨[0, 1], [], [.sl 5 false (.i .i64)]⟩ (.seq (sNN (.cond .skip .exit)) (.seq (.jn ⟨[0, 1, 5], [], []⟩ (.blk (.seq (.reg (.h 5 (.cl 0 false) .nil)) (.seq (sNN (.cond (sNN .ret) .skip)) (.seq (.reg (.h 2 (.nm [27]) .nil)) (.jn ⟨[0, 1, 5], [], []⟩ (.blk (.lp ⟨[0, 1, 5], [], [.sl 7 false (.i .i64)]⟩ (.seq (sNN (.cond .skip .exit)) (.seq (.blk (.seq (.seq (.jn ⟨[0, 1, 5, 7], [], [.sl 45 false .b]⟩ (.reg (.sp 7 .nil .nil))) (.cond (.seq (.seq (.drw 11 [oNN, oNN, .op [0, 1] [0, 1] [], .op [0, 1, 2] [0, 1, 2] [], .op [0, 1, 2, 3] [] [], oNN, oNN, .op [5, 6] [5, 6] [], .op [5, 6, 7] [5, 6, 7] [], .op [5, 6, 7, 8] [] [], .op [4, 9] [] []] (.h 4 (.cl 1 true) (.h 9 (.cl 2 true) .nil))) (.cond (sNN .ret) .skip)) .exit) .skip)) (.seq (.jn ⟨[0, 1, 5, 7], [], [.sl 83 false .b]⟩ (.drw 27 [oNN, oNN, .op [0, 1] [0, 1] [], .op [0, 1, 2] [0, 1, 2] [], .op [0, 1, 2, 3] [] [], oNN, oNN, .op [5, 6] [5, 6] [], .op [5, 6, 7] [5, 6, 7] [], .op [5, 6, 7, 8] [] [], .op [4, 9] [] [], .op [10] [] [], .op [11] [11] [], .op [11] [] [], .op [11, 12, 13] [11, 12, 13] [], .op [11, 12, 13, 14] [11, 12, 13, 14] [], .op [11, 12, 13, 14, 15] [] [], .op [11, 16] [] [], .op [11, 17] [] [], .op [18] [18] [], .op [18] [] [], .op [18, 19, 20] [18, 19, 20] [], .op [18, 19, 20, 21] [18, 19, 20, 21] [], .op [18, 19, 20, 21, 22] [] [], .op [18, 23] [] [], .op [11, 18, 24] [] [], .op [11, 25] [] []] (.sp 12 (.sp 19 .nil .nil) .nil))) (.cond (sNN .ret) .skip)))) (.reg (.h 2 (.nm [31]) .nil)))))))))))) (.reg (.h 2 (.nm [16]) .nil)))))))) (.seq (sNN (.jn ⟨[], [], []⟩ (.blk (.lp ⟨[0], [], [.sl 8 false (.i .i64)]⟩ (.seq (sNN (.cond .skip .exit)) (.seq (.jn ⟨[0, 8], [], []⟩ (.blk (.seq (.seq (.jn ⟨[0, 8], [], [.sl 111 false .b]⟩ (.reg (.sp 7 (.sp 15 .nil .nil) .nil))) (.cond .exit .skip)) (sNN (.seq (sNN (.jn ⟨[0, 8], [], [.sl 9 false .b]⟩ (.blk (.lp ⟨[0, 8], [], [.sl 9 false .b, .sl 10 false (.i .i64)]⟩ (.seq (sNN (.cond .skip .exit)) (.seq (.jn ⟨[0, 8, 10], [], [.sl 9 false .b]⟩ (.blk (.seq (.jn ⟨[0, 8, 9, 10], [], [.sl 186 false .b]⟩ (.drw 69 [oNN, oNN, .op [0, 1] [0, 1] [], .op [0, 1, 2] [0, 1, 2] [], .op [0, 1, 2, 3] [] [], .op [4] [] [], .op [5] [] [], .op [6] [6] [], .op [6] [] [], .op [6, 7, 8] [6, 7, 8] [], .op [6, 7, 8, 9] [6, 7, 8, 9] [], .op [6, 7, 8, 9, 10] [] [], .op [6] [6] [], .op [6] [] [], .op [6, 12, 13] [6, 12, 13] [], .op [6, 12, 13, 14] [6, 12, 13, 14] [], .op [6, 12, 13, 14, 15] [] [], .op [6, 11, 16] [] [], .op [6, 17] [] [], .op [18] [] [], .op [19] [19] [], .op [19] [] [], .op [19, 20, 21] [19, 20, 21] [], .op [19, 20, 21, 22] [19, 20, 21, 22] [], .op [19, 20, 21, 22, 23] [] [], .op [19] [19] [], .op [19] [] [], .op [19, 25, 26] [19, 25, 26] [], .op [19, 25, 26, 27] [19, 25, 26, 27] [], .op [19, 25, 26, 27, 28] [] [], .op [19, 24, 29] [] [], .op [19] [19] [], .op [19] [] [], .op [19, 31, 32] [19, 31, 32] [], .op [19, 31, 32, 33] [19, 31, 32, 33] [], .op [19, 31, 32, 33, 34] [] [], .op [19] [19] [], .op [19] [] [], .op [19, 36, 37] [19, 36, 37] [], .op [19, 36, 37, 38] [19, 36, 37, 38] [], .op [19, 36, 37, 38, 39] [] [], .op [19, 35, 40] [] [], .op [19, 30, 41] [] [], .op [19, 42] [] [], .op [43] [] [], .op [44] [44] [], .op [44] [] [], .op [44, 45, 46] [44, 45, 46] [], .op [44, 45, 46, 47] [44, 45, 46, 47] [], .op [44, 45, 46, 47, 48] [] [], .op [44] [44] [], .op [44] [] [], .op [44, 50, 51] [44, 50, 51] [], .op [44, 50, 51, 52] [44, 50, 51, 52] [], .op [44, 50, 51, 52, 53] [] [], .op [44, 49, 54] [] [], .op [44] [44] [], .op [44] [] [], .op [44, 56, 57] [44, 56, 57] [], .op [44, 56, 57, 58] [44, 56, 57, 58] [], .op [44, 56, 57, 58, 59] [] [], .op [44] [44] [], .op [44] [] [], .op [44, 61, 62] [44, 61, 62] [], .op [44, 61, 62, 63] [44, 61, 62, 63] [], .op [44, 61, 62, 63, 64] [] [], .op [44, 60, 65] [] [], .op [44, 55, 66] [] [], .op [44, 67] [] []] (.sp 7 (.sp 20 (.sp 45 .nil .nil) .nil) .nil))) (.jn ⟨[0, 8, 10], [], [.sl 9 false .b]⟩ (.cond rNN .skip))))) (.reg (.h 2 (.nm [117]) .nil)))))))) (sNN (.cond (sNN .ret) .skip))))))) (.reg (.h 2 (.nm [89]) .nil)))))))) (sNN .ret))))
 (cts := [ct_ref04_alone, ct_ref04_First, ct_ref04_Behind]) tbOk mixed ⟨ref04_alone_ok, ref04_First_ok, ref04_Behind_ok, trivial⟩ Tryz.func64 rfl Tryz.ntmps64 (by kernel_rfl) (by kernel_rfl) (by kernel_rfl)
def ct_ref04_Find : Ct := ⟨65, [.v false (.sl none c61), .v false (.i .u32)], [.val false (.i .i64)], fun s => ref04_Find s.1 s.2.1⟩
theorem ref04_Find_ok : Holds Tryz.prog ct_ref04_Find := Holds.mk' (N := 20) (sc := sNN (.seq (sNN (.jn ⟨[], [], []⟩ (.blk (.lp ⟨[0, 1], [], [.sl 5 false (.i .i64)]⟩ (.seq (sNN (.cond .skip .exit)) (.seq (.blk (sNN (.cond (sNN .ret) .skip))) (.reg (.h 2 (.nm [11]) .nil)))))))) (sNN .ret)))
 (cts := []) tbOk mixed trivial Tryz.func65 rfl Tryz.ntmps65 (by kernel_rfl) (by kernel_rfl) (by kernel_rfl)
def ct_ref05_None : Ct := ⟨133, [], [.val true (.pr (.sl (some 24) (.i .u64)) (.sl (some 24) (.i .u64)))], fun s => ref05_None⟩
theorem ref05_None_ok : Holds Tryz.prog ct_ref05_None := Holds.mk' (N := 3) (sc := sNN (sNN .ret))
 (cts := []) tbOk mixed trivial Tryz.func133 rfl Tryz.ntmps133 (by kernel_rfl) (by kernel_rfl) (by kernel_rfl)
def ct_ref05_Tags : Ct := ⟨84, [], [.val false (.sl (some 24) (.i .u64))], fun s => ref05_Tags⟩
theorem ref05_Tags_ok : Holds Tryz.prog ct_ref05_Tags := Holds.mk' (N := 2) (sc := sNN (sNN .ret))
 (cts := []) tbOk mixed trivial Tryz.func84 rfl Tryz.ntmps84 (by kernel_rfl) (by kernel_rfl) (by kernel_rfl)
def ct_ref05_Get : Ct := ⟨111, [.v false (.sl none (.i .u8))], [.val true (.pr (.sl (some 24) (.i .u64)) (.sl (some 24) (.i .u64))), .val false (.i .i64)], fun s => ref05_Get s.1⟩
theorem ref05_Get_ok : Holds Tryz.prog ct_ref05_Get := Holds.mk' (N := 105) (sc := sNN (.seq (.reg (.h 0 (.cl 0 false) .nil)) (sNN (.seq (sNN (.jn ⟨[2, 4, 5], [], [.rw (.at_ 5 []) 4 .b, .bx (.at_ 4 []) 100 (.pr (.sl (some 24) (.i .u64)) (.sl (some 24) (.i .u64)))]⟩ (.blk (.lp ⟨[0, 2, 4, 5], [], [.sl 6 false (.i .u64), .rw (.at_ 5 []) 4 .b, .bx (.at_ 4 []) 100 (.pr (.sl (some 24) (.i .u64)) (.sl (some 24) (.i .u64)))]⟩ (.seq (.jn ⟨[0, 2, 4, 5, 6], [], [.bx (.at_ 4 []) 100 (.pr (.sl (some 24) (.i .u64)) (.sl (some 24) (.i .u64))), .rw (.at_ 5 []) 4 .b]⟩ (.blk (.seq (.reg (.h 3 (.cl 1 false) .nil)) (.seq (sNN (.cond (.seq (.reg (.h 0 (.cl 0 false) .nil)) .ret) .skip)) (.seq (.reg (.h 2 (.cl 2 false) .nil)) (.seq (.reg (.h 3 (.cl 2 false) .nil)) (.seq (sNN (.cond .exit .skip)) (.seq (sNN (.cond (sNN .exit) .skip)) (sNN (.seq (sNN (.jn ⟨[0, 2, 4, 5, 6, 10], [], [.sl 12 false (.i .i64)]⟩ (.blk (.lp ⟨[0, 2, 4, 5, 6, 8, 10], [], [.sl 12 false (.i .i64), .sl 13 false (.i .i64)]⟩ (.seq (sNN (.cond .skip .exit)) (.seq (.jn ⟨[0, 2, 4, 5, 6, 8, 10, 13], [], [.sl 12 false (.i .i64)]⟩ (.blk (.seq (.reg (.h 0 (.cl 3 false) .nil)) (.jn ⟨[0, 2, 4, 5, 6, 8, 10, 13], [], [.sl 12 false (.i .i64)]⟩ (.cond rNN .skip))))) (.reg (.h 2 (.nm [51]) .nil)))))))) (.seq (sNN (.cond (.seq (.reg (.h 0 (.cl 0 false) .nil)) .ret) .skip)) (.seq (sNN (.cond (.seq (.reg (.h 0 (.cl 0 false) .nil)) .ret) .skip)) (sNN rNN))))))))))))) (.reg (.h 2 (.nm [17]) .nil))))))) (.seq (.seq (.jn ⟨[2, 4], [], [.sl 102 false .b]⟩ (.drw 28 [oNN, .op [0] [0] [], .op [0, 1] [] [], .op [2] [] [], .op [3] [] [], .op [4] [4] [], .op [4, 5] [4, 5] [], .op [4, 5, 6] [] [], .op [4, 7] [] [], .op [4, 8] [] [], .op [9] [] [], .op [10] [10] [], .op [10, 11] [10, 11] [], .op [10, 11, 12] [] [], .op [10] [10] [], .op [10, 14] [10, 14] [], .op [10, 14, 15] [] [], .op [10, 13, 16] [] [], .op [10, 17] [] [], .op [18] [] [], .op [19] [19] [], .op [19, 20] [19, 20] [], .op [19, 20, 21] [] [], .op [19] [19] [], .op [19, 23] [19, 23] [], .op [19, 23, 24] [] [], .op [19, 22, 25] [] [], .op [19, 26] [] []] (.sp 5 .nil (.sp 11 .nil (.sp 20 .nil .nil))))) (.cond (.seq (.reg (.h 0 (.cl 0 false) .nil)) .ret) .skip)) (sNN .ret))))))
 (cts := [ct_ref05_None, ct_ref01_Inside, ct_ref01_Get, ct_ref05_Tags]) tbOk mixed ⟨ref05_None_ok, ref01_Inside_ok, ref01_Get_ok, ref05_Tags_ok, trivial⟩ Tryz.func111 rfl Tryz.ntmps111 (by kernel_rfl) (by kernel_rfl) (by kernel_rfl)
end Dm
