/-
  The shallow forms of the Go functions: plain functions in the Option monad, printed by a program of this repo. No condition.
-/
import Derived.Test.YtmlghbdlhjinaaaPre
namespace Dm
open Go

def strings_Contains (s sub : List UInt8) : Option Bool := match sub with
  | [c] => some (hasB s c)
  | _ => none

/-- dormouse/names.Build -/
def names_Build (p_l : List (List UInt8)) : Option ((List Int) × (List Int) × Int) :=
  jn (fun (_ : Unit) =>
    jn (fun (s3 : (List Int) × (List Int)) =>
      some (s3.1, s3.2, 0)) (fun k2 =>
      loopK (fun (s4 : (List Int) × (List Int) × Int × (List ((List UInt8) × Int))) rec2 =>
        (if (decide (s4.2.2.1 < ((p_l.length : Nat) : Int))) = true then
          gd ((0 : Int) ≤ s4.2.2.1 ∧ s4.2.2.1 < ((p_l.length : Nat) : Int)) <|
          let1 (gt p_l s4.2.2.1) fun s_2 =>
          let1 ((mpGet s4.2.2.2 (s_2 : (List UInt8))).getD 0) fun at_1 =>
          let1 ((mpGet s4.2.2.2 (s_2 : (List UInt8))).isSome) fun there_1 =>
          jn (fun (s5 : (List Int) × Int × (List ((List UInt8) × Int))) =>
            (if (decide (((s5.1.length : Nat) : Int) > 65536)) = true then
              some ([], [], 13)
            else
              gd ((s4.2.1.length + ([s5.2.1] : List Int).length) * 8 ≤ 140737488355328) <|
              rec2 (s5.1, (s4.2.1 ++ ([s5.2.1] : List Int)), IntKind.i64.wrap (s4.2.2.1 + 1), s5.2.2))) (fun k3 =>
            (if (!there_1) = true then
              let1 (IntKind.u64.wrap ((s4.1.length : Nat) : Int)) fun at_2 =>
              gd (s4.1.length + s_2.length ≤ 140737488355328) <|
              gd (((s4.1 ++ ofStr s_2).length + ([0] : List Int).length) * 1 ≤ 140737488355328) <|
              k3 (((s4.1 ++ ofStr s_2) ++ ([0] : List Int)), at_2, (mpPut s4.2.2.2 (s_2 : (List UInt8)) (at_2 : Int)))
            else
              k3 (s4.1, at_1, s4.2.2.2)))
        else
          k2 (s4.1, s4.2.1))) bigF (([0] : List Int), [], 0, (mpPut ([] : List ((List UInt8) × Int)) ([] : (List UInt8)) (0 : Int))))) (fun k1 =>
    loopK (fun (s2 : Int) rec1 =>
      (if (decide (s2 < ((p_l.length : Nat) : Int))) = true then
        gd ((0 : Int) ≤ s2 ∧ s2 < ((p_l.length : Nat) : Int)) <|
        let1 (gt p_l s2) fun s_1 =>
        (strings_Contains s_1 [0]).bind fun z1 =>
        (if (z1) = true then
          some ([], [], 1)
        else
          rec1 (IntKind.i64.wrap (s2 + 1)))
      else
        k1 ())) bigF 0)

/-- slices.Index[[]byte,byte] -/
def slices_Index_byte_byte (p_s : List Int) (p_v : Int) : Option (Int) :=
  jn (fun (_ : Unit) =>
    some (-1)) (fun k1 =>
    loopK (fun (s2 : Int) rec1 =>
      (if (decide (s2 < ((p_s.length : Nat) : Int))) = true then
        gd ((0 : Int) ≤ s2 ∧ s2 < ((p_s.length : Nat) : Int)) <|
        (if (p_v == (gt p_s s2)) = true then
          some s2
        else
          rec1 (IntKind.i64.wrap (s2 + 1)))
      else
        k1 ())) bigF 0)

/-- dormouse/names.At -/
def names_At (table : List Int) (p_at : Int) : Option ((List UInt8) × Int) :=
  (if (decide (p_at ≥ (IntKind.u64.wrap ((table.length : Nat) : Int)))) = true then
    some ([], 10)
  else
    gd ((0 : Int) ≤ p_at ∧ (p_at : Int) ≤ ((table.length : Nat) : Int) ∧ ((table.length : Nat) : Int) ≤ ((table.length : Nat) : Int)) <|
    (slices_Index_byte_byte (cutL table p_at ((table.length : Nat) : Int)) 0).bind fun z1 =>
    (if (decide (z1 < 0)) = true then
      some ([], 11)
    else
      gd ((0 : Int) ≤ 0 ∧ (0 : Int) ≤ z1 ∧ z1 ≤ (((cutL table p_at ((table.length : Nat) : Int)).length : Nat) : Int)) <|
      some (toStr (cutL (cutL table p_at ((table.length : Nat) : Int)) 0 z1), 0)))

/-- dormouse/names.Check -/
def names_Check (table : List Int) : Option (Int) :=
  let1 (((table.length : Nat) : Int)) fun n_1 =>
  jn (fun (s1 : Bool) =>
    (if (s1) = true then
      some 11
    else
      some 0)) (fun k1 =>
    (if (n_1 == 0) = true then
    k1 true
    else
    gd ((0 : Int) ≤ 0 ∧ 0 < ((table.length : Nat) : Int)) <|
    (if ((gt table 0) != 0) = true then
    k1 true
    else
    gd ((0 : Int) ≤ (IntKind.i64.wrap (n_1 - 1)) ∧ (IntKind.i64.wrap (n_1 - 1)) < ((table.length : Nat) : Int)) <|
    k1 ((gt table (IntKind.i64.wrap (n_1 - 1))) != 0))))

/-- dormouse/dormouselaw02.awake -/
def law02_awake  : Option (Bool) :=
  (names_Build ([[97], [98, 99], [97]] : List (List UInt8))).bind fun z1 =>
  (names_At z1.1 3).bind fun z2 =>
  jn (fun (s1 : Bool) =>
    some s1) (fun k1 =>
    (if (z1.2.2 == 0) = true then
    (if ((toStr z1.1) == [0, 97, 0, 98, 99, 0]) = true then
    (if (((z1.2.1.length : Nat) : Int) == 3) = true then
    gd ((0 : Int) ≤ 1 ∧ 1 < ((z1.2.1.length : Nat) : Int)) <|
    (if ((gt z1.2.1 1) == 3) = true then
    gd ((0 : Int) ≤ 2 ∧ 2 < ((z1.2.1.length : Nat) : Int)) <|
    (if ((gt z1.2.1 2) == 1) = true then
    (if (z2.1 == [98, 99]) = true then
    (if (z2.2 == 0) = true then
    (names_Check z1.1).bind fun z3 =>
    (if (z3 == 0) = true then
    (names_Check ([] : List Int)).bind fun z4 =>
    k1 (z4 == 11)
    else
    k1 false)
    else
    k1 false)
    else
    k1 false)
    else
    k1 false)
    else
    k1 false)
    else
    k1 false)
    else
    k1 false)
    else
    k1 false))

/-- dormouse/dormouseref02.At -/
def ref02_At (table : List Int) (p_at : Int) : Option ((List UInt8) × Int) :=
  (if (decide (p_at ≥ (IntKind.u64.wrap ((table.length : Nat) : Int)))) = true then
    some ([], 10)
  else
    let1 (IntKind.i64.wrap p_at) fun i_1 =>
    jn (fun (_ : Unit) =>
      some ([], 11)) (fun k1 =>
      loopK (fun (s2 : Int) rec1 =>
        (if (decide (s2 < ((table.length : Nat) : Int))) = true then
          gd ((0 : Int) ≤ s2 ∧ s2 < ((table.length : Nat) : Int)) <|
          (if ((gt table s2) == 0) = true then
            gd ((0 : Int) ≤ (IntKind.i64.wrap p_at) ∧ (IntKind.i64.wrap p_at : Int) ≤ s2 ∧ s2 ≤ ((table.length : Nat) : Int)) <|
            some (toStr (cutL table (IntKind.i64.wrap p_at) s2), 0)
          else
            let1 (IntKind.i64.wrap (s2 + 1)) fun i_2 =>
            rec1 i_2)
        else
          k1 ())) bigF i_1))

/-- dormouse/dormouseref02.Check -/
def ref02_Check (table : List Int) : Option (Int) :=
  jn (fun (s1 : Bool) =>
    (if (s1) = true then
      some 11
    else
      some 0)) (fun k1 =>
    (if (((table.length : Nat) : Int) == 0) = true then
    k1 true
    else
    gd ((0 : Int) ≤ 0 ∧ 0 < ((table.length : Nat) : Int)) <|
    (if ((gt table 0) != 0) = true then
    k1 true
    else
    gd ((0 : Int) ≤ (IntKind.i64.wrap (((table.length : Nat) : Int) - 1)) ∧ (IntKind.i64.wrap (((table.length : Nat) : Int) - 1)) < ((table.length : Nat) : Int)) <|
    k1 ((gt table (IntKind.i64.wrap (((table.length : Nat) : Int) - 1))) != 0))))

/-- dormouse/dormouselaw02.NamesReads -/
def law02_NamesReads (table : List Int) (p_at : Int) : Option (Bool) :=
  (law02_awake).bind fun z1 =>
  (if (!z1) = true then
    some false
  else
    (names_At table p_at).bind fun z2 =>
    (ref02_At table p_at).bind fun z3 =>
    jn (fun (s1 : Bool) =>
      some s1) (fun k1 =>
      (if (z2.1 == z3.1) = true then
      (if (z2.2 == z3.2) = true then
      (names_Check table).bind fun z4 =>
      (ref02_Check table).bind fun z5 =>
      k1 (z4 == z5)
      else
      k1 false)
      else
      k1 false)))

/-- dormouse/dormouselaw02.long -/
def law02_long (p_l : List (List UInt8)) : Option (Bool) :=
  (if (decide (((p_l.length : Nat) : Int) > 60)) = true then
    some true
  else
    jn (fun (_ : Unit) =>
      some false) (fun k1 =>
      loopK (fun (s2 : Int) rec1 =>
        (if (decide (s2 < ((p_l.length : Nat) : Int))) = true then
          gd ((0 : Int) ≤ s2 ∧ s2 < ((p_l.length : Nat) : Int)) <|
          (if (decide ((((gt p_l s2).length : Nat) : Int) > 2000)) = true then
            some true
          else
            let1 (IntKind.i64.wrap (s2 + 1)) fun i_1 =>
            rec1 i_1)
        else
          k1 ())) bigF 0))

/-- dormouse/dormouseref02.Build -/
def ref02_Build (p_l : List (List UInt8)) : Option ((List Int) × (List Int) × Int) :=
  jn (fun (_ : Unit) =>
    jn (fun (s6 : Int × (List Int) × (List Int)) =>
      (if (decide (s6.1 > 65536)) = true then
        some ([], [], 13)
      else
        some (s6.2.1, s6.2.2, 0))) (fun k4 =>
      loopK (fun (s7 : Int × (List Int) × (List Int) × Int) rec3 =>
        (if (decide (s7.2.2.2 < ((p_l.length : Nat) : Int))) = true then
          jn (fun (s8 : Int × (List Int) × (List Int)) =>
            let1 (IntKind.i64.wrap (s7.2.2.2 + 1)) fun i_2 =>
            rec3 (s8.1, s8.2.1, s8.2.2, i_2)) (fun k5 =>
            gd ((0 : Int) ≤ s7.2.2.2 ∧ s7.2.2.2 < ((p_l.length : Nat) : Int)) <|
            jn (fun (s9 : Int × (List Int) × Int) =>
              gd ((s7.2.2.1.length + ([s9.2.2] : List Int).length) * 8 ≤ 140737488355328) <|
              k5 (s9.1, s9.2.1, (s7.2.2.1 ++ ([s9.2.2] : List Int)))) (fun k6 =>
              (if (!((gt p_l s7.2.2.2) == [])) = true then
                let1 (IntKind.u64.wrap s7.1) fun at_1 =>
                jn (fun (s10 : Int) =>
                  jn (fun (s12 : Int × (List Int)) =>
                    k6 (s12.1, s12.2, s10)) (fun k8 =>
                    (if (s10 == (IntKind.u64.wrap s7.1)) = true then
                      gd ((0 : Int) ≤ s7.2.2.2 ∧ s7.2.2.2 < ((p_l.length : Nat) : Int)) <|
                      gd (s7.2.1.length + (gt p_l s7.2.2.2).length ≤ 140737488355328) <|
                      gd (((s7.2.1 ++ ofStr (gt p_l s7.2.2.2)).length + ([0] : List Int).length) * 1 ≤ 140737488355328) <|
                      let1 (((((s7.2.1 ++ ofStr (gt p_l s7.2.2.2)) ++ ([0] : List Int)).length : Nat) : Int)) fun size_1 =>
                      k8 (size_1, ((s7.2.1 ++ ofStr (gt p_l s7.2.2.2)) ++ ([0] : List Int)))
                    else
                      k8 (s7.1, s7.2.1)))) (fun k7 =>
                  loopK (fun (s11 : Int × Int) rec4 =>
                    (if (decide (s11.2 < s7.2.2.2)) = true then
                      gd ((0 : Int) ≤ s11.2 ∧ s11.2 < ((p_l.length : Nat) : Int)) <|
                      gd ((0 : Int) ≤ s7.2.2.2 ∧ s7.2.2.2 < ((p_l.length : Nat) : Int)) <|
                      (if ((gt p_l s11.2) == (gt p_l s7.2.2.2)) = true then
                        gd ((0 : Int) ≤ s11.2 ∧ s11.2 < ((s7.2.2.1.length : Nat) : Int)) <|
                        let1 (gt s7.2.2.1 s11.2) fun at_2 =>
                        k7 at_2
                      else
                        let1 (IntKind.i64.wrap (s11.2 + 1)) fun k_2 =>
                        rec4 (s11.1, k_2))
                    else
                      k7 s11.1)) bigF (at_1, 0))
              else
                k6 (s7.1, s7.2.1, 0))))
        else
          k4 (s7.1, s7.2.1, s7.2.2.1))) bigF (1, ([0] : List Int), [], 0))) (fun k1 =>
    loopK (fun (s2 : Int) rec1 =>
      (if (decide (s2 < ((p_l.length : Nat) : Int))) = true then
        jn (fun (_ : Unit) =>
          let1 (IntKind.i64.wrap (s2 + 1)) fun i_1 =>
          rec1 i_1) (fun k2 =>
          jn (fun (_ : Unit) =>
            k2 ()) (fun k3 =>
            loopK (fun (s5 : Int) rec2 =>
              gd ((0 : Int) ≤ s2 ∧ s2 < ((p_l.length : Nat) : Int)) <|
              (if (decide (s5 < (((gt p_l s2).length : Nat) : Int))) = true then
                gd ((0 : Int) ≤ s2 ∧ s2 < ((p_l.length : Nat) : Int)) <|
                gd ((0 : Int) ≤ s5 ∧ s5 < (((gt p_l s2).length : Nat) : Int)) <|
                (if ((((gt p_l s2).getD (Int.toNat s5) 0).toNat : Int) == 0) = true then
                  some ([], [], 1)
                else
                  let1 (IntKind.i64.wrap (s5 + 1)) fun k_1 =>
                  rec2 k_1)
              else
                k3 ())) bigF 0))
      else
        k1 ())) bigF 0)

/-- dormouse/dormouselaw02.NamesBuilds -/
def law02_NamesBuilds (p_l : List (List UInt8)) : Option (Bool) :=
  (law02_awake).bind fun z1 =>
  (if (!z1) = true then
    some false
  else
    (law02_long p_l).bind fun z2 =>
    (if (z2) = true then
      some true
    else
      (names_Build p_l).bind fun z3 =>
      (ref02_Build p_l).bind fun z4 =>
      jn (fun (s1 : Bool) =>
        (if (s1) = true then
          some false
        else
          jn (fun (_ : Unit) =>
            some true) (fun k2 =>
            loopK (fun (s3 : Int) rec1 =>
              (if (decide (s3 < ((z3.2.1.length : Nat) : Int))) = true then
                gd ((0 : Int) ≤ s3 ∧ s3 < ((z3.2.1.length : Nat) : Int)) <|
                gd ((0 : Int) ≤ s3 ∧ s3 < ((z4.2.1.length : Nat) : Int)) <|
                (if ((gt z3.2.1 s3) != (gt z4.2.1 s3)) = true then
                  some false
                else
                  let1 (IntKind.i64.wrap (s3 + 1)) fun i_1 =>
                  rec1 i_1)
              else
                k2 ())) bigF 0))) (fun k1 =>
        (if (!((toStr z3.1) == (toStr z4.1))) = true then
        k1 true
        else
        (if (z3.2.2 != z4.2.2) = true then
        k1 true
        else
        k1 (((z3.2.1.length : Nat) : Int) != ((z4.2.1.length : Nat) : Int)))))))

/-- dormouse/dormouselaw02.NamesBack -/
def law02_NamesBack (p_l : List (List UInt8)) : Option (Bool) :=
  (law02_awake).bind fun z1 =>
  (if (!z1) = true then
    some false
  else
    (law02_long p_l).bind fun z2 =>
    (if (z2) = true then
      some true
    else
      (names_Build p_l).bind fun z3 =>
      (if (z3.2.2 != 0) = true then
        jn (fun (s1 : Bool) =>
          some s1) (fun k1 =>
          (if (((z3.1.length : Nat) : Int) == 0) = true then
          k1 (((z3.2.1.length : Nat) : Int) == 0)
          else
          k1 false))
      else
        jn (fun (s2 : Bool) =>
          (if (s2) = true then
            some false
          else
            jn (fun (_ : Unit) =>
              some true) (fun k3 =>
              loopK (fun (s4 : Int) rec1 =>
                (if (decide (s4 < ((p_l.length : Nat) : Int))) = true then
                  gd ((0 : Int) ≤ s4 ∧ s4 < ((z3.2.1.length : Nat) : Int)) <|
                  (names_At z3.1 (gt z3.2.1 s4)).bind fun z5 =>
                  jn (fun (s5 : Bool) =>
                    (if (s5) = true then
                      some false
                    else
                      let1 (IntKind.i64.wrap (s4 + 1)) fun i_1 =>
                      rec1 i_1)) (fun k4 =>
                    (if (z5.2 != 0) = true then
                    k4 true
                    else
                    gd ((0 : Int) ≤ s4 ∧ s4 < ((p_l.length : Nat) : Int)) <|
                    k4 (!(z5.1 == (gt p_l s4)))))
                else
                  k3 ())) bigF 0))) (fun k2 =>
          (if (((z3.2.1.length : Nat) : Int) != ((p_l.length : Nat) : Int)) = true then
          k2 true
          else
          (names_Check z3.1).bind fun z4 =>
          k2 (z4 != 0))))))

/-- dormouse/dormouselaw02.NamesGreat -/
def law02_NamesGreat (n : Int) : Option (Bool) :=
  (law02_awake).bind fun z1 =>
  (if (!z1) = true then
    some false
  else
    let1 (band .i64 n 7) fun k_1 =>
    gd ((0 : Int) ≤ (IntKind.i64.wrap (65530 + k_1)) ∧ (IntKind.i64.wrap (65530 + k_1)) * ((1 : Nat) : Int) ≤ 281474976710656) <|
    jn (fun (s1 : List Int) =>
      (names_Build ([toStr s1] : List (List UInt8))).bind fun z2 =>
      (if (decide ((IntKind.i64.wrap ((IntKind.i64.wrap (65530 + k_1)) + 2)) > 65536)) = true then
        jn (fun (s3 : Bool) =>
          some s3) (fun k2 =>
          (if (z2.2.2 == 13) = true then
          k2 (((z2.1.length : Nat) : Int) == 0)
          else
          k2 false))
      else
        jn (fun (s4 : Bool) =>
          some s4) (fun k3 =>
          (if (z2.2.2 == 0) = true then
          k3 (((z2.1.length : Nat) : Int) == (IntKind.i64.wrap (65532 + k_1)))
          else
          k3 false)))) (fun k1 =>
      loopK (fun (s2 : Int × (List Int)) rec1 =>
        (if (decide (s2.1 < ((s2.2.length : Nat) : Int))) = true then
          gd ((0 : Int) ≤ s2.1 ∧ s2.1 < ((s2.2.length : Nat) : Int)) <|
          let1 (IntKind.i64.wrap (s2.1 + 1)) fun i_1 =>
          rec1 (i_1, (s2.2.set (Int.toNat s2.1) 97))
        else
          k1 s2.2)) bigF (0, (List.replicate (Int.toNat (IntKind.i64.wrap (65530 + k_1))) (0 : Int)))))

/-- dormouse/dormouselaw02.NamesOne -/
def law02_NamesOne (p_s : List UInt8) : Option (Bool) :=
  (law02_awake).bind fun z1 =>
  (if (!z1) = true then
    some false
  else
    (if (decide (((p_s.length : Nat) : Int) > 2000)) = true then
      some true
    else
      (names_Build ([p_s] : List (List UInt8))).bind fun z2 =>
      (ref02_Build ([p_s] : List (List UInt8))).bind fun z3 =>
      jn (fun (s1 : Bool) =>
        (if (s1) = true then
          some false
        else
          (if (z2.2.2 != 0) = true then
            some (((z2.2.1.length : Nat) : Int) == 0)
          else
            jn (fun (s2 : Int) =>
              gd ((0 : Int) ≤ 0 ∧ 0 < ((z2.2.1.length : Nat) : Int)) <|
              (names_At z2.1 (gt z2.2.1 0)).bind fun z4 =>
              jn (fun (s3 : Bool) =>
                some s3) (fun k3 =>
                gd ((0 : Int) ≤ 0 ∧ 0 < ((z2.2.1.length : Nat) : Int)) <|
                (if ((gt z2.2.1 0) == s2) = true then
                (if (z4.1 == p_s) = true then
                k3 (z4.2 == 0)
                else
                k3 false)
                else
                k3 false))) (fun k2 =>
              (if (p_s == []) = true then
                k2 0
              else
                k2 1))))) (fun k1 =>
        (if (z2.2.2 != z3.2.2) = true then
        k1 true
        else
        (if (!((toStr z2.1) == (toStr z3.1))) = true then
        k1 true
        else
        k1 (((z2.2.1.length : Nat) : Int) != ((z3.2.1.length : Nat) : Int)))))))

/-- dormouse/dormouselaw02.NamesTwice -/
def law02_NamesTwice (p_l : List (List UInt8)) : Option (Bool) :=
  (law02_awake).bind fun z1 =>
  (if (!z1) = true then
    some false
  else
    (law02_long p_l).bind fun z2 =>
    jn (fun (s1 : Bool) =>
      (if (s1) = true then
        some true
      else
        gd ((([] : List (List UInt8)).length + p_l.length) * 16 ≤ 140737488355328) <|
        gd (((([] : List (List UInt8)) ++ p_l).length + p_l.length) * 16 ≤ 140737488355328) <|
        (names_Build p_l).bind fun z3 =>
        (names_Build ((([] : List (List UInt8)) ++ p_l) ++ p_l)).bind fun z4 =>
        jn (fun (s2 : Bool) =>
          (if (s2) = true then
            some false
          else
            jn (fun (_ : Unit) =>
              some true) (fun k3 =>
              loopK (fun (s4 : Int) rec1 =>
                (if (decide (s4 < ((z3.2.1.length : Nat) : Int))) = true then
                  jn (fun (s5 : Bool) =>
                    (if (s5) = true then
                      some false
                    else
                      let1 (IntKind.i64.wrap (s4 + 1)) fun i_1 =>
                      rec1 i_1)) (fun k4 =>
                    gd ((0 : Int) ≤ s4 ∧ s4 < ((z4.2.1.length : Nat) : Int)) <|
                    gd ((0 : Int) ≤ s4 ∧ s4 < ((z3.2.1.length : Nat) : Int)) <|
                    (if ((gt z4.2.1 s4) != (gt z3.2.1 s4)) = true then
                    k4 true
                    else
                    gd ((0 : Int) ≤ (IntKind.i64.wrap (((z3.2.1.length : Nat) : Int) + s4)) ∧ (IntKind.i64.wrap (((z3.2.1.length : Nat) : Int) + s4)) < ((z4.2.1.length : Nat) : Int)) <|
                    gd ((0 : Int) ≤ s4 ∧ s4 < ((z3.2.1.length : Nat) : Int)) <|
                    k4 ((gt z4.2.1 (IntKind.i64.wrap (((z3.2.1.length : Nat) : Int) + s4))) != (gt z3.2.1 s4))))
                else
                  k3 ())) bigF 0))) (fun k2 =>
          (if (z3.2.2 != z4.2.2) = true then
          k2 true
          else
          (if (!((toStr z3.1) == (toStr z4.1))) = true then
          k2 true
          else
          (if (z3.2.2 == 0) = true then
          k2 (((z4.2.1.length : Nat) : Int) != (IntKind.i64.wrap (2 * ((z3.2.1.length : Nat) : Int))))
          else
          k2 false)))))) (fun k1 =>
      (if (z2) = true then
      k1 true
      else
      k1 (decide (((p_l.length : Nat) : Int) > 25)))))

/-- dormouse/octets.width -/
def octets_width (n : Int) : Option (Bool) :=
  jn (fun (s1 : Bool) =>
    some s1) (fun k1 =>
    (if (n == 1) = true then
    k1 true
    else
    (if (n == 2) = true then
    k1 true
    else
    (if (n == 4) = true then
    k1 true
    else
    k1 (n == 8)))))

/-- dormouse/octets.has -/
def octets_has (p_many : Int) (p_at : Int) (size : Int) : Option (Bool) :=
  let1 (IntKind.u64.wrap p_many) fun all_1 =>
  jn (fun (s1 : Bool) =>
    some s1) (fun k1 =>
    (if (decide (p_at ≤ all_1)) = true then
    k1 (decide (size ≤ (IntKind.u64.wrap (all_1 - p_at))))
    else
    k1 false))

/-- dormouse/octets.fits -/
def octets_fits (b : List Int) (p_at : Int) (n : Int) : Option (Int) :=
  (octets_width n).bind fun z1 =>
  (if (!z1) = true then
    some 1
  else
    (octets_has ((b.length : Nat) : Int) p_at (IntKind.u64.wrap n)).bind fun z2 =>
    (if (!z2) = true then
      some 10
    else
      some 0))

def slices_Clone_byte_byte (s : List Int) : Option (List Int) := gd (s.length * 1 ≤ 140737488355328) <| some s

/-- dormouse/octets.Set -/
def octets_Set (b : List Int) (p_at : Int) (n : Int) (p_x : Int) : Option ((List Int) × Int) :=
  (octets_fits b p_at n).bind fun z1 =>
  (if (z1 != 0) = true then
    some ([], z1)
  else
    (slices_Clone_byte_byte b).bind fun z2 =>
    jn (fun (s1 : List Int) =>
      some (s1, 0)) (fun k1 =>
      loopK (fun (s2 : Int × (List Int)) rec1 =>
        (if (decide (s2.1 < n)) = true then
          gd ((0 : Int) ≤ (IntKind.u64.wrap (IntKind.i64.wrap (8 * s2.1)))) <|
          gd ((0 : Int) ≤ (IntKind.i64.wrap ((IntKind.i64.wrap p_at) + s2.1)) ∧ (IntKind.i64.wrap ((IntKind.i64.wrap p_at) + s2.1)) < ((s2.2.length : Nat) : Int)) <|
          rec1 (IntKind.i64.wrap (s2.1 + 1), (s2.2.set (Int.toNat (IntKind.i64.wrap ((IntKind.i64.wrap p_at) + s2.1))) (IntKind.u8.wrap (shr .u64 p_x (IntKind.u64.wrap (IntKind.i64.wrap (8 * s2.1)))))))
        else
          k1 s2.2)) bigF (0, z2)))

/-- dormouse/notes.four -/
def notes_four (p_x : Int) : Option (List Int) :=
  gd ((0 : Int) ≤ 4 ∧ 4 * ((1 : Nat) : Int) ≤ 281474976710656) <|
  (octets_Set (List.replicate (Int.toNat 4) (0 : Int)) 0 4 (IntKind.u64.wrap p_x)).bind fun z1 =>
  some z1.1

/-- dormouse/notes.fill -/
def notes_fill (n : Int) : Option (List Int) :=
  gd ((0 : Int) ≤ (band .i64 (IntKind.i64.wrap (0 - n)) 3) ∧ (band .i64 (IntKind.i64.wrap (0 - n)) 3) * ((1 : Nat) : Int) ≤ 281474976710656) <|
  some (List.replicate (Int.toNat (band .i64 (IntKind.i64.wrap (0 - n)) 3)) (0 : Int))

/-- dormouse/notes.Put -/
def notes_Put (p_l : List ((List UInt8) × Int × (List Int))) : Option ((List Int) × Int) :=
  jn (fun (_ : Unit) =>
    jn (fun (s3 : List Int) =>
      some (s3, 0)) (fun k2 =>
      loopK (fun (s4 : (List Int) × Int) rec2 =>
        (if (decide (s4.2 < ((p_l.length : Nat) : Int))) = true then
          jn (fun (s5 : List Int) =>
            rec2 (s5, IntKind.i64.wrap (s4.2 + 1))) (fun k3 =>
            gd ((0 : Int) ≤ s4.2 ∧ s4.2 < ((p_l.length : Nat) : Int)) <|
            gd (((gt p_l s4.2).1).length ≤ 140737488355328) <|
            gd ((ofStr ((gt p_l s4.2).1)).length + ([0] : List Int).length ≤ 140737488355328) <|
            (notes_four ((((ofStr ((gt p_l s4.2).1)) ++ ([0] : List Int)).length : Nat) : Int)).bind fun z2 =>
            (notes_four ((((gt p_l s4.2).2.2).length : Nat) : Int)).bind fun z3 =>
            (notes_four (IntKind.i64.wrap ((gt p_l s4.2).2.1))).bind fun z4 =>
            (notes_fill ((((ofStr ((gt p_l s4.2).1)) ++ ([0] : List Int)).length : Nat) : Int)).bind fun z5 =>
            (notes_fill ((((gt p_l s4.2).2.2).length : Nat) : Int)).bind fun z6 =>
            jn (fun (s6 : List Int) =>
              (if (decide (((s6.length : Nat) : Int) > 65536)) = true then
                some ([], 13)
              else
                k3 s6)) (fun k4 =>
              loopK (fun (s7 : (List Int) × Int) rec3 =>
                (if (decide (s7.2 < ((([z2, z3, z4, ((ofStr ((gt p_l s4.2).1)) ++ ([0] : List Int)), z5, (gt p_l s4.2).2.2, z6] : List (List Int)).length : Nat) : Int))) = true then
                  gd ((0 : Int) ≤ s7.2 ∧ s7.2 < ((([z2, z3, z4, ((ofStr ((gt p_l s4.2).1)) ++ ([0] : List Int)), z5, (gt p_l s4.2).2.2, z6] : List (List Int)).length : Nat) : Int)) <|
                  gd ((s7.1.length + (gt ([z2, z3, z4, ((ofStr ((gt p_l s4.2).1)) ++ ([0] : List Int)), z5, (gt p_l s4.2).2.2, z6] : List (List Int)) s7.2).length) * 1 ≤ 140737488355328) <|
                  rec3 ((s7.1 ++ (gt ([z2, z3, z4, ((ofStr ((gt p_l s4.2).1)) ++ ([0] : List Int)), z5, (gt p_l s4.2).2.2, z6] : List (List Int)) s7.2)), IntKind.i64.wrap (s7.2 + 1))
                else
                  k4 s7.1)) bigF (s4.1, 0)))
        else
          k2 s4.1)) bigF ([], 0))) (fun k1 =>
    loopK (fun (s2 : Int) rec1 =>
      (if (decide (s2 < ((p_l.length : Nat) : Int))) = true then
        gd ((0 : Int) ≤ s2 ∧ s2 < ((p_l.length : Nat) : Int)) <|
        (strings_Contains ((gt p_l s2).1) [0]).bind fun z1 =>
        (if (z1) = true then
          some ([], 1)
        else
          rec1 (IntKind.i64.wrap (s2 + 1)))
      else
        k1 ())) bigF 0)

/-- dormouse/notes.Get$1 -/
def notes_Get_1 (n : Int) (q_1 : List Int) : Option ((List Int) × Int × (List Int)) :=
  (if (decide (n > (IntKind.u64.wrap ((q_1.length : Nat) : Int)))) = true then
    some ([], 10, q_1)
  else
    gd ((0 : Int) ≤ 0 ∧ (0 : Int) ≤ n ∧ n ≤ ((q_1.length : Nat) : Int)) <|
    (slices_Clone_byte_byte (cutL q_1 0 n)).bind fun z1 =>
    gd ((0 : Int) ≤ n ∧ (n : Int) ≤ ((q_1.length : Nat) : Int) ∧ ((q_1.length : Nat) : Int) ≤ ((q_1.length : Nat) : Int)) <|
    some (z1, 0, (cutL q_1 n ((q_1.length : Nat) : Int))))

/-- dormouse/octets.Get -/
def octets_Get (b : List Int) (p_at : Int) (n : Int) : Option (Int × Int) :=
  (octets_fits b p_at n).bind fun z1 =>
  (if (z1 != 0) = true then
    some (0, z1)
  else
    jn (fun (s1 : Int) =>
      some (s1, 0)) (fun k1 =>
      loopK (fun (s2 : Int × Int) rec1 =>
        (if (decide (s2.2 < n)) = true then
          gd ((0 : Int) ≤ (IntKind.i64.wrap ((IntKind.i64.wrap p_at) + s2.2)) ∧ (IntKind.i64.wrap ((IntKind.i64.wrap p_at) + s2.2)) < ((b.length : Nat) : Int)) <|
          gd ((0 : Int) ≤ (IntKind.u64.wrap (IntKind.i64.wrap (8 * s2.2)))) <|
          let1 (bor .u64 s2.1 (shl .u64 (IntKind.u64.wrap (gt b (IntKind.i64.wrap ((IntKind.i64.wrap p_at) + s2.2)))) (IntKind.u64.wrap (IntKind.i64.wrap (8 * s2.2))))) fun x_1 =>
          rec1 (x_1, IntKind.i64.wrap (s2.2 + 1))
        else
          k1 s2.1)) bigF (0, 0)))

/-- dormouse/notes.zeros$1 -/
def notes_zeros_1 (p_c : Int) : Option (Bool) :=
  some (p_c != 0)

/-- slices.IndexFunc[[]byte,byte] -/
def slices_IndexFunc_byte_byte_zeros_1 (p_s : List Int) : Option (Int) :=
  jn (fun (_ : Unit) =>
    some (-1)) (fun k1 =>
    loopK (fun (s2 : Int) rec1 =>
      (if (decide (s2 < ((p_s.length : Nat) : Int))) = true then
        gd ((0 : Int) ≤ s2 ∧ s2 < ((p_s.length : Nat) : Int)) <|
        (notes_zeros_1 (gt p_s s2)).bind fun z1 =>
        (if (z1) = true then
          some s2
        else
          rec1 (IntKind.i64.wrap (s2 + 1)))
      else
        k1 ())) bigF 0)

/-- slices.ContainsFunc[[]byte,byte] -/
def slices_ContainsFunc_byte_byte_zeros_1 (p_s : List Int) : Option (Bool) :=
  (slices_IndexFunc_byte_byte_zeros_1 p_s).bind fun z1 =>
  some (decide (z1 ≥ 0))

/-- dormouse/notes.zeros -/
def notes_zeros (b : List Int) : Option (Bool) :=
  (slices_ContainsFunc_byte_byte_zeros_1 b).bind fun z1 =>
  some (!z1)

/-- dormouse/notes.Get$2 -/
def notes_Get_2_Get_1 (n : Int) (q_c0 : List Int) : Option ((List Int) × Int × (List Int)) :=
  (notes_Get_1 (bandn .u64 (IntKind.u64.wrap (n + 3)) 3) q_c0).bind fun z1 =>
  (if (z1.2.1 != 0) = true then
    some ([], z1.2.1, z1.2.2)
  else
    gd ((0 : Int) ≤ n ∧ (n : Int) ≤ ((z1.1.length : Nat) : Int) ∧ ((z1.1.length : Nat) : Int) ≤ ((z1.1.length : Nat) : Int)) <|
    (notes_zeros (cutL z1.1 n ((z1.1.length : Nat) : Int))).bind fun z2 =>
    (if (!z2) = true then
      some ([], 11, z1.2.2)
    else
      gd (((0 : Int) ≤ 0 ∧ (0 : Int) ≤ n ∧ n ≤ ((z1.1.length : Nat) : Int)) ∧ (n : Int) ≤ n ∧ n ≤ ((z1.1.length : Nat) : Int)) <|
      some ((cutL z1.1 0 n), 0, z1.2.2)))

/-- dormouse/notes.Get -/
def notes_Get (b : List Int) : Option ((List ((List UInt8) × Int × (List Int))) × Int) :=
  (if (decide (((b.length : Nat) : Int) > 65536)) = true then
    some ([], 13)
  else
    jn (fun (s2 : List ((List UInt8) × Int × (List Int))) =>
      some (s2, 0)) (fun k2 =>
      loopK (fun (s3 : (List ((List UInt8) × Int × (List Int))) × (List Int)) rec1 =>
        (if (decide (((s3.2.length : Nat) : Int) > 0)) = true then
          jn (fun (s4 : (List ((List UInt8) × Int × (List Int))) × (List Int)) =>
            rec1 (s4.1, s4.2)) (fun k3 =>
            (notes_Get_1 12 s3.2).bind fun z1 =>
            (if (z1.2.1 != 0) = true then
              some ([], z1.2.1)
            else
              jn (fun (s5 : List Int) =>
                gd ((0 : Int) ≤ 0 ∧ 0 < ((3 : Nat) : Int)) <|
                (if ((gt s5 0) == 0) = true then
                  some ([], 11)
                else
                  gd ((0 : Int) ≤ 0 ∧ 0 < ((3 : Nat) : Int)) <|
                  (notes_Get_2_Get_1 (gt s5 0) z1.2.2).bind fun z3 =>
                  (if (z3.2.1 != 0) = true then
                    some ([], z3.2.1)
                  else
                    (slices_Index_byte_byte z3.1 0).bind fun z4 =>
                    (if (z4 != (IntKind.i64.wrap (((z3.1.length : Nat) : Int) - 1))) = true then
                      some ([], 11)
                    else
                      gd ((0 : Int) ≤ 1 ∧ 1 < ((3 : Nat) : Int)) <|
                      (notes_Get_2_Get_1 (gt s5 1) z3.2.2).bind fun z5 =>
                      (if (z5.2.1 != 0) = true then
                        some ([], z5.2.1)
                      else
                        gd ((0 : Int) ≤ 0 ∧ (0 : Int) ≤ (IntKind.i64.wrap (((z3.1.length : Nat) : Int) - 1)) ∧ (IntKind.i64.wrap (((z3.1.length : Nat) : Int) - 1)) ≤ ((z3.1.length : Nat) : Int)) <|
                        gd ((0 : Int) ≤ 2 ∧ 2 < ((3 : Nat) : Int)) <|
                        gd ((s3.1.length + ([(toStr (cutL z3.1 0 (IntKind.i64.wrap (((z3.1.length : Nat) : Int) - 1))), IntKind.u32.wrap (gt s5 2), z5.1)] : List ((List UInt8) × Int × (List Int))).length) * 48 ≤ 140737488355328) <|
                        k3 ((s3.1 ++ ([(toStr (cutL z3.1 0 (IntKind.i64.wrap (((z3.1.length : Nat) : Int) - 1))), IntKind.u32.wrap (gt s5 2), z5.1)] : List ((List UInt8) × Int × (List Int)))), z5.2.2)))))) (fun k4 =>
                loopK (fun (s6 : Int × (List Int)) rec2 =>
                  (if (decide (s6.1 < 3)) = true then
                    (octets_Get z1.1 (IntKind.u64.wrap (IntKind.i64.wrap (4 * s6.1))) 4).bind fun z2 =>
                    gd ((0 : Int) ≤ s6.1 ∧ s6.1 < ((3 : Nat) : Int)) <|
                    rec2 (IntKind.i64.wrap (s6.1 + 1), (s6.2.set (Int.toNat s6.1) z2.1))
                  else
                    k4 s6.2)) bigF (0, (List.replicate 3 0 : List Int)))))
        else
          k2 s3.1)) bigF ([], b)))

/-- dormouse/notes.Find -/
def notes_Find (p_l : List ((List UInt8) × Int × (List Int))) (name : List UInt8) (kind : Int) : Option ((List Int) × Bool) :=
  jn (fun (_ : Unit) =>
    some ([], false)) (fun k1 =>
    loopK (fun (s2 : Int) rec1 =>
      (if (decide (s2 < ((p_l.length : Nat) : Int))) = true then
        gd ((0 : Int) ≤ s2 ∧ s2 < ((p_l.length : Nat) : Int)) <|
        jn (fun (s3 : Bool) =>
          (if (s3) = true then
            (slices_Clone_byte_byte ((gt p_l s2).2.2)).bind fun z1 =>
            some (z1, true)
          else
            rec1 (IntKind.i64.wrap (s2 + 1)))) (fun k2 =>
          (if (((gt p_l s2).1) == name) = true then
          k2 (((gt p_l s2).2.1) == kind)
          else
          k2 false))
      else
        k1 ())) bigF 0)

/-- dormouse/dormouselaw08.awake -/
def law08_awake  : Option (Bool) :=
  (notes_Put ([([97], 5, ([7] : List Int))] : List ((List UInt8) × Int × (List Int)))).bind fun z1 =>
  jn (fun (s1 : Bool) =>
    (if (s1) = true then
      some false
    else
      (notes_Get z1.1).bind fun z2 =>
      (notes_Find z2.1 [97] 5).bind fun z3 =>
      gd ((0 : Int) ≤ 0 ∧ (0 : Int) ≤ 19 ∧ 19 ≤ ((z1.1.length : Nat) : Int)) <|
      (notes_Get (cutL z1.1 0 19)).bind fun z4 =>
      jn (fun (s2 : Bool) =>
        some s2) (fun k2 =>
        (if (z2.2 == 0) = true then
        (if (((z2.1.length : Nat) : Int) == 1) = true then
        (if (z3.2) = true then
        (if ((toStr z3.1) == [7]) = true then
        k2 (z4.2 == 10)
        else
        k2 false)
        else
        k2 false)
        else
        k2 false)
        else
        k2 false)))) (fun k1 =>
    (if (z1.2 != 0) = true then
    k1 true
    else
    k1 (!((toStr z1.1) == [2, 0, 0, 0, 1, 0, 0, 0, 5, 0, 0, 0, 97, 0, 0, 0, 7, 0, 0, 0]))))

/-- dormouse/dormouselaw08.few -/
def law08_few (p_l : List ((List UInt8) × Int × (List Int))) : Option (Bool) :=
  (if (decide (((p_l.length : Nat) : Int) > 20)) = true then
    some false
  else
    jn (fun (_ : Unit) =>
      some true) (fun k1 =>
      loopK (fun (s2 : Int) rec1 =>
        (if (decide (s2 < ((p_l.length : Nat) : Int))) = true then
          jn (fun (s3 : Bool) =>
            (if (s3) = true then
              some false
            else
              let1 (IntKind.i64.wrap (s2 + 1)) fun i_1 =>
              rec1 i_1)) (fun k2 =>
            gd ((0 : Int) ≤ s2 ∧ s2 < ((p_l.length : Nat) : Int)) <|
            (if (decide (((((gt p_l s2).1).length : Nat) : Int) > 500)) = true then
            k2 true
            else
            gd ((0 : Int) ≤ s2 ∧ s2 < ((p_l.length : Nat) : Int)) <|
            k2 (decide (((((gt p_l s2).2.2).length : Nat) : Int) > 500))))
        else
          k1 ())) bigF 0))

/-- dormouse/dormouselaw08.model -/
def law08_model (p_l : List ((List UInt8) × Int × (List Int))) : Option (List ((List UInt8) × Int × (List Int))) :=
  jn (fun (s1 : List ((List UInt8) × Int × (List Int))) =>
    some s1) (fun k1 =>
    loopK (fun (s2 : (List ((List UInt8) × Int × (List Int))) × Int) rec1 =>
      (if (decide (s2.2 < ((p_l.length : Nat) : Int))) = true then
        gd ((0 : Int) ≤ s2.2 ∧ s2.2 < ((p_l.length : Nat) : Int)) <|
        gd ((0 : Int) ≤ s2.2 ∧ s2.2 < ((p_l.length : Nat) : Int)) <|
        gd ((0 : Int) ≤ s2.2 ∧ s2.2 < ((p_l.length : Nat) : Int)) <|
        gd ((s2.1.length + ([((gt p_l s2.2).1, (gt p_l s2.2).2.1, (gt p_l s2.2).2.2)] : List ((List UInt8) × Int × (List Int))).length) * 48 ≤ 140737488355328) <|
        let1 (IntKind.i64.wrap (s2.2 + 1)) fun i_1 =>
        rec1 ((s2.1 ++ ([((gt p_l s2.2).1, (gt p_l s2.2).2.1, (gt p_l s2.2).2.2)] : List ((List UInt8) × Int × (List Int)))), i_1)
      else
        k1 s2.1)) bigF ([], 0))

/-- dormouse/dormouseref08.four -/
def ref08_four (b : List Int) (p_x : Int) : Option (List Int) :=
  jn (fun (s1 : List Int) =>
    some s1) (fun k1 =>
    loopK (fun (s2 : (List Int) × Int × Int) rec1 =>
      (if (decide (s2.2.2 < 4)) = true then
        gd ((s2.1.length + ([IntKind.u8.wrap (Int.tmod s2.2.1 256)] : List Int).length) * 1 ≤ 140737488355328) <|
        let1 (IntKind.u64.wrap (Int.tdiv s2.2.1 256)) fun x_1 =>
        let1 (IntKind.i64.wrap (s2.2.2 + 1)) fun i_1 =>
        rec1 ((s2.1 ++ ([IntKind.u8.wrap (Int.tmod s2.2.1 256)] : List Int)), x_1, i_1)
      else
        k1 s2.1)) bigF (b, p_x, 0))

/-- dormouse/dormouseref08.padded -/
def ref08_padded (b : List Int) : Option (List Int) :=
  jn (fun (s1 : List Int) =>
    some s1) (fun k1 =>
    loopK (fun (s2 : List Int) rec1 =>
      (if ((Int.tmod ((s2.length : Nat) : Int) 4) != 0) = true then
        gd ((s2.length + ([0] : List Int).length) * 1 ≤ 140737488355328) <|
        rec1 (s2 ++ ([0] : List Int))
      else
        k1 s2)) bigF b)

/-- dormouse/dormouseref08.Put -/
def ref08_Put (p_l : List ((List UInt8) × Int × (List Int))) : Option ((List Int) × Int) :=
  jn (fun (_ : Unit) =>
    jn (fun (s6 : List Int) =>
      (if (decide (((s6.length : Nat) : Int) > 65536)) = true then
        some ([], 13)
      else
        some (s6, 0))) (fun k4 =>
      loopK (fun (s7 : (List Int) × Int) rec3 =>
        (if (decide (s7.2 < ((p_l.length : Nat) : Int))) = true then
          gd ((0 : Int) ≤ s7.2 ∧ s7.2 < ((p_l.length : Nat) : Int)) <|
          (ref08_four s7.1 (IntKind.u64.wrap (IntKind.i64.wrap (((((gt p_l s7.2).1).length : Nat) : Int) + 1)))).bind fun z1 =>
          gd ((0 : Int) ≤ s7.2 ∧ s7.2 < ((p_l.length : Nat) : Int)) <|
          (ref08_four z1 (IntKind.u64.wrap ((((gt p_l s7.2).2.2).length : Nat) : Int))).bind fun z2 =>
          gd ((0 : Int) ≤ s7.2 ∧ s7.2 < ((p_l.length : Nat) : Int)) <|
          (ref08_four z2 (IntKind.u64.wrap ((gt p_l s7.2).2.1))).bind fun z3 =>
          gd ((0 : Int) ≤ s7.2 ∧ s7.2 < ((p_l.length : Nat) : Int)) <|
          gd (z3.length + ((gt p_l s7.2).1).length ≤ 140737488355328) <|
          gd (((z3 ++ ofStr ((gt p_l s7.2).1)).length + ([0] : List Int).length) * 1 ≤ 140737488355328) <|
          (ref08_padded ((z3 ++ ofStr ((gt p_l s7.2).1)) ++ ([0] : List Int))).bind fun z4 =>
          gd ((0 : Int) ≤ s7.2 ∧ s7.2 < ((p_l.length : Nat) : Int)) <|
          gd ((z4.length + ((gt p_l s7.2).2.2).length) * 1 ≤ 140737488355328) <|
          (ref08_padded (z4 ++ ((gt p_l s7.2).2.2))).bind fun z5 =>
          let1 (IntKind.i64.wrap (s7.2 + 1)) fun i_2 =>
          rec3 (z5, i_2)
        else
          k4 s7.1)) bigF ([], 0))) (fun k1 =>
    loopK (fun (s2 : Int) rec1 =>
      (if (decide (s2 < ((p_l.length : Nat) : Int))) = true then
        jn (fun (_ : Unit) =>
          let1 (IntKind.i64.wrap (s2 + 1)) fun i_1 =>
          rec1 i_1) (fun k2 =>
          jn (fun (_ : Unit) =>
            k2 ()) (fun k3 =>
            loopK (fun (s5 : Int) rec2 =>
              gd ((0 : Int) ≤ s2 ∧ s2 < ((p_l.length : Nat) : Int)) <|
              (if (decide (s5 < ((((gt p_l s2).1).length : Nat) : Int))) = true then
                gd ((0 : Int) ≤ s2 ∧ s2 < ((p_l.length : Nat) : Int)) <|
                gd ((0 : Int) ≤ s5 ∧ s5 < ((((gt p_l s2).1).length : Nat) : Int)) <|
                (if (((((gt p_l s2).1).getD (Int.toNat s5) 0).toNat : Int) == 0) = true then
                  some ([], 1)
                else
                  let1 (IntKind.i64.wrap (s5 + 1)) fun k_1 =>
                  rec2 k_1)
              else
                k3 ())) bigF 0))
      else
        k1 ())) bigF 0)

/-- dormouse/dormouselaw08.NotesPuts -/
def law08_NotesPuts (p_l : List ((List UInt8) × Int × (List Int))) : Option (Bool) :=
  (law08_awake).bind fun z1 =>
  (if (!z1) = true then
    some false
  else
    (law08_few p_l).bind fun z2 =>
    (if (!z2) = true then
      some true
    else
      (notes_Put p_l).bind fun z3 =>
      (law08_model p_l).bind fun z4 =>
      (ref08_Put z4).bind fun z5 =>
      jn (fun (s1 : Bool) =>
        some s1) (fun k1 =>
        (if ((toStr z3.1) == (toStr z5.1)) = true then
        k1 (z3.2 == z5.2)
        else
        k1 false))))

/-- dormouse/dormouseref01.Inside -/
def ref01_Inside (p_many : Int) (p_at : Int) (size : Int) : Option (Bool) :=
  (if (decide (p_at > (IntKind.u64.wrap p_many))) = true then
    some false
  else
    some (decide (size ≤ (IntKind.u64.wrap ((IntKind.u64.wrap p_many) - p_at)))))

/-- dormouse/dormouseref01.width -/
def ref01_width (n : Int) : Option (Bool) :=
  jn (fun (s1 : Bool) =>
    some s1) (fun k1 =>
    (if (n == 1) = true then
    k1 true
    else
    (if (n == 2) = true then
    k1 true
    else
    (if (n == 4) = true then
    k1 true
    else
    k1 (n == 8)))))

/-- dormouse/dormouseref01.Get -/
def ref01_Get (b : List Int) (p_at : Int) (n : Int) : Option (Int × Int) :=
  (ref01_width n).bind fun z1 =>
  (if (!z1) = true then
    some (0, 1)
  else
    (ref01_Inside ((b.length : Nat) : Int) p_at (IntKind.u64.wrap n)).bind fun z2 =>
    (if (!z2) = true then
      some (0, 10)
    else
      let1 (IntKind.i64.wrap (n - 1)) fun i_1 =>
      jn (fun (s1 : Int) =>
        some (s1, 0)) (fun k1 =>
        loopK (fun (s2 : Int × Int) rec1 =>
          (if (decide (s2.2 ≥ 0)) = true then
            gd ((0 : Int) ≤ (IntKind.i64.wrap ((IntKind.i64.wrap p_at) + s2.2)) ∧ (IntKind.i64.wrap ((IntKind.i64.wrap p_at) + s2.2)) < ((b.length : Nat) : Int)) <|
            let1 (IntKind.u64.wrap ((IntKind.u64.wrap (s2.1 * 256)) + (IntKind.u64.wrap (gt b (IntKind.i64.wrap ((IntKind.i64.wrap p_at) + s2.2)))))) fun x_1 =>
            let1 (IntKind.i64.wrap (s2.2 - 1)) fun i_2 =>
            rec1 (x_1, i_2)
          else
            k1 s2.1)) bigF (0, i_1))))

/-- dormouse/dormouseref08.up -/
def ref08_up (n : Int) : Option (Int) :=
  some (IntKind.u64.wrap ((IntKind.u64.wrap (Int.tdiv (IntKind.u64.wrap (n + 3)) 4)) * 4))

/-- dormouse/dormouseref08.Get -/
def ref08_Get (b : List Int) : Option ((List ((List UInt8) × Int × (List Int))) × Int) :=
  (if (decide (((b.length : Nat) : Int) > 65536)) = true then
    some ([], 13)
  else
    jn (fun (s1 : List ((List UInt8) × Int × (List Int))) =>
      some (s1, 0)) (fun k1 =>
      loopK (fun (s2 : (List ((List UInt8) × Int × (List Int))) × Int) rec1 =>
        (if (decide (s2.2 < (IntKind.u64.wrap ((b.length : Nat) : Int)))) = true then
          jn (fun (s3 : (List ((List UInt8) × Int × (List Int))) × Int) =>
            rec1 (s3.1, s3.2)) (fun k2 =>
            (ref01_Inside ((b.length : Nat) : Int) s2.2 12).bind fun z1 =>
            (if (!z1) = true then
              some ([], 10)
            else
              (ref01_Get b s2.2 4).bind fun z2 =>
              (ref01_Get b (IntKind.u64.wrap (s2.2 + 4)) 4).bind fun z3 =>
              (ref01_Get b (IntKind.u64.wrap (s2.2 + 8)) 4).bind fun z4 =>
              let1 (IntKind.u64.wrap (s2.2 + 12)) fun at_1 =>
              (if (z2.1 == 0) = true then
                some ([], 11)
              else
                (ref08_up z2.1).bind fun z5 =>
                (ref01_Inside ((b.length : Nat) : Int) at_1 z5).bind fun z6 =>
                (if (!z6) = true then
                  some ([], 10)
                else
                  jn (fun (_ : Unit) =>
                    gd ((0 : Int) ≤ at_1 ∧ (at_1 : Int) ≤ (IntKind.u64.wrap ((IntKind.u64.wrap (at_1 + z2.1)) - 1)) ∧ (IntKind.u64.wrap ((IntKind.u64.wrap (at_1 + z2.1)) - 1)) ≤ ((b.length : Nat) : Int)) <|
                    let1 (toStr (cutL b at_1 (IntKind.u64.wrap ((IntKind.u64.wrap (at_1 + z2.1)) - 1)))) fun name_1 =>
                    (ref08_up z2.1).bind fun z8 =>
                    let1 (IntKind.u64.wrap (at_1 + z8)) fun at_2 =>
                    (ref08_up z3.1).bind fun z9 =>
                    (ref01_Inside ((b.length : Nat) : Int) at_2 z9).bind fun z10 =>
                    (if (!z10) = true then
                      some ([], 10)
                    else
                      jn (fun (_ : Unit) =>
                        gd ((0 : Int) ≤ at_2 ∧ (at_2 : Int) ≤ (IntKind.u64.wrap (at_2 + z3.1)) ∧ (IntKind.u64.wrap (at_2 + z3.1)) ≤ ((b.length : Nat) : Int)) <|
                        gd ((s2.1.length + ([(name_1, IntKind.u32.wrap z4.1, (cutL b at_2 (IntKind.u64.wrap (at_2 + z3.1))))] : List ((List UInt8) × Int × (List Int))).length) * 48 ≤ 140737488355328) <|
                        (ref08_up z3.1).bind fun z12 =>
                        let1 (IntKind.u64.wrap (at_2 + z12)) fun at_3 =>
                        k2 ((s2.1 ++ ([(name_1, IntKind.u32.wrap z4.1, (cutL b at_2 (IntKind.u64.wrap (at_2 + z3.1))))] : List ((List UInt8) × Int × (List Int)))), at_3)) (fun k4 =>
                        loopK (fun (s7 : Int) rec3 =>
                          (ref08_up z3.1).bind fun z11 =>
                          (if (decide (s7 < z11)) = true then
                            gd ((0 : Int) ≤ (IntKind.u64.wrap (at_2 + s7)) ∧ (IntKind.u64.wrap (at_2 + s7)) < ((b.length : Nat) : Int)) <|
                            (if ((gt b (IntKind.u64.wrap (at_2 + s7))) != 0) = true then
                              some ([], 11)
                            else
                              let1 (IntKind.u64.wrap (s7 + 1)) fun i_2 =>
                              rec3 i_2)
                          else
                            k4 ())) bigF z3.1))) (fun k3 =>
                    loopK (fun (s5 : Int) rec2 =>
                      (ref08_up z2.1).bind fun z7 =>
                      (if (decide (s5 < z7)) = true then
                        gd ((0 : Int) ≤ (IntKind.u64.wrap (at_1 + s5)) ∧ (IntKind.u64.wrap (at_1 + s5)) < ((b.length : Nat) : Int)) <|
                        (if (!(((gt b (IntKind.u64.wrap (at_1 + s5))) == 0) == (decide ((IntKind.u64.wrap (s5 + 1)) ≥ z2.1)))) = true then
                          some ([], 11)
                        else
                          let1 (IntKind.u64.wrap (s5 + 1)) fun i_1 =>
                          rec2 i_1)
                      else
                        k3 ())) bigF 0)))))
        else
          k1 s2.1)) bigF ([], 0)))

/-- dormouse/dormouselaw08.same -/
def law08_same (p_a : List ((List UInt8) × Int × (List Int))) (b : List ((List UInt8) × Int × (List Int))) : Option (Bool) :=
  (if (((p_a.length : Nat) : Int) != ((b.length : Nat) : Int)) = true then
    some false
  else
    jn (fun (_ : Unit) =>
      some true) (fun k1 =>
      loopK (fun (s2 : Int) rec1 =>
        (if (decide (s2 < ((p_a.length : Nat) : Int))) = true then
          jn (fun (s3 : Bool) =>
            (if (s3) = true then
              some false
            else
              let1 (IntKind.i64.wrap (s2 + 1)) fun i_1 =>
              rec1 i_1)) (fun k2 =>
            gd ((0 : Int) ≤ s2 ∧ s2 < ((p_a.length : Nat) : Int)) <|
            gd ((0 : Int) ≤ s2 ∧ s2 < ((b.length : Nat) : Int)) <|
            (if (!(((gt p_a s2).1) == ((gt b s2).1))) = true then
            k2 true
            else
            gd ((0 : Int) ≤ s2 ∧ s2 < ((p_a.length : Nat) : Int)) <|
            gd ((0 : Int) ≤ s2 ∧ s2 < ((b.length : Nat) : Int)) <|
            (if (((gt p_a s2).2.1) != ((gt b s2).2.1)) = true then
            k2 true
            else
            gd ((0 : Int) ≤ s2 ∧ s2 < ((p_a.length : Nat) : Int)) <|
            gd ((0 : Int) ≤ s2 ∧ s2 < ((b.length : Nat) : Int)) <|
            k2 (!((toStr ((gt p_a s2).2.2)) == (toStr ((gt b s2).2.2)))))))
        else
          k1 ())) bigF 0))

/-- dormouse/dormouselaw08.NotesGets -/
def law08_NotesGets (b : List Int) : Option (Bool) :=
  (law08_awake).bind fun z1 =>
  (if (!z1) = true then
    some false
  else
    (if (decide (((b.length : Nat) : Int) > 5000)) = true then
      some true
    else
      (notes_Get b).bind fun z2 =>
      (ref08_Get b).bind fun z3 =>
      jn (fun (s1 : Bool) =>
        some s1) (fun k1 =>
        (if (z2.2 == z3.2) = true then
        (law08_model z2.1).bind fun z4 =>
        (law08_same z4 z3.1).bind fun z5 =>
        k1 z5
        else
        k1 false))))

/-- dormouse/dormouselaw08.NotesFinds -/
def law08_NotesFinds (p_l : List ((List UInt8) × Int × (List Int))) (name : List UInt8) (kind : Int) : Option (Bool) :=
  (law08_awake).bind fun z1 =>
  (if (!z1) = true then
    some false
  else
    (law08_few p_l).bind fun z2 =>
    (if (!z2) = true then
      some true
    else
      (notes_Find p_l name kind).bind fun z3 =>
      jn (fun (_ : Unit) =>
        jn (fun (s9 : Bool) =>
          some s9) (fun k7 =>
          (if (!z3.2) = true then
          k7 (((z3.1.length : Nat) : Int) == 0)
          else
          k7 false))) (fun k1 =>
        loopK (fun (s2 : Int) rec1 =>
          (if (decide (s2 < ((p_l.length : Nat) : Int))) = true then
            jn (fun (_ : Unit) =>
              let1 (IntKind.i64.wrap (s2 + 1)) fun i_1 =>
              rec1 i_1) (fun k2 =>
              jn (fun (s4 : Bool) =>
                (if (s4) = true then
                  gd ((0 : Int) ≤ s2 ∧ s2 < ((p_l.length : Nat) : Int)) <|
                  let1 (toStr ((gt p_l s2).2.2)) fun was_1 =>
                  jn (fun (s5 : Bool) =>
                    jn (fun (_ : Unit) =>
                      jn (fun (s8 : Bool) =>
                        some s8) (fun k6 =>
                        (if (s5) = true then
                        gd ((0 : Int) ≤ s2 ∧ s2 < ((p_l.length : Nat) : Int)) <|
                        k6 ((toStr ((gt p_l s2).2.2)) == was_1)
                        else
                        k6 false))) (fun k5 =>
                      loopK (fun (s7 : Int × (List Int)) rec2 =>
                        (if (decide (s7.1 < ((s7.2.length : Nat) : Int))) = true then
                          gd ((0 : Int) ≤ s7.1 ∧ s7.1 < ((s7.2.length : Nat) : Int)) <|
                          gd ((0 : Int) ≤ s7.1 ∧ s7.1 < ((s7.2.length : Nat) : Int)) <|
                          let1 (IntKind.i64.wrap (s7.1 + 1)) fun k_1 =>
                          rec2 (k_1, (s7.2.set (Int.toNat s7.1) (bxor .u8 (gt s7.2 s7.1) 255)))
                        else
                          k5 ())) bigF (0, z3.1))) (fun k4 =>
                    (if (z3.2) = true then
                    let1 ((toStr z3.1) == was_1) fun one_1 =>
                    k4 one_1
                    else
                    k4 false))
                else
                  k2 ())) (fun k3 =>
                gd ((0 : Int) ≤ s2 ∧ s2 < ((p_l.length : Nat) : Int)) <|
                (if (((gt p_l s2).1) == name) = true then
                gd ((0 : Int) ≤ s2 ∧ s2 < ((p_l.length : Nat) : Int)) <|
                k3 (((gt p_l s2).2.1) == kind)
                else
                k3 false)))
          else
            k1 ())) bigF 0)))

/-- dormouse/dormouselaw08.NotesBack -/
def law08_NotesBack (p_l : List ((List UInt8) × Int × (List Int))) (b : List Int) : Option (Bool) :=
  (law08_awake).bind fun z1 =>
  (if (!z1) = true then
    some false
  else
    (law08_few p_l).bind fun z2 =>
    jn (fun (s1 : Bool) =>
      (if (s1) = true then
        some true
      else
        (notes_Put p_l).bind fun z3 =>
        (notes_Get z3.1).bind fun z4 =>
        jn (fun (s2 : Bool) =>
          (if (s2) = true then
            some false
          else
            (notes_Get b).bind fun z8 =>
            (if (z8.2 != 0) = true then
              some (((z8.1.length : Nat) : Int) == 0)
            else
              (notes_Put z8.1).bind fun z9 =>
              jn (fun (s3 : Bool) =>
                some s3) (fun k3 =>
                (if (z9.2 == 0) = true then
                k3 ((toStr z9.1) == (toStr b))
                else
                k3 false))))) (fun k2 =>
          (if (z3.2 == 0) = true then
          (if (z4.2 != 0) = true then
          k2 true
          else
          (law08_model z4.1).bind fun z5 =>
          (law08_model p_l).bind fun z6 =>
          (law08_same z5 z6).bind fun z7 =>
          k2 (!z7))
          else
          k2 false)))) (fun k1 =>
      (if (!z2) = true then
      k1 true
      else
      k1 (decide (((b.length : Nat) : Int) > 5000)))))

/-- dormouse/dormouselaw08.NotesHeads -/
def law08_NotesHeads (n : Int) (p_d : Int) (kind : Int) (b : List Int) : Option (Bool) :=
  (law08_awake).bind fun z1 =>
  (if (!z1) = true then
    some false
  else
    (if (decide (((b.length : Nat) : Int) > 2000)) = true then
      some true
    else
      jn (fun (s1 : List Int) =>
        jn (fun (s3 : List Int) =>
          jn (fun (s5 : List Int) =>
            gd ((s5.length + b.length) * 1 ≤ 140737488355328) <|
            (notes_Get (s5 ++ b)).bind fun z2 =>
            (ref08_Get (s5 ++ b)).bind fun z3 =>
            jn (fun (s7 : Bool) =>
              some s7) (fun k4 =>
              (if (z2.2 == z3.2) = true then
              (law08_model z2.1).bind fun z4 =>
              (law08_same z4 z3.1).bind fun z5 =>
              k4 z5
              else
              k4 false))) (fun k3 =>
            loopK (fun (s6 : (List Int) × Int) rec3 =>
              (if (decide (s6.2 < 4)) = true then
                gd ((0 : Int) ≤ (IntKind.u64.wrap (IntKind.i64.wrap (8 * s6.2)))) <|
                gd ((s6.1.length + ([IntKind.u8.wrap (shr .u32 kind (IntKind.u64.wrap (IntKind.i64.wrap (8 * s6.2))))] : List Int).length) * 1 ≤ 140737488355328) <|
                let1 (IntKind.i64.wrap (s6.2 + 1)) fun i_3 =>
                rec3 ((s6.1 ++ ([IntKind.u8.wrap (shr .u32 kind (IntKind.u64.wrap (IntKind.i64.wrap (8 * s6.2))))] : List Int)), i_3)
              else
                k3 s6.1)) bigF (s3, 0))) (fun k2 =>
          loopK (fun (s4 : (List Int) × Int) rec2 =>
            (if (decide (s4.2 < 4)) = true then
              gd ((0 : Int) ≤ (IntKind.u64.wrap (IntKind.i64.wrap (8 * s4.2)))) <|
              gd ((s4.1.length + ([IntKind.u8.wrap (shr .u32 p_d (IntKind.u64.wrap (IntKind.i64.wrap (8 * s4.2))))] : List Int).length) * 1 ≤ 140737488355328) <|
              let1 (IntKind.i64.wrap (s4.2 + 1)) fun i_2 =>
              rec2 ((s4.1 ++ ([IntKind.u8.wrap (shr .u32 p_d (IntKind.u64.wrap (IntKind.i64.wrap (8 * s4.2))))] : List Int)), i_2)
            else
              k2 s4.1)) bigF (s1, 0))) (fun k1 =>
        loopK (fun (s2 : (List Int) × Int) rec1 =>
          (if (decide (s2.2 < 4)) = true then
            gd ((0 : Int) ≤ (IntKind.u64.wrap (IntKind.i64.wrap (8 * s2.2)))) <|
            gd ((s2.1.length + ([IntKind.u8.wrap (shr .u32 n (IntKind.u64.wrap (IntKind.i64.wrap (8 * s2.2))))] : List Int).length) * 1 ≤ 140737488355328) <|
            let1 (IntKind.i64.wrap (s2.2 + 1)) fun i_1 =>
            rec1 ((s2.1 ++ ([IntKind.u8.wrap (shr .u32 n (IntKind.u64.wrap (IntKind.i64.wrap (8 * s2.2))))] : List Int)), i_1)
          else
            k1 s2.1)) bigF ([], 0))))

/-- dormouse/dormouselaw08.NotesMany -/
def law08_NotesMany (n : Int) : Option (Bool) :=
  (law08_awake).bind fun z1 =>
  (if (!z1) = true then
    some false
  else
    let1 (IntKind.i64.wrap (65500 + (band .i64 n 63))) fun k_1 =>
    gd ((0 : Int) ≤ k_1 ∧ k_1 * ((1 : Nat) : Int) ≤ 281474976710656) <|
    (notes_Put ([([97, 98, 99], 0, (List.replicate (Int.toNat k_1) (0 : Int)))] : List ((List UInt8) × Int × (List Int)))).bind fun z2 =>
    let1 (IntKind.i64.wrap (16 + (IntKind.i64.wrap ((IntKind.i64.wrap (Int.tdiv (IntKind.i64.wrap (k_1 + 3)) 4)) * 4)))) fun size_1 =>
    (if (decide (size_1 > 65536)) = true then
      jn (fun (s1 : Bool) =>
        some s1) (fun k1 =>
        (if (z2.2 == 13) = true then
        k1 (((z2.1.length : Nat) : Int) == 0)
        else
        k1 false))
    else
      (notes_Get z2.1).bind fun z3 =>
      gd ((0 : Int) ≤ 65537 ∧ 65537 * ((1 : Nat) : Int) ≤ 281474976710656) <|
      (notes_Get (List.replicate (Int.toNat 65537) (0 : Int))).bind fun z4 =>
      jn (fun (s2 : Bool) =>
        some s2) (fun k2 =>
        (if (z2.2 == 0) = true then
        (if (((z2.1.length : Nat) : Int) == size_1) = true then
        (if (z3.2 == 0) = true then
        (if (((z3.1.length : Nat) : Int) == 1) = true then
        gd ((0 : Int) ≤ 0 ∧ 0 < ((z3.1.length : Nat) : Int)) <|
        (if (((((gt z3.1 0).2.2).length : Nat) : Int) == k_1) = true then
        k2 (z4.2 == 13)
        else
        k2 false)
        else
        k2 false)
        else
        k2 false)
        else
        k2 false)
        else
        k2 false))))

end Dm
