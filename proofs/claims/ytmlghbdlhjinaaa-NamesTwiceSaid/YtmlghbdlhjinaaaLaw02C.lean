/-
  The laws of layer 2 on tables that are built: each is true. Conditions: lengths at most 2^63 - 1.
-/
import Derived.Test.YtmlghbdlhjinaaaLaw02B
namespace Dm
open Go

def longS (l : List Str) : Bool := decide (l.length > 60) || l.any fun s => decide (s.length > 2000)
theorem law02_long_eq {l : List Str} : law02_long l = some (longS l) := by
  unfold law02_long longS
  by_cases h : l.length > 60
  · rw [if_pos (by simp; omega)]; simp [h]
  · rw [if_neg (by simp; omega), jn_eq]
    refine loop_to (fun i => (i : Int)) (fun i => some ((l.drop i).any fun s => decide (s.length > 2000))) l.length rfl (by simp [h]) (by omega) ?_
    intro i rec hi hrec
    show _ = some ((l.drop i).any fun s => decide (s.length > 2000))
    by_cases hlt : i < l.length
    · rw [dif_lt hlt, if_pos rfl, gd_pos (by omega), gt_nat hlt, let1_eq, i64s (by omega), List.drop_eq_getElem_cons hlt, List.any_cons]
      by_cases h2 : l[i].length > 2000
      · have : decide (l[i].length > 2000) = true := by simpa using h2
        rw [if_pos (by simp; omega), this, Bool.true_or]
      · have : decide (l[i].length > 2000) = false := by simpa using h2
        rw [if_neg (by simp; omega), hrec hlt, this, Bool.false_or]
    · obtain rfl : i = l.length := by omega
      rw [dif_ge (by omega), List.drop_length]; rfl
theorem tot_le {l : List Str} (h : ∀ s ∈ l, s.length ≤ 2000) : tot l ≤ 2001 * l.length := by
  induction l with
  | nil => simp [tot]
  | cons s l ih =>
    have h1 := h s (by simp)
    have h2 := ih fun s hs => h s (by simp [hs])
    unfold tot at h2 ⊢; rw [List.map_cons, List.sum_cons, List.length_cons]; omega
theorem longS_false {l : List Str} (h : longS l = false) : tot l ≤ 200000 ∧ l.length ≤ 60 := by
  unfold longS at h
  rw [Bool.or_eq_false_iff] at h
  have h1 : l.length ≤ 60 := by simpa using h.1
  have h2 : ∀ s ∈ l, s.length ≤ 2000 := by
    intro s hs
    have := List.any_eq_false.1 h.2 s hs
    simpa using this
  have := tot_le h2
  omega
theorem buildS_err {l : List Str} (h : (buildS l).2.2 ≠ 0) : (buildS l).1 = [] ∧ (buildS l).2.1 = [] := by
  unfold buildS at h ⊢
  split at h
  · rename_i hz; rw [if_pos hz]; exact ⟨rfl, rfl⟩
  · rename_i hz
    split at h
    · rename_i hT; rw [if_neg hz, if_pos hT]; exact ⟨rfl, rfl⟩
    · simp at h
theorem buildS_ok {l : List Str} (h : (buildS l).2.2 = 0) : hasZ l = false ∧ (bfold l).1.length ≤ 65536 ∧ (buildS l).1 = (bfold l).1 ∧ (buildS l).2.1 = (bfold l).2.1 := by
  unfold buildS at h ⊢
  split at h
  · simp at h
  · rename_i hz
    split at h
    · simp at h
    · rename_i hT
      rw [if_neg hz, if_neg hT]
      exact ⟨by simpa using hz, by omega, rfl, rfl⟩
theorem places_le (l : List Str) : (buildS l).2.1.length ≤ l.length := by
  unfold buildS
  split
  · simp
  · split
    · simp
    · exact Nat.le_of_eq (BI.all l).len
theorem NamesBuilds_true {l : List Str} (_ : l.length ≤ 9223372036854775807) (_ : ∀ y ∈ l, y.length ≤ 9223372036854775807) : law02_NamesBuilds l = some true := by
  unfold law02_NamesBuilds
  rw [bd_eq law02_awake_true]
  simp only [Bool.not_true, Bool.false_eq_true, if_false]
  rw [bd_eq law02_long_eq]
  cases hlg : longS l
  · have ht := longS_false hlg
    have hp := places_le l
    rw [if_neg (by simp), bd_eq (names_Build_eq (by omega)), bd_eq (ref02_Build_eq (by omega)), jn_eq, if_neg (by simp), if_neg (by simp)]
    generalize buildS l = r at hp
    dsimp only
    rw [if_neg (by simp), jn_eq]
    refine loop_at (fun i => (i : Int)) r.2.1.length rfl (by omega) ?_
    intro i rec hi hrec
    by_cases hlt : i < r.2.1.length
    · rw [dif_lt hlt, if_pos rfl, gd_pos (by omega), gd_pos (by omega), if_neg (by simp), let1_eq, i64s (by omega), hrec hlt]
    · rw [dif_ge (by omega), if_neg (by simp)]
  · rw [if_pos rfl]
theorem toStr_ofStr (s : Str) : toStr (ofStr s) = s := by
  unfold toStr ofStr
  rw [List.map_map]
  conv => rhs; rw [← List.map_id s]
  apply List.map_congr_left
  intro x _
  simp
theorem fz_str : ∀ (s : Str) (r : List Int), hasB s 0 = false → fz (ofStr s ++ 0 :: r) = some s.length
  | [], r, _ => rfl
  | u :: s, r, h => by
    have h' : (u == 0 || hasB s 0) = false := h
    rw [Bool.or_eq_false_iff] at h'
    have hu : ((u.toNat : Nat) : Int) ≠ 0 := by
      intro e
      have := (u8_zero u).1 (by rw [e]; rfl)
      subst this; simp at h'
    show fz (((u.toNat : Nat) : Int) :: (ofStr s ++ 0 :: r)) = _
    rw [fz, if_neg hu, fz_str s r h'.2]; rfl
theorem atS_str {T : List Int} {a : Int} {s : Str} {r : List Int} (h0 : 0 ≤ a) (h1 : a < T.length) (hd : T.drop a.toNat = ofStr s ++ 0 :: r) (hs : hasB s 0 = false) : atS T a = (s, 0) := by
  unfold atS
  rw [if_neg (by omega), hd, fz_str s r hs]
  show (toStr ((ofStr s ++ 0 :: r).take s.length), (0 : Int)) = _
  rw [show (ofStr s ++ 0 :: r).take s.length = ofStr s by rw [← ofStr_length s, List.take_left], toStr_ofStr]
theorem at_place {l : List Str} {i : Nat} (hz : hasZ l = false) (h : i < l.length) (h2 : i < (bfold l).2.1.length) : atS (bfold l).1 (bfold l).2.1[i] = (l[i], 0) ∧ 0 ≤ (bfold l).2.1[i] := by
  have hI := BI.all l
  have hm : (l[i], (bfold l).2.1[i]) ∈ l.zip (bfold l).2.1 := by
    have hz : i < (l.zip (bfold l).2.1).length := by rw [List.length_zip]; omega
    have := List.getElem_mem hz
    rwa [List.getElem_zip] at this
  have ho := hI.own _ _ hm
  have hv := hI.val _ _ ho
  obtain ⟨r, hr⟩ := hI.txt _ _ ho
  have hs : hasB l[i] 0 = false := by
    have := List.any_eq_false.1 hz l[i] (List.getElem_mem h)
    simpa using this
  exact ⟨atS_str hv.1 hv.2 hr hs, hv.1⟩
theorem check_bfold (l : List Str) : checkS (bfold l).1 = 0 := by
  have hI := BI.all l
  obtain ⟨r, hr⟩ := hI.fst
  obtain ⟨q, hq⟩ := hI.lst
  unfold checkS
  have hp := hI.pos
  rw [if_neg (by omega), if_neg (by rw [hr]; simp), if_neg]
  rw [hq]
  simp
theorem NamesBack_true {l : List Str} (_ : l.length ≤ 9223372036854775807) (_ : ∀ y ∈ l, y.length ≤ 9223372036854775807) : law02_NamesBack l = some true := by
  unfold law02_NamesBack
  rw [bd_eq law02_awake_true]
  simp only [Bool.not_true, Bool.false_eq_true, if_false]
  rw [bd_eq law02_long_eq]
  cases hlg : longS l
  · have ht := longS_false hlg
    rw [if_neg (by simp), bd_eq (names_Build_eq (by omega))]
    by_cases he : (buildS l).2.2 = 0
    · obtain ⟨hz, hT, h1, h2⟩ := buildS_ok he
      have hI := BI.all l
      have hlen := hI.len
      rw [if_neg (by simp [he]), h1, h2, jn_eq, if_neg (by simp [hlen]), bd_eq (names_Check_eq (by omega)), check_bfold]
      dsimp only
      rw [if_neg (by simp), jn_eq]
      refine loop_at (fun i => (i : Int)) l.length rfl (by omega) ?_
      intro i rec hi hrec
      by_cases hlt : i < l.length
      · have hat := at_place hz hlt (by omega)
        rw [dif_lt hlt, if_pos rfl, gd_pos (by omega), gt_nat (show i < (bfold l).2.1.length by omega), bd_eq (names_At_eq (by omega) hat.2), hat.1, jn_eq, if_neg (by simp), gd_pos (by omega), gt_nat hlt]
        dsimp only
        rw [if_neg (by simp), let1_eq, i64s (by omega), hrec hlt]
      · rw [dif_ge (by omega), if_neg (by simp)]
    · obtain ⟨h1, h2⟩ := buildS_err he
      rw [if_pos (bne_iff_ne.2 he), h1, h2, jn_eq]; rfl
  · rw [if_pos rfl]
theorem NamesOne_true {s : Str} (_ : s.length ≤ 9223372036854775807) : law02_NamesOne s = some true := by
  unfold law02_NamesOne
  rw [bd_eq law02_awake_true]
  simp only [Bool.not_true, Bool.false_eq_true, if_false]
  by_cases hc : s.length ≤ 2000
  · have ht : tot [s] ≤ 2001 := by unfold tot; simp; omega
    rw [if_neg (by simp; omega), bd_eq (names_Build_eq (by omega)), bd_eq (ref02_Build_eq (by omega)), jn_eq, if_neg (by simp), if_neg (by simp)]
    dsimp only
    rw [if_neg (by simp)]
    by_cases he : (buildS [s]).2.2 = 0
    · obtain ⟨hz, hT, h1, h2⟩ := buildS_ok he
      have hlen := (BI.all [s]).len
      have h0 : 0 < (bfold [s]).2.1.length := by rw [hlen]; simp
      have hat := at_place (i := 0) hz (by simp) h0
      have hO : (bfold [s]).2.1[0] = if s = [] then 0 else 1 := by
        by_cases hs : s = []
        · subst hs; rfl
        · have : bfold [s] = ([0] ++ ofStr s ++ [0], [1], mpPut [([], 0)] s 1) := by
            unfold bfold; rw [List.foldl_cons, List.foldl_nil]; unfold bst
            simp [mpGet, hs]
          simp only [this, if_neg hs]; rfl
      have hg : gt (bfold [s]).2.1 0 = (bfold [s]).2.1[0] := gt_nat (i := 0) h0
      rw [if_neg (by simp [he]), h1, h2, jn_eq]
      have hfin : ∀ w : Int, w = (bfold [s]).2.1[0] → ((fun (s2 : Int) =>
              gd ((0 : Int) ≤ 0 ∧ 0 < (((bfold [s]).2.1.length : Nat) : Int)) <|
              (names_At (bfold [s]).1 (gt (bfold [s]).2.1 0)).bind fun z4 =>
              jn (fun (s3 : Bool) =>
                some s3) (fun k3 =>
                gd ((0 : Int) ≤ 0 ∧ 0 < (((bfold [s]).2.1.length : Nat) : Int)) <|
                (if ((gt (bfold [s]).2.1 0) == s2) = true then
                (if (z4.1 == s) = true then
                k3 (z4.2 == 0)
                else
                k3 false)
                else
                k3 false))) w) = some true := by
        intro w hw
        dsimp only
        rw [gd_pos (by omega), hg, bd_eq (names_At_eq (by omega) hat.2), hat.1, jn_eq, gd_pos (by omega), if_pos (by simp [hw]), if_pos (by simp)]; rfl
      by_cases hs : s = []
      · rw [if_pos (by simp [hs])]; exact hfin 0 (by rw [hO, if_pos hs])
      · rw [if_neg (by simp [hs])]; exact hfin 1 (by rw [hO, if_neg hs])
    · obtain ⟨_, h2⟩ := buildS_err he
      rw [if_pos (bne_iff_ne.2 he), h2]; rfl
  · rw [if_pos (by simp; omega)]
theorem fold_hits : ∀ (q : List Str) (ps : List Int) (S : BS), q.length = ps.length → (∀ s a, (s, a) ∈ q.zip ps → mpGet S.2.2 s = some a) → q.foldl bst S = (S.1, S.2.1 ++ ps, S.2.2)
  | [], ps, S, hl, _ => by
    have : ps = [] := List.length_eq_zero_iff.1 hl.symm
    subst this; simp
  | s :: q, [], S, hl, _ => by simp at hl
  | s :: q, a :: ps, S, hl, h => by
    have h1 := h s a (by simp)
    rw [List.foldl_cons]
    have e : bst S s = (S.1, S.2.1 ++ [a], S.2.2) := by unfold bst; rw [h1]
    rw [e, fold_hits q ps (S.1, S.2.1 ++ [a], S.2.2) (by simpa using hl) (fun s' a' hm => h s' a' (by rw [List.zip_cons_cons]; exact List.mem_cons_of_mem _ hm))]
    simp
theorem bfold_twice (l : List Str) : bfold (l ++ l) = ((bfold l).1, (bfold l).2.1 ++ (bfold l).2.1, (bfold l).2.2) := by
  have hI := BI.all l
  have : bfold (l ++ l) = l.foldl bst (bfold l) := by unfold bfold; rw [List.foldl_append]
  rw [this, fold_hits l (bfold l).2.1 _ hI.len.symm hI.own]
theorem hasZ_twice (l : List Str) : hasZ (l ++ l) = hasZ l := by unfold hasZ; rw [List.any_append, Bool.or_self]
theorem buildS_twice (l : List Str) : buildS (l ++ l) = ((buildS l).1, (buildS l).2.1 ++ (buildS l).2.1, (buildS l).2.2) := by
  unfold buildS
  rw [hasZ_twice, bfold_twice]
  dsimp only
  split
  · rfl
  · split <;> rfl
theorem NamesTwice_true {l : List Str} (_ : l.length ≤ 9223372036854775807) (_ : ∀ y ∈ l, y.length ≤ 9223372036854775807) : law02_NamesTwice l = some true := by
  unfold law02_NamesTwice
  rw [bd_eq law02_awake_true]
  simp only [Bool.not_true, Bool.false_eq_true, if_false]
  rw [bd_eq law02_long_eq, jn_eq]
  cases hlg : longS l
  · have ht := longS_false hlg
    rw [if_neg (by simp)]
    by_cases h25 : l.length > 25
    · have : decide (((l.length : Nat) : Int) > 25) = true := by simp; omega
      dsimp only
      rw [this, if_pos rfl]
    · have : decide (((l.length : Nat) : Int) > 25) = false := by simp; omega
      dsimp only
      rw [this, if_neg (by simp), List.nil_append, gd_pos (by simp; omega), gd_pos (by omega), bd_eq (names_Build_eq (by omega)), bd_eq (names_Build_eq (by rw [tot_append]; omega)), buildS_twice]
      have hp := places_le l
      generalize buildS l = r at hp
      obtain ⟨T, O, e⟩ := r
      simp only at hp
      rw [jn_eq, if_neg (by simp), if_neg (by simp)]
      dsimp only
      have hO : ((O ++ O).length : Int) = 2 * O.length := by rw [List.length_append]; omega
      have hfin : jn (fun (_ : Unit) => some true) (fun k3 =>
              loopK (fun (s4 : Int) rec1 =>
                (if (decide (s4 < ((O.length : Nat) : Int))) = true then
                  jn (fun (s5 : Bool) =>
                    (if (s5) = true then
                      some false
                    else
                      let1 (IntKind.i64.wrap (s4 + 1)) fun i_1 =>
                      rec1 i_1)) (fun k4 =>
                    gd ((0 : Int) ≤ s4 ∧ s4 < (((O ++ O).length : Nat) : Int)) <|
                    gd ((0 : Int) ≤ s4 ∧ s4 < ((O.length : Nat) : Int)) <|
                    (if ((gt (O ++ O) s4) != (gt O s4)) = true then
                    k4 true
                    else
                    gd ((0 : Int) ≤ (IntKind.i64.wrap (((O.length : Nat) : Int) + s4)) ∧ (IntKind.i64.wrap (((O.length : Nat) : Int) + s4)) < (((O ++ O).length : Nat) : Int)) <|
                    gd ((0 : Int) ≤ s4 ∧ s4 < ((O.length : Nat) : Int)) <|
                    k4 ((gt (O ++ O) (IntKind.i64.wrap (((O.length : Nat) : Int) + s4))) != (gt O s4))))
                else
                  k3 ())) bigF 0) = some true := by
        rw [jn_eq]
        refine loop_at (fun i => (i : Int)) O.length rfl (by omega) ?_
        intro i rec hi hrec
        by_cases hlt : i < O.length
        · have ew : IntKind.i64.wrap (((O.length : Nat) : Int) + (i : Int)) = ((O.length + i : Nat) : Int) := by rw [i64w (by omega)]; omega
          have g1 : gt (O ++ O) (i : Int) = O[i] := by rw [gt_nat (by rw [List.length_append]; omega), List.getElem_append_left hlt]
          have g2 : gt (O ++ O) ((O.length + i : Nat) : Int) = O[i] := by
            rw [gt_nat (by rw [List.length_append]; omega), List.getElem_append_right (by omega)]
            congr 1; omega
          rw [dif_lt hlt, if_pos rfl, jn_eq, gd_pos (by omega), gd_pos (by omega), g1, gt_nat hlt, if_neg (by simp), ew, gd_pos (by omega), gd_pos (by omega), g2]
          dsimp only
          rw [if_neg (by simp), let1_eq, i64s (by omega), hrec hlt]
        · rw [dif_ge (by omega), if_neg (by simp)]
      by_cases he : e = 0
      · have ew : IntKind.i64.wrap (2 * ((O.length : Nat) : Int)) = 2 * O.length := i64w (by omega)
        rw [if_pos (by simp [he]), ew, if_neg (by rw [hO]; simp)]
        exact hfin
      · rw [if_neg (by simp [he]), if_neg (by simp)]
        exact hfin
  · rw [if_pos rfl]; rfl
theorem band_7 (x : Int) : 0 ≤ band .i64 x 7 ∧ band .i64 x 7 ≤ 7 := by
  unfold band
  have h : (BitVec.ofInt IntKind.i64.bits x &&& BitVec.ofInt IntKind.i64.bits 7).toNat ≤ 7 := by
    rw [BitVec.toNat_and]; exact Nat.and_le_right
  rw [i64w (by omega)]
  omega
theorem set_run (n i : Nat) (h : i < n) : (List.replicate i (97 : Int) ++ List.replicate (n - i) 0).set i 97 = List.replicate (i + 1) 97 ++ List.replicate (n - (i + 1)) 0 := by
  rw [List.set_append_right _ _ (by simp), List.length_replicate, Nat.sub_self, show n - i = (n - (i + 1)) + 1 by omega, List.replicate_succ, List.set_cons_zero, List.replicate_succ', List.append_assoc]; rfl
theorem hasB_rep (n : Nat) : hasB (toStr (List.replicate n 97)) 0 = false := by
  unfold toStr hasB
  rw [List.map_replicate, List.any_replicate]
  split <;> rfl
theorem NamesGreat_true {n : Int} (_ : InK .i64 n) : law02_NamesGreat n = some true := by
  unfold law02_NamesGreat
  rw [bd_eq law02_awake_true]
  simp only [Bool.not_true, Bool.false_eq_true, if_false, let1_eq]
  have hk := band_7 n
  generalize band .i64 n 7 = k at hk
  obtain ⟨m, rfl⟩ := Int.eq_ofNat_of_zero_le hk.1
  have e1 : IntKind.i64.wrap (65530 + (m : Int)) = ((65530 + m : Nat) : Int) := by rw [i64w (by omega)]; omega
  have e2 : IntKind.i64.wrap (((65530 + m : Nat) : Int) + 2) = ((65532 + m : Nat) : Int) := by rw [i64w (by omega)]; omega
  have e3 : IntKind.i64.wrap (65532 + (m : Int)) = ((65532 + m : Nat) : Int) := by rw [i64w (by omega)]; omega
  rw [e1, gd_pos (by omega), e2, e3, jn_eq, Int.toNat_natCast]
  refine loop_at (fun i => ((i : Int), List.replicate i (97 : Int) ++ List.replicate (65530 + m - i) 0)) (65530 + m) (by simp) (by omega) ?_
  intro i rec hi hrec
  have hlen : (List.replicate i (97 : Int) ++ List.replicate (65530 + m - i) 0).length = 65530 + m := by rw [List.length_append, List.length_replicate, List.length_replicate]; omega
  dsimp only at hrec ⊢
  rw [hlen]
  by_cases hlt : i < 65530 + m
  · rw [dif_lt hlt, if_pos rfl, gd_pos (by omega), i64s (by omega), Int.toNat_natCast, set_run _ _ hlt, hrec hlt]
  · obtain rfl : i = 65530 + m := by omega
    rw [dif_ge (by omega), if_neg (by simp), Nat.sub_self, List.replicate_zero, List.append_nil]
    generalize hs : toStr (List.replicate (65530 + m) 97) = s
    have hsl : s.length = 65530 + m := by rw [← hs]; simp [toStr]
    have hz : hasZ [s] = false := by unfold hasZ; rw [List.any_cons, ← hs, hasB_rep]; rfl
    have hne : s ≠ [] := fun e => by rw [e] at hsl; simp at hsl; omega
    have hb : bfold [s] = ([0] ++ ofStr s ++ [0], [1], mpPut [([], 0)] s 1) := by
      unfold bfold; rw [List.foldl_cons, List.foldl_nil]; unfold bst
      simp [mpGet, hne]
    have hT : (bfold [s]).1.length = 65532 + m := by rw [hb]; simp [ofStr_length, hsl]; omega
    rw [bd_eq (names_Build_eq (by unfold tot; simp; omega))]
    have hB : buildS [s] = if 65532 + m > 65536 then ([], [], 13) else ((bfold [s]).1, (bfold [s]).2.1, 0) := by
      unfold buildS; rw [if_neg (by simp [hz]), hT]
    rw [hB]
    by_cases hbig : 65532 + m > 65536
    · rw [if_pos hbig, if_pos (by simp; omega)]; rfl
    · rw [if_neg hbig, if_neg (by simp; omega), jn_eq, if_pos (by simp)]
      dsimp only
      rw [hT]; simp

end Dm
