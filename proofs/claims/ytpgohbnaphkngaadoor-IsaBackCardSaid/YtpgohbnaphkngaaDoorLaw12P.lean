/-
  Law 12: a text as an instruction, in the program and in the reference. No condition.
-/
import Derived.Test.YtpgohbnaphkngaaDoorLaw12N
namespace Dm
open Go

def opW (w : List UInt8) : Option Op12 := gx0.find? fun o => o.2.1 == w
def err11 : Ins12 × Int := ((0, 0, 0, 0, 0), 11)
def setF (f : UInt8) (x : Int) (i : Ins12) : Ins12 :=
  if f = 97 then (i.1, x, i.2.2.1, i.2.2.2.1, i.2.2.2.2) else if f = 98 then (i.1, i.2.1, x, i.2.2.2.1, i.2.2.2.2) else if f = 99 then (i.1, i.2.1, i.2.2.1, x, i.2.2.2.2) else (i.1, i.2.1, i.2.2.1, i.2.2.2.1, x)
def getF (f : UInt8) (i : Ins12) : Int := if f = 97 then i.2.1 else if f = 98 then i.2.2.1 else if f = 99 then i.2.2.2.1 else i.2.2.2.2
def fillP : List UInt8 → List (List UInt8) → Ins12 → Option Ins12
  | [], _, i => some i
  | _ :: _, [], _ => none
  | f :: fs, w :: ws, i => match numP w with
    | some x => fillP fs ws (setF f x i)
    | none => none
def fillR : List UInt8 → List (List UInt8) → Ins12 → Option (List (List UInt8) × Ins12)
  | [], ws, i => some (ws, i)
  | _ :: _, [], _ => none
  | f :: fs, w :: ws, i => fillR fs ws (setF f (readP w) i)
def endP (r : Option Ins12) : Ins12 × Int := match r with
  | some i => if ok12 i then (i, 0) else err11
  | none => err11
def endR (r : Option (List (List UInt8) × Ins12)) : Ins12 × Int := match r with
  | some p => if p.1 = [] ∧ (ok12 p.2 && range12 p.2.2.2.2.2) = true then (p.2, 0) else err11
  | none => err11
def parseW : List (List UInt8) → Ins12 × Int
  | [] => err11
  | w0 :: args => match opW w0 with
    | none => err11
    | some o => if args.length = o.2.2.length then endP (fillP o.2.2 args (o.1, 0, 0, 0, 0)) else err11
def parseR : List (List UInt8) → Ins12 × Int
  | [] => err11
  | w0 :: args => match opW w0 with
    | none => err11
    | some o => endR (fillR o.2.2 args (o.1, 0, 0, 0, 0))

theorem inK_32z : InK .i32 0 := inK_mk32 (by decide) (by decide)
/-! words -/
theorem wordsB_mem (c : UInt8) : ∀ (l cur w : List UInt8), w ∈ wordsB c cur l → w ≠ [] ∧ w.length ≤ cur.length + l.length
  | [], cur, w, h => by
    rw [wordsB] at h
    cases cur with
    | nil => simp at h
    | cons b m => simp at h; subst h; simp
  | b :: l, cur, w, h => by
    rw [wordsB] at h
    split at h
    · split at h
      · have := wordsB_mem c l [] w h
        simp only [List.length_nil, List.length_cons] at this ⊢
        exact ⟨this.1, by omega⟩
      · rename_i hne
        rcases List.mem_cons.1 h with rfl | h
        · exact ⟨fun e => hne (by rw [e]; rfl), by simp⟩
        · have := wordsB_mem c l [] w h
          simp only [List.length_nil, List.length_cons] at this ⊢
          exact ⟨this.1, by omega⟩
    · have := wordsB_mem c l (cur ++ [b]) w h
      simp only [List.length_append, List.length_cons, List.length_nil] at this ⊢
      exact ⟨this.1, by omega⟩
theorem wordsB_count (c : UInt8) : ∀ (l cur : List UInt8), (wordsB c cur l).length ≤ l.length + 1
  | [], cur => by rw [wordsB]; split <;> simp
  | b :: l, cur => by
    rw [wordsB]
    have h1 := wordsB_count c l []
    have h2 := wordsB_count c l (cur ++ [b])
    split
    · split
      · simp only [List.length_cons]; omega
      · simp only [List.length_cons]; omega
    · simp only [List.length_cons]; omega

/-! the program -/
theorem ixf_parse (ws : List (List UInt8)) (hw : 0 < ws.length) (l : List Op12) (hl : l.length ≤ 9223372036854775806) : slices_IndexFunc_isa_op_isa_op_Parse_2 l ws = some (ixN 0 (fI (fun o => o.2.1 == ws[0]) l)) := by
  unfold slices_IndexFunc_isa_op_isa_op_Parse_2
  rw [jn_eq]
  refine scan_ix l (by omega) (fun o => o.2.1 == ws[0]) (fun k rec hk => ?_) (fun rec => ?_)
  · rw [dif_lt hk, if_pos rfl, gd_pos ⟨by omega, by omega⟩, gt_nat hk]
    unfold isa_Parse_2
    rw [gd_pos ⟨by omega, by omega⟩, show gt ws 0 = ws[0] from gt_nat (i := 0) hw, some_bind, i64s (by omega)]
  · rw [dif_ge (Nat.le_refl _)]
    rfl
theorem find_parse (ws : List (List UInt8)) (hw : 0 < ws.length) : isa_find_Parse_2 ws = some (match opW ws[0] with
    | some o => (o, true)
    | none => (zero12, false)) := by
  unfold isa_find_Parse_2
  rw [ixf_parse ws hw gx0 (by rw [gx0_len]; decide), some_bind]
  exact find_end gx0 _ id rfl
theorem fields_len : gx0.all (fun o => decide (o.2.2.length ≤ 3)) = true := by kernel_rfl
theorem opW_mem {w : List UInt8} {o : Op12} (h : opW w = some o) : o ∈ gx0 ∧ o.2.1 = w := ⟨List.mem_of_find?_eq_some h, by simpa using List.find?_some h⟩
theorem opW_len {w : List UInt8} {o : Op12} (h : opW w = some o) : o.2.2.length ≤ 3 := by simpa using List.all_eq_true.1 fields_len o (opW_mem h).1
theorem setF_range (f : UInt8) {x : Int} {i : Ins12} (hx : -2147483648 ≤ x ∧ x < 2147483648) (hi : InK .i32 i.2.2.2.2) : InK .i32 (setF f x i).2.2.2.2 := by
  unfold setF
  split
  · exact hi
  · split
    · exact hi
    · split
      · exact hi
      · exact inK_mk32 hx.1 (by show x ≤ _; omega)
theorem byte_beq (b : UInt8) (n : Nat) (hn : n < 256) : ((b.toNat : Int) == (n : Int)) = (b == UInt8.ofNat n) := by
  rw [Bool.eq_iff_iff, beq_iff_eq, beq_iff_eq]
  constructor
  · intro e
    exact UInt8.toNat_inj.1 (by rw [UInt8.toNat_ofNat_of_lt' (by show n < 256; omega)]; omega)
  · intro e
    rw [e, UInt8.toNat_ofNat_of_lt' (by show n < 256; omega)]
theorem parse_prog (s : List UInt8) (hl : s.length ≤ 1000000) : isa_Parse s = some (parseW (wordsB 32 [] s)) := by
  unfold isa_Parse
  unfold strings_FieldsFunc_Parse_1
  rw [gd_pos (by omega), some_bind]
  have hc := wordsB_count 32 s []
  have hmem := fun w hw => wordsB_mem 32 s [] w hw
  generalize wordsB 32 [] s = z at hc hmem ⊢
  cases z with
  | nil => rfl
  | cons w0 args =>
    have hfp := find_parse (w0 :: args) (by simp)
    simp only [List.getElem_cons_zero] at hfp
    rw [if_neg (by simp; omega), hfp, some_bind]
    clear hfp
    rcases hoo : opW w0 with _ | o
    · simp only [parseW, hoo]
      rw [jn_eq]; rfl
    · have ho := hoo
      simp only [parseW, hoo]
      have hf3 := opW_len ho
      simp only [List.length_cons] at hc
      have harg : ∀ w ∈ args, w.length ≤ 140737488355328 := fun w hw => by
        have := (hmem w (List.mem_cons_of_mem _ hw)).2
        simp only [List.length_nil] at this; omega
      rw [jn_eq]
      simp only [Bool.not_true, Bool.false_eq_true, if_false]
      rw [i64w (by omega)]
      by_cases hlen : args.length = o.2.2.length
      · have e1 : ((((w0 :: args).length : Nat) : Int) != 1 + ((o.2.2.length : Nat) : Int)) = false := by
          simp only [List.length_cons]
          rw [bne_eq_false_iff_eq]; omega
        rw [e1, if_pos hlen, if_neg (by simp), gd_pos (by omega)]
        refine jn_gen fun k2 hk2 => ?_
        have hol : (ofStr o.2.2).length = o.2.2.length := by simp [ofStr]
        refine loop_run (fun p => ∃ (k : Nat) (i : Ins12), p = ((k : Int), i) ∧ k ≤ o.2.2.length ∧ InK .i32 i.2.2.2.2 ∧ fillP (o.2.2.drop k) (args.drop k) i = fillP o.2.2 args (o.1, 0, 0, 0, 0)) (fun p => o.2.2.length - p.1.toNat) ?_ bigF _ ⟨0, (o.1, 0, 0, 0, 0), rfl, Nat.zero_le _, inK_32z, rfl⟩ (lt_bigF (by omega))
        rintro p rec ⟨k, i, rfl, hk, hi, hinv⟩ hrec
        by_cases hlt : k < o.2.2.length
        · have hka : k < args.length := by omega
          rw [if_pos (show decide ((k : Int) < (((ofStr o.2.2).length : Nat) : Int)) = true by simp [hol]; omega)]
          rw [jn_eq, gd_pos ⟨by omega, by show (k : Int) < (((ofStr o.2.2).length : Nat) : Int); omega⟩, let1_eq, gt_ofStr _ hlt]
          have e2 : IntKind.i64.wrap (1 + (k : Int)) = ((k + 1 : Nat) : Int) := by rw [i64w (by omega)]; omega
          have e3 : gt (w0 :: args) ((k + 1 : Nat) : Int) = args[k] := by
            rw [gt_nat (by simp; omega)]; rfl
          rw [e2, gd_pos ⟨by omega, by simp only [List.length_cons]; omega⟩, e3]
          obtain ⟨x, b, hn, hp⟩ := number_num args[k] (harg _ (List.getElem_mem hka))
          rw [List.drop_eq_getElem_cons hlt, List.drop_eq_getElem_cons hka, fillP] at hinv
          rw [hn, some_bind, ← hinv]
          cases b with
          | false =>
            rw [if_neg (by simp)] at hp
            rw [hp]
            rfl
          | true =>
            rw [if_pos rfl] at hp
            have hx := numP_range hp
            rw [hp]
            rw [hp] at hinv
            dsimp only at hinv
            simp only [Bool.not_true, Bool.false_eq_true, if_false, jn_eq]
            have e97 : ((((o.2.2)[k]).toNat : Int) == 97) = ((o.2.2)[k] == 97) := byte_beq _ 97 (by omega)
            have e98 : ((((o.2.2)[k]).toNat : Int) == 98) = ((o.2.2)[k] == 98) := byte_beq _ 98 (by omega)
            have e99 : ((((o.2.2)[k]).toNat : Int) == 99) = ((o.2.2)[k] == 99) := byte_beq _ 99 (by omega)
            rw [e97, e98, e99, i32w (by omega), i64s (by omega)]
            have hgo : rec (((k + 1 : Nat) : Int), setF (o.2.2)[k] x i) = some (endP (fillP (o.2.2.drop (k + 1)) (args.drop (k + 1)) (setF (o.2.2)[k] x i))) := by
              rw [hinv]
              refine hrec _ ⟨k + 1, setF (o.2.2)[k] x i, rfl, by omega, setF_range _ hx hi, hinv⟩ ?_
              show o.2.2.length - (((k + 1 : Nat) : Int)).toNat < o.2.2.length - ((k : Int)).toNat
              omega
            rw [← hgo]
            unfold setF
            by_cases h97 : (o.2.2)[k] = 97
            · simp [h97]
            · by_cases h98 : (o.2.2)[k] = 98
              · simp [h98]
              · by_cases h99 : (o.2.2)[k] = 99
                · simp [h99]
                · simp [h97, h98, h99]
        · obtain rfl : k = o.2.2.length := by omega
          rw [if_neg (by simp [hol]), hk2]
          rw [List.drop_length, fillP] at hinv
          rw [← hinv]
          dsimp only
          obtain ⟨o2, h1, _⟩ := may_ok i hi
          rw [show (i.1, i.2.1, i.2.2.1, i.2.2.2.1, i.2.2.2.2) = i from rfl, h1, some_bind]
          unfold endP
          dsimp only
          cases ok12 i <;> rfl
      · have e1 : ((((w0 :: args).length : Nat) : Int) != 1 + ((o.2.2.length : Nat) : Int)) = true := by
          simp only [List.length_cons]
          rw [bne_iff_ne]; omega
        rw [e1, if_neg hlen, if_pos rfl]
        rfl

/-! the reference -/
def foldOp (w : List UInt8) : Nat → Int
  | 0 => 0
  | j + 1 => if word12 ((j + 1 : Nat) : Int) == w then ((j + 1 : Nat) : Int) else foldOp w j
theorem op_facts : gx0.all (fun o => foldOp o.2.1 41 == o.1 && (opN o.1 == some o && o.1 != 0)) = true := by kernel_rfl
theorem foldOp_none {w : List UInt8} (hw : w ≠ []) (h : opW w = none) : ∀ j, foldOp w j = 0
  | 0 => rfl
  | j + 1 => by
    rw [foldOp]
    have hne : (word12 ((j + 1 : Nat) : Int) == w) = false := by
      rw [beq_eq_false_iff_ne]
      intro e
      have ht := tab12 ((j + 1 : Nat) : Int)
      cases ho : opN ((j + 1 : Nat) : Int) with
      | none =>
        rw [ho] at ht
        exact hw (by rw [← e]; exact ht)
      | some o =>
        rw [ho] at ht
        have := List.find?_eq_none.1 h o (opN_mem ho).1
        simp only [beq_iff_eq] at this
        exact this (by rw [ht.2.1, e])
    rw [hne]
    simpa using foldOp_none hw h j
def remF (fs : List UInt8) (k : Nat) : List UInt8 := fs.filter fun f => decide (k ≤ (if f = 97 then 0 else if f = 98 then 1 else if f = 99 then 2 else 3))
theorem rem_facts : gx0.all (fun o => remF o.2.2 0 == o.2.2 && (remF o.2.2 4 == [] && [0, 1, 2, 3].all fun k => remF o.2.2 k == (if has12 o.2.2 k then fld k :: remF o.2.2 (k + 1) else remF o.2.2 (k + 1)))) = true := by kernel_rfl
def valsOf (i : Ins12) : List Int := [i.2.1, i.2.2.1, i.2.2.2.1, i.2.2.2.2]
theorem vals_set (i : Ins12) (k : Nat) (hk : k < 4) (x : Int) : (valsOf i).set k x = valsOf (setF (fld k) x i) := by
  match k, hk with
  | 0, _ => rfl
  | 1, _ => rfl
  | 2, _ => rfl
  | 3, _ => rfl
theorem setF_op (f : UInt8) (x : Int) (i : Ins12) : (setF f x i).1 = i.1 := by
  unfold setF; split
  · rfl
  · split
    · rfl
    · split <;> rfl
theorem loop3 (i : Ins12) {k6 : Unit → Option (Ins12 × Int)} {r : Ins12 × Int} (hk6 : ((0 ≤ i.2.1 ∧ i.2.1 ≤ 31) ∧ (0 ≤ i.2.2.1 ∧ i.2.2.1 ≤ 31) ∧ (0 ≤ i.2.2.2.1 ∧ i.2.2.2.1 ≤ 31)) → k6 () = some r)
    (hbad : ¬ ((0 ≤ i.2.1 ∧ i.2.1 ≤ 31) ∧ (0 ≤ i.2.2.1 ∧ i.2.2.1 ≤ 31) ∧ (0 ≤ i.2.2.2.1 ∧ i.2.2.2.1 ≤ 31)) → r = err11) :
    loopK (fun (s9 : Int) rec3 =>
              (if (decide (s9 < 3)) = true then
                jn (fun (s10 : Bool) =>
                  (if (s10) = true then
                    some ((0, 0, 0, 0, 0), 11)
                  else
                    let1 (IntKind.i64.wrap (s9 + 1)) fun k_3 =>
                    rec3 k_3)) (fun k7 =>
                  gd ((0 : Int) ≤ s9 ∧ s9 < (((valsOf i).length : Nat) : Int)) <|
                  (if (decide ((gt (valsOf i) s9) < 0)) = true then
                  k7 true
                  else
                  gd ((0 : Int) ≤ s9 ∧ s9 < (((valsOf i).length : Nat) : Int)) <|
                  k7 (decide ((gt (valsOf i) s9) > 31))))
              else
                k6 ())) bigF 0 = some r := by
  have h := scan_o ([0, 1, 2] : List Nat) (by decide) (fun k => decide (arg12 i k < 0) || decide (arg12 i k > 31)) (fun _ => err11) r (body := fun (s9 : Int) rec3 =>
              (if (decide (s9 < 3)) = true then
                jn (fun (s10 : Bool) =>
                  (if (s10) = true then
                    some ((0, 0, 0, 0, 0), 11)
                  else
                    let1 (IntKind.i64.wrap (s9 + 1)) fun k_3 =>
                    rec3 k_3)) (fun k7 =>
                  gd ((0 : Int) ≤ s9 ∧ s9 < (((valsOf i).length : Nat) : Int)) <|
                  (if (decide ((gt (valsOf i) s9) < 0)) = true then
                  k7 true
                  else
                  gd ((0 : Int) ≤ s9 ∧ s9 < (((valsOf i).length : Nat) : Int)) <|
                  k7 (decide ((gt (valsOf i) s9) > 31))))
              else
                some r)) (fun k rec hk => ?_) (fun rec => ?_)
  · by_cases hok : (0 ≤ i.2.1 ∧ i.2.1 ≤ 31) ∧ (0 ≤ i.2.2.1 ∧ i.2.2.1 ≤ 31) ∧ (0 ≤ i.2.2.2.1 ∧ i.2.2.2.1 ≤ 31)
    · rw [hk6 hok]
      refine h.trans (congrArg some ?_)
      have : ([0, 1, 2] : List Nat).find? (fun k => decide (arg12 i k < 0) || decide (arg12 i k > 31)) = none := by
        rw [List.find?_eq_none]
        intro x hx
        simp only [List.mem_cons, List.not_mem_nil, or_false] at hx
        rcases hx with rfl | rfl | rfl <;> simp [arg12] <;> omega
      rw [this]; rfl
    · have hr := hbad hok
      subst hr
      have h2 : ∃ k, ([0, 1, 2] : List Nat).find? (fun k => decide (arg12 i k < 0) || decide (arg12 i k > 31)) = some k := by
        cases hf : ([0, 1, 2] : List Nat).find? (fun k => decide (arg12 i k < 0) || decide (arg12 i k > 31)) with
        | some k => exact ⟨k, rfl⟩
        | none =>
          rw [List.find?_eq_none] at hf
          have a0 := hf 0 (by simp)
          have a1 := hf 1 (by simp)
          have a2 := hf 2 (by simp)
          simp [arg12] at a0 a1 a2
          exact absurd ⟨by omega, by omega, by omega⟩ hok
      obtain ⟨kb, hkb⟩ := h2
      have hkm := List.mem_of_find?_eq_some hkb
      have hkp := List.find?_some hkb
      -- the loop stops ahead of its end
      refine loop_T (fun k => (k : Int)) (fun _ => some err11) kb (fun k rec hk hrec => ?_) bigF 0 (Nat.zero_le _) (lt_bigF (by simp at hkm; omega))
      have hkb3 : kb < 3 := by simp at hkm; omega
      have hx : gt (valsOf i) (k : Int) = arg12 i k := by
        have : k < 3 := by omega
        match k, this with
        | 0, _ => rfl
        | 1, _ => rfl
        | 2, _ => rfl
      have hg : (0 : Int) ≤ (k : Int) ∧ (k : Int) < (((valsOf i).length : Nat) : Int) := ⟨by omega, by show (k : Int) < ((4 : Nat) : Int); omega⟩
      rw [if_pos (show decide ((k : Int) < 3) = true by simp; omega)]
      simp only [jn_eq, let1_eq, gd_pos hg, hx]
      rw [i64s (by omega)]
      by_cases hke : k = kb
      · subst hke
        simp only [Bool.or_eq_true] at hkp
        rcases hkp with hkp | hkp
        · rw [if_pos hkp]; rfl
        · rw [hkp]
          split <;> rfl
      · rw [hrec (by omega)]
        split
        · rfl
        · split <;> rfl
  · have hk3 : k < 3 := hk
    have hkk : ([0, 1, 2] : List Nat)[k] = k := by
      match k, hk3 with
      | 0, _ => rfl
      | 1, _ => rfl
      | 2, _ => rfl
    have hx : gt (valsOf i) (k : Int) = arg12 i k := by
      match k, hk3 with
      | 0, _ => rfl
      | 1, _ => rfl
      | 2, _ => rfl
    have hg : (0 : Int) ≤ (k : Int) ∧ (k : Int) < (((valsOf i).length : Nat) : Int) := ⟨by omega, by show (k : Int) < ((4 : Nat) : Int); omega⟩
    rw [hkk, if_pos (show decide ((k : Int) < 3) = true by simp; omega)]
    simp only [jn_eq, let1_eq, gd_pos hg, hx]
    rw [i64s (by omega)]
    cases decide (arg12 i k < 0) <;> cases decide (arg12 i k > 31) <;> rfl
  · rfl
theorem parse_ref (s : List UInt8) (hl : s.length ≤ 1000000) : ref12_Parse s = some (parseR (wordsB 32 [] s)) := by
  unfold ref12_Parse
  rw [split_eq s hl, some_bind]
  have hc := wordsB_count 32 s []
  have hmem := fun w hw => wordsB_mem 32 s [] w hw
  generalize wordsB 32 [] s = z at hc hmem ⊢
  cases z with
  | nil => rfl
  | cons w0 args =>
    rw [if_neg (by simp; omega)]
    simp only [List.length_cons] at hc
    have hw0 := (hmem w0 (List.mem_cons_self ..)).1
    have harg : ∀ w ∈ args, w.length ≤ 140737488355328 := fun w hw => by
      have := (hmem w (List.mem_cons_of_mem _ hw)).2
      simp only [List.length_nil] at this; omega
    refine jn_gen fun k1 hk1 => ?_
    refine loop_at (fun j => (foldOp w0 j, ((j + 1 : Nat) : Int))) 41 rfl (by decide) ?_
    intro j rec hj hrec
    by_cases hj41 : j < 41
    · have hr := hrec hj41
      rw [if_pos (show decide (((j + 1 : Nat) : Int) ≤ 41) = true by simp; omega)]
      simp only [jn_eq, let1_eq]
      rw [word_eq, some_bind, gd_pos ⟨by omega, by simp only [List.length_cons]; omega⟩, show gt (w0 :: args) 0 = w0 from rfl, i64s (by omega), ← hr, foldOp]
      split <;> rfl
    · obtain rfl : j = 41 := by omega
      rw [if_neg (by simp), hk1]
      dsimp only
      simp only [parseR]
      cases ho : opW w0 with
      | none =>
        rw [foldOp_none hw0 ho]
        rfl
      | some o =>
        have hom := opW_mem ho
        have hfacts := List.all_eq_true.1 op_facts o hom.1
        simp only [Bool.and_eq_true] at hfacts
        obtain ⟨hf1, hf2, hf3⟩ := hfacts
        have hfo : foldOp w0 41 = o.1 := by rw [← hom.2]; exact eq_of_beq hf1
        have hoN : opN o.1 = some o := eq_of_beq hf2
        have ho0 : (o.1 == 0) = false := by rw [beq_eq_false_iff_ne]; exact bne_iff_ne.1 hf3
        have ht := tab12 o.1
        rw [hoN] at ht
        have hrem := List.all_eq_true.1 rem_facts o hom.1
        simp only [Bool.and_eq_true] at hrem
        obtain ⟨hr0, hr4, hrs⟩ := hrem
        rw [hfo, ho0]
        rw [if_neg (by simp), gd_pos ⟨by omega, by decide⟩, ht.2.2.2, some_bind]
        refine jn_gen fun k4 hk4 => ?_
        have hend : ∀ (ws : List (List UInt8)) (i : Ins12), i.1 = o.1 → ws.length ≤ args.length → fillR o.2.2 args (o.1, 0, 0, 0, 0) = some (ws, i) → k4 ((((args.length - ws.length) + 1 : Nat) : Int), valsOf i) = some (endR (fillR o.2.2 args (o.1, 0, 0, 0, 0))) := fun ws i hi hws hfr => by
          rw [hk4]
          dsimp only
          refine jn_gen fun k6 hk6 => ?_
          refine loop3 i (fun hok => ?_) (fun hbad => ?_)
          · rw [hk6]
            dsimp only
            rw [gd_pos ⟨by decide, by show (0 : Int) < ((4 : Nat) : Int); decide⟩, gd_pos ⟨by decide, by show (1 : Int) < ((4 : Nat) : Int); decide⟩, gd_pos ⟨by decide, by show (2 : Int) < ((4 : Nat) : Int); decide⟩, gd_pos ⟨by decide, by show (3 : Int) < ((4 : Nat) : Int); decide⟩]
            have e5 : (o.1, gt (valsOf i) 0, gt (valsOf i) 1, gt (valsOf i) 2, gt (valsOf i) 3) = i := by
              rw [← hi]; rfl
            rw [e5, refMay_eq, some_bind, jn_eq, hfr]
            unfold endR
            simp only []
            by_cases hwe : ws = []
            · subst hwe
              have e6 : ((((args.length - ([] : List (List UInt8)).length) + 1 : Nat) : Int) != (((w0 :: args).length : Nat) : Int)) = false := by
                rw [bne_eq_false_iff_eq]; simp
              rw [e6, if_neg (by simp)]
              cases hq : (ok12 i && range12 i.2.2.2.2) <;> simp [err11]
            · have e6 : ((((args.length - ws.length) + 1 : Nat) : Int) != (((w0 :: args).length : Nat) : Int)) = true := by
                rw [bne_iff_ne]
                have : 0 < ws.length := by cases ws with
                  | nil => exact absurd rfl hwe
                  | cons => simp
                simp only [List.length_cons]; omega
              rw [e6]
              simp [hwe, err11]
          · rw [hfr]
            unfold endR
            simp only []
            refine if_neg fun h => hbad ?_
            have hok := h.2
            rw [Bool.and_eq_true] at hok
            obtain ⟨_, b1, b2, b3⟩ := ok_bounds hok.1
            exact ⟨b1, b2, b3⟩
        refine loop_run (fun p => ∃ (k : Nat) (ws : List (List UInt8)) (i : Ins12), p = (bits12 o.2.2 k, (((args.length - ws.length) + 1 : Nat) : Int), (k : Int), valsOf i) ∧ k ≤ 4 ∧ i.1 = o.1 ∧ ws.length ≤ args.length ∧ ws = args.drop (args.length - ws.length) ∧ fillR (remF o.2.2 k) ws i = fillR o.2.2 args (o.1, 0, 0, 0, 0)) (fun p => 4 - p.2.2.1.toNat) ?_ bigF _ ⟨0, args, (o.1, 0, 0, 0, 0), by simp only [Nat.sub_self]; rfl, Nat.zero_le _, rfl, Nat.le_refl _, by simp, by rw [eq_of_beq hr0]⟩ (lt_bigF (by show 4 - 0 ≤ _; omega))
        rintro p rec ⟨k, ws, i, rfl, hk, hi, hws, hwd, hinv⟩ hrec
        by_cases h4 : k < 4
        · have hk2 : remF o.2.2 k = (if has12 o.2.2 k then fld k :: remF o.2.2 (k + 1) else remF o.2.2 (k + 1)) := by
            have := List.all_eq_true.1 hrs k (by
              match k, h4 with
              | 0, _ => simp
              | 1, _ => simp
              | 2, _ => simp
              | 3, _ => simp)
            exact eq_of_beq this
          obtain ⟨_, b2, b3⟩ := bits_step o.2.2 k h4
          rw [if_pos (show decide ((k : Int) < 4) = true by simp; omega)]
          simp only [jn_eq, let1_eq, b2, b3]
          rw [i64s (i := k) (by omega), i64s (i := args.length - ws.length + 1) (by omega)]
          rw [hk2] at hinv
          have hmeas : ∀ (x y : Int) (v : List Int), 4 - ((x, y, ((k + 1 : Nat) : Int), v) : Int × Int × Int × List Int).2.2.1.toNat < 4 - ((bits12 o.2.2 k, (((args.length - ws.length) + 1 : Nat) : Int), (k : Int), valsOf i) : Int × Int × Int × List Int).2.2.1.toNat := fun x y v => by
            show 4 - (((k + 1 : Nat) : Int)).toNat < 4 - ((k : Int)).toNat
            omega
          cases hh : has12 o.2.2 k with
          | false =>
            rw [hh] at hinv
            rw [if_neg (by simp)] at hinv ⊢
            exact hrec _ ⟨k + 1, ws, i, rfl, by omega, hi, hws, hwd, hinv⟩ (hmeas _ _ _)
          | true =>
            rw [hh] at hinv
            rw [if_pos rfl] at hinv ⊢
            cases ws with
            | nil =>
              rw [if_pos (show decide ((((args.length - ([] : List (List UInt8)).length) + 1 : Nat) : Int) ≥ (((w0 :: args).length : Nat) : Int)) = true by simp)]
              rw [← hinv]
              rfl
            | cons w ws2 =>
              simp only [List.length_cons] at hws hwd
              rw [if_neg (show ¬ decide ((((args.length - (w :: ws2).length) + 1 : Nat) : Int) ≥ (((w0 :: args).length : Nat) : Int)) = true by simp; omega), gd_pos ⟨by omega, by simp only [List.length_cons]; omega⟩]
              have hlt : args.length - (ws2.length + 1) < args.length := by omega
              have hd2 := List.drop_eq_getElem_cons hlt
              rw [← hwd] at hd2
              simp only [List.cons.injEq] at hd2
              have e7 : gt (w0 :: args) ((((args.length - (w :: ws2).length) + 1 : Nat)) : Int) = w := by
                rw [gt_nat (by simp only [List.length_cons]; omega)]
                simp only [List.length_cons, List.getElem_cons_succ]
                exact hd2.1.symm
              rw [e7, read_eq w (harg w (by rw [hd2.1]; exact List.getElem_mem _)), some_bind, gd_pos ⟨by omega, by show (k : Int) < ((4 : Nat) : Int); omega⟩]
              rw [fillR] at hinv
              have e8 : (args.length - (w :: ws2).length + 1 + 1 : Nat) = args.length - ws2.length + 1 := by simp only [List.length_cons]; omega
              rw [e8, Int.toNat_natCast, vals_set i k h4]
              refine hrec _ ⟨k + 1, ws2, setF (fld k) (readP w) i, rfl, by omega, by rw [setF_op]; exact hi, by omega, ?_, hinv⟩ (hmeas _ _ _)
              have e9 : args.length - (ws2.length + 1) + 1 = args.length - ws2.length := by omega
              rw [e9] at hd2
              exact hd2.2
        · obtain rfl : k = 4 := by omega
          rw [if_neg (by simp)]
          rw [eq_of_beq hr4, fillR] at hinv
          exact hend ws i hi hws hinv.symm

/-! the two of them -/
def flds12 : List UInt8 := [97, 98, 99, 105]
theorem fields_ok : gx0.all (fun o => o.2.2.all (fun f => flds12.contains f) && decide (o.2.2.Nodup)) = true := by kernel_rfl
theorem getF_set {f g : UInt8} (hf : f ∈ flds12) (hg : g ∈ flds12) (hne : f ≠ g) (x : Int) (i : Ins12) : getF f (setF g x i) = getF f i := by
  simp only [flds12, List.mem_cons, List.not_mem_nil, or_false] at hf hg
  rcases hf with rfl | rfl | rfl | rfl <;> rcases hg with rfl | rfl | rfl | rfl <;> first | exact absurd rfl hne | rfl
theorem getF_set_same {f : UInt8} (hf : f ∈ flds12) (x : Int) (i : Ins12) : getF f (setF f x i) = x := by
  simp only [flds12, List.mem_cons, List.not_mem_nil, or_false] at hf
  rcases hf with rfl | rfl | rfl | rfl <;> rfl
def outR (x : Int) : Prop := x < -2147483648 ∨ 2147483648 ≤ x
theorem fillR_keeps : ∀ (fs : List UInt8) (ws : List (List UInt8)) (i : Ins12) (f : UInt8), f ∈ flds12 → (∀ g ∈ fs, g ∈ flds12) → f ∉ fs → outR (getF f i) → ∀ p, fillR fs ws i = some p → outR (getF f p.2)
  | [], ws, i, f, _, _, _, ho, p, h => by
    obtain rfl := Option.some.inj h
    exact ho
  | g :: fs, [], i, f, _, _, _, _, p, h => by cases h
  | g :: fs, w :: ws, i, f, hf, hfs, hn, ho, p, h => by
    rw [fillR] at h
    refine fillR_keeps fs ws _ f hf (fun x hx => hfs x (by simp [hx])) (fun hx => hn (by simp [hx])) ?_ p h
    rw [getF_set hf (hfs g (by simp)) (fun e => hn (by simp [e]))]
    exact ho
theorem out_bad {f : UInt8} {i : Ins12} (hf : f ∈ flds12) (ho : outR (getF f i)) : (ok12 i && range12 i.2.2.2.2) = false := by
  cases h : ok12 i && range12 i.2.2.2.2 with
  | false => rfl
  | true =>
    rw [Bool.and_eq_true] at h
    obtain ⟨_, b1, b2, b3⟩ := ok_bounds h.1
    have hr : -2147483648 ≤ i.2.2.2.2 ∧ i.2.2.2.2 ≤ 2147483647 := by simpa [range12] using h.2
    simp only [flds12, List.mem_cons, List.not_mem_nil, or_false] at hf
    unfold outR at ho
    exfalso
    rcases hf with rfl | rfl | rfl | rfl
    · have : getF 97 i = i.2.1 := rfl
      omega
    · have : getF 98 i = i.2.2.1 := rfl
      omega
    · have : getF 99 i = i.2.2.2.1 := rfl
      omega
    · have : getF 105 i = i.2.2.2.2 := rfl
      omega
theorem fill_two : ∀ (fs : List UInt8) (ws : List (List UInt8)) (i : Ins12), (∀ g ∈ fs, g ∈ flds12) → fs.Nodup → InK .i32 i.2.2.2.2 → (if ws.length = fs.length then endP (fillP fs ws i) else err11) = endR (fillR fs ws i)
  | [], ws, i, _, _, hi => by
    rw [fillP, fillR]
    unfold endR
    cases ws with
    | nil =>
      have hr : range12 i.2.2.2.2 = true := by have := inK_i32 hi; simp [range12]; omega
      simp only [List.length_nil, if_true, hr, Bool.and_true, true_and]
      rfl
    | cons w ws => simp [err11]
  | f :: fs, [], i, _, _, _ => by
    rw [fillR]
    simp [endR]
  | f :: fs, w :: ws, i, hfs, hnd, hi => by
    have hff := hfs f (by simp)
    have hfs2 : ∀ g ∈ fs, g ∈ flds12 := fun g hg => hfs g (by simp [hg])
    have hnd2 := List.nodup_cons.1 hnd
    rw [fillR, fillP]
    rcases read_num w with hn | ⟨hn, ho⟩
    · rw [hn]
      simp only [List.length_cons, Nat.add_right_cancel_iff]
      exact fill_two fs ws _ hfs2 hnd2.2 (setF_range f (numP_range hn) hi)
    · rw [hn]
      have : endR (fillR fs ws (setF f (readP w) i)) = err11 := by
        cases h : fillR fs ws (setF f (readP w) i) with
        | none => rfl
        | some p =>
          have ho2 := fillR_keeps fs ws _ f hff hfs2 hnd2.1 (by rw [getF_set_same hff]; exact ho) p h
          unfold endR
          simp only [out_bad hff ho2, Bool.false_eq_true, and_false, if_false]
      rw [this]
      simp [endP]
theorem parse_two (ws : List (List UInt8)) : parseW ws = parseR ws := by
  cases ws with
  | nil => rfl
  | cons w0 args =>
    simp only [parseW, parseR]
    cases ho : opW w0 with
    | none => rfl
    | some o =>
      have h := List.all_eq_true.1 fields_ok o (opW_mem ho).1
      simp only [Bool.and_eq_true, decide_eq_true_eq, List.all_eq_true, List.contains_iff_mem] at h
      exact fill_two o.2.2 args _ h.1 h.2 inK_32z
theorem parse_eq (s : List UInt8) (hl : s.length ≤ 1000000) : ref12_Parse s = isa_Parse s := by rw [parse_ref s hl, parse_prog s hl, parse_two]
theorem fillP_range : ∀ (fs : List UInt8) (ws : List (List UInt8)) (i j : Ins12), InK .i32 i.2.2.2.2 → fillP fs ws i = some j → InK .i32 j.2.2.2.2
  | [], ws, i, j, hi, h => by
    obtain rfl := Option.some.inj h
    exact hi
  | f :: fs, [], i, j, _, h => by cases h
  | f :: fs, w :: ws, i, j, hi, h => by
    rw [fillP] at h
    cases hn : numP w with
    | none => rw [hn] at h; cases h
    | some x =>
      rw [hn] at h
      exact fillP_range fs ws _ j (setF_range f (numP_range hn) hi) h
theorem parseW_range (ws : List (List UInt8)) : InK .i32 (parseW ws).1.2.2.2.2 := by
  have h0 : InK .i32 err11.1.2.2.2.2 := inK_mk32 (by decide) (by decide)
  cases ws with
  | nil => exact h0
  | cons w0 args =>
    simp only [parseW]
    cases ho : opW w0 with
    | none => exact h0
    | some o =>
      simp only []
      split
      · unfold endP
        cases hf : fillP o.2.2 args (o.1, 0, 0, 0, 0) with
        | none => exact h0
        | some j =>
          simp only []
          split
          · exact fillP_range _ _ _ j inK_32z hf
          · exact h0
      · exact h0
theorem IsaParses_true {s : List UInt8} (_ : s.length ≤ 9223372036854775807) : law12_IsaParses s = some true := by
  unfold law12_IsaParses
  rw [awake12, some_bind]
  simp only [Bool.not_true, Bool.false_eq_true, if_false]
  by_cases hl : ((s.length : Nat) : Int) > 1000
  · rw [if_pos (decide_eq_true hl)]
  · rw [if_neg (by simpa using hl), parse_eq s (by omega), parse_prog s (by omega), some_bind, some_bind, jn_eq]
    have hr := parseW_range (wordsB 32 [] s)
    generalize parseW (wordsB 32 [] s) = p at hr ⊢
    rw [show (p.1.1, p.1.2.1, p.1.2.2.1, p.1.2.2.2.1, p.1.2.2.2.2) = p.1 from rfl, model_eq p.1 hr, some_bind]
    simp
end Dm
