/-
  The law of layer 21 on splits, over the shallow forms: it is true. Conditions: numbers and bytes are in their kinds' ranges, lengths at most 2^63 - 1.
-/
import Derived.Test.YtmocofbneblccaaLaw21B
import Derived.Test.YtmocofbneblccaaEq
namespace Dm
open Go

abbrev Pt := Int × Int × Bool × List UInt8 × Int × List UInt8
abbrev En := Int × Int × Bool × List UInt8 × Int × Bool × Int
abbrev EnR := Pt × Bool × Int
abbrev WfP (y : Pg) : Prop := InK .u64 y.1 ∧ InK .i64 y.2.1 ∧ True ∧ y.2.2.2.1.length ≤ 9223372036854775807 ∧ InK .u64 y.2.2.2.2.1 ∧ (y.2.2.2.2.2.length ≤ 9223372036854775807 ∧ ∀ y0 ∈ y.2.2.2.2.2, InK .u8 y0)
def pagT (p : Pg) : Pt := (p.1, p.2.1, p.2.2.1, p.2.2.2.1, p.2.2.2.2.1, toStr p.2.2.2.2.2)
def entT (x : En) : EnR := ((x.1, x.2.1, x.2.2.1, x.2.2.2.1, x.2.2.2.2.1, []), x.2.2.2.2.2.1, x.2.2.2.2.2.2)
/-- a loop that turns a list, one by one -/
theorem map_loop {α β ρ : Type} [Inhabited α] (l : List α) (hl : l.length ≤ 9223372036854775807) (f : α → β) {r : Option ρ} {body : List β × Int → (List β × Int → Option ρ) → Option ρ}
    (h : ∀ (i : Nat) (acc : List β) rec (hi : i < l.length), acc.length = i → body (acc, (i : Int)) rec = rec (acc ++ [f l[i]], ((i + 1 : Nat) : Int)))
    (h1 : ∀ rec, body (l.map f, (l.length : Int)) rec = r) : loopK body bigF ([], 0) = r := by
  refine loop_at (fun i => ((l.take i).map f, (i : Int))) l.length rfl hl ?_
  intro i rec hi hrec
  by_cases hlt : i < l.length
  · have hrec := hrec hlt
    rw [List.take_succ_eq_append_getElem hlt, List.map_append] at hrec
    rw [h i _ rec hlt (by rw [List.length_map, List.length_take]; omega)]; exact hrec
  · obtain rfl : i = l.length := by omega
    rw [List.take_of_length_le (Nat.le_refl _)]; exact h1 rec
theorem law21_pages_eq {l : List Pg} (hl : l.length ≤ 1000) : law21_pages l = some (l.map pagT) := by
  unfold law21_pages
  rw [jn_eq]
  refine map_loop l (by omega) pagT ?_ ?_
  · intro i acc rec hi ha
    have hg : (0 : Int) ≤ (i : Int) ∧ (i : Int) < ((l.length : Nat) : Int) := by omega
    dsimp only
    rw [dif_lt hi, if_pos rfl]
    simp only [gd_pos hg, gt_nat hi, let1_eq]
    rw [gd_pos (by simp; omega), i64s (by omega)]; rfl
  · intro rec
    dsimp only
    rw [dif_ge (Nat.le_refl _), if_neg (by simp)]
theorem law21_entries_eq {l : List En} (hl : l.length ≤ 1000) : law21_entries l = some (l.map entT) := by
  unfold law21_entries
  rw [jn_eq]
  refine map_loop l (by omega) entT ?_ ?_
  · intro i acc rec hi ha
    have hg : (0 : Int) ≤ (i : Int) ∧ (i : Int) < ((l.length : Nat) : Int) := by omega
    dsimp only
    rw [dif_lt hi, if_pos rfl]
    simp only [gd_pos hg, gt_nat hi, let1_eq]
    rw [gd_pos (by simp; omega), i64s (by omega)]; rfl
  · intro rec
    dsimp only
    rw [dif_ge (Nat.le_refl _), if_neg (by simp)]
def hitS (files : List File) (p : Pg) : Bool := decide (originS p.2.2.2.1 p.2.2.2.2.1 files = some p.2.2.2.2.2)
def splE (files : List File) (p : Pg) : En := if hitS files p then (p.1, p.2.1, p.2.2.1, p.2.2.2.1, p.2.2.2.2.1, false, sumS p.2.2.2.2.2) else (p.1, p.2.1, p.2.2.1, p.2.2.2.1, p.2.2.2.2.1, true, 0)
def keptS (files : List File) (l : List Pg) : List Int := (l.map fun p => if hitS files p then [] else p.2.2.2.2.2).flatten
theorem keptS_snoc (files : List File) (l : List Pg) (p : Pg) : keptS files (l ++ [p]) = keptS files l ++ if hitS files p then [] else p.2.2.2.2.2 := by
  unfold keptS; rw [List.map_append, List.flatten_append]; simp
theorem keptS_len {files : List File} {l : List Pg} (h : ∀ p ∈ l, p.2.2.2.2.2.length ≤ 300) : (keptS files l).length ≤ 300 * l.length := by
  induction l with
  | nil => simp [keptS]
  | cons p l ih =>
    have h1 := h p (by simp)
    have h2 := ih fun q hq => h q (by simp [hq])
    unfold keptS at h2 ⊢
    rw [List.map_cons, List.flatten_cons, List.length_append, List.length_cons]
    split
    · simp only [List.length_nil]; omega
    · omega
theorem toStr_append (a b : List Int) : toStr (a ++ b) = toStr a ++ toStr b := by unfold toStr; rw [List.map_append]
theorem originS_bytes {files : List File} (hw : ∀ f ∈ files, WfF f) {file : List UInt8} {off : Int} {b : List Int} (h : originS file off files = some b) : Bytes b ∧ b.length = 256 := by
  unfold originS at h
  by_cases hf : file = []
  · rw [if_pos hf] at h; simp at h
  rw [if_neg hf] at h
  cases hq : fI (fun f => f.1 == file) files with
  | none => rw [hq] at h; simp at h
  | some k =>
    rw [hq] at h
    obtain ⟨hk, _⟩ := fI_some hq
    obtain ⟨e, hwf⟩ := getD_mem hw hk
    simp only at h
    rw [e] at h
    by_cases hc : 256 ≤ files[k].2.length ∧ off ≤ (files[k].2.length : Int) - 256
    · rw [if_pos hc] at h
      obtain rfl := Option.some.inj h
      exact ⟨(bytes_of hwf.2.2).cu _ _, cu_length (by omega)⟩
    · rw [if_neg hc] at h; simp at h
theorem dedup_Split_eq {l : List Pg} {files : List File} (hl : l.length ≤ 20) (hb : ∀ p ∈ l, p.2.2.2.2.2.length ≤ 300) (hwp : ∀ p ∈ l, WfP p) (hf : files.length ≤ 10) (hs : ∀ f ∈ files, f.2.length ≤ 3000) (hw : ∀ f ∈ files, WfF f) :
    dedup_Split l files = some (l.map (splE files), keptS files l) := by
  unfold dedup_Split
  rw [jn_eq]
  refine loop_at (fun i => ((l.take i).map (splE files), keptS files (l.take i), (i : Int))) l.length rfl (by omega) ?_
  intro i rec hi hrec
  dsimp only at hrec ⊢
  by_cases hlt : i < l.length
  · have hrec := hrec hlt
    have hm := List.getElem_mem hlt
    have hkl := keptS_len (files := files) (l := l.take i) fun p hp => hb p (List.mem_of_mem_take hp)
    have hml : ((l.take i).map (splE files)).length ≤ 20 := by rw [List.length_map, List.length_take]; omega
    rw [List.length_take] at hkl
    rw [List.take_succ_eq_append_getElem hlt, List.map_append, keptS_snoc] at hrec
    have hbl := hb _ hm
    have hp := hwp _ hm
    rw [dif_lt hlt, if_pos rfl, gd_pos (by omega), gt_nat hlt, bd_eq (dedup_Origin_eq (by omega) (fun f h => by have := hs f h; omega) _ hp.2.2.2.2.1), jn_eq, i64s (by omega)]
    generalize l[i] = p at hrec hbl hp ⊢
    generalize (l.take i).map (splE files) = acc at hrec hml ⊢
    generalize keptS files (l.take i) = kp at hrec hkl ⊢
    have hB := bytes_of hp.2.2.2.2.2.2
    have key : ∀ b : Bool, b = hitS files p → ((fun (s3 : Bool) =>
          jn (fun (s4 : (List Int) × (Int × Int × Bool × (List UInt8) × Int × Bool × Int)) =>
            gd ((acc.length + ([(s4.2.1, s4.2.2.1, s4.2.2.2.1, s4.2.2.2.2.1, s4.2.2.2.2.2.1, s4.2.2.2.2.2.2.1, s4.2.2.2.2.2.2.2)] : List (Int × Int × Bool × (List UInt8) × Int × Bool × Int)).length) * 56 ≤ 140737488355328) <|
            rec ((acc ++ ([(s4.2.1, s4.2.2.1, s4.2.2.2.1, s4.2.2.2.2.1, s4.2.2.2.2.2.1, s4.2.2.2.2.2.2.1, s4.2.2.2.2.2.2.2)] : List (Int × Int × Bool × (List UInt8) × Int × Bool × Int))), s4.1, ((i + 1 : Nat) : Int))) (fun k3 =>
            (if (s3) = true then
              (dedup_Sum ((originS p.2.2.2.1 p.2.2.2.2.1 files).getD [])).bind fun z3 =>
              k3 (kp, (p.1, p.2.1, p.2.2.1, p.2.2.2.1, p.2.2.2.2.1, false, z3))
            else
              gd ((kp.length + (p.2.2.2.2.2).length) * 1 ≤ 140737488355328) <|
              k3 ((kp ++ (p.2.2.2.2.2)), (p.1, p.2.1, p.2.2.1, p.2.2.2.1, p.2.2.2.2.1, true, 0))))) b) = some (l.map (splE files), keptS files l) := by
      intro b hb'
      subst hb'
      dsimp only
      rw [jn_eq]
      rw [List.map_cons, List.map_nil] at hrec
      cases hh : hitS files p
      · have e : splE files p = (p.1, p.2.1, p.2.2.1, p.2.2.2.1, p.2.2.2.2.1, true, 0) := by unfold splE; rw [hh]; rfl
        rw [e, hh, if_neg (by simp)] at hrec
        rw [if_neg (by simp), gd_pos (by omega)]
        dsimp only
        rw [gd_pos (by simp; omega)]
        exact hrec
      · have e : splE files p = (p.1, p.2.1, p.2.2.1, p.2.2.2.1, p.2.2.2.2.1, false, sumS p.2.2.2.2.2) := by unfold splE; rw [hh]; rfl
        rw [e, hh, if_pos rfl, List.append_nil] at hrec
        have ho : originS p.2.2.2.1 p.2.2.2.2.1 files = some p.2.2.2.2.2 := of_decide_eq_true hh
        rw [if_pos rfl, ho, Option.getD_some, bd_eq (dedup_Sum_eq (by omega) hB)]
        dsimp only
        rw [gd_pos (by simp; omega)]
        exact hrec
    cases ho : originS p.2.2.2.1 p.2.2.2.2.1 files with
    | none =>
      have hh : hitS files p = false := by unfold hitS; rw [ho]; simp
      rw [if_neg (by simp)]
      rw [ho] at key
      exact key false hh.symm
    | some b =>
      obtain ⟨hbB, hb256⟩ := originS_bytes hw ho
      rw [if_pos (show ((some b).getD ([] : List Int), (some b).isSome).2 = true from rfl), bd_eq (show slices_Equal_byte_byte ((some b).getD ([] : List Int), (some b).isSome).1 p.2.2.2.2.2 = some (decide (b = p.2.2.2.2.2)) from slices_Equal_eq (a := b) (by omega))]
      have hh : hitS files p = decide (b = p.2.2.2.2.2) := by unfold hitS; rw [ho]; simp
      rw [ho] at key
      exact key _ hh.symm
  · obtain rfl : i = l.length := by omega
    rw [dif_ge (Nat.le_refl _), if_neg (by simp), List.take_of_length_le (Nat.le_refl _)]

def splT (files : List File) (p : Pg) : EnR := entT (splE files p)
theorem splT_eq (files : List File) (p : Pg) : splT files p = ((p.1, p.2.1, p.2.2.1, p.2.2.2.1, p.2.2.2.2.1, []), !hitS files p, if hitS files p then sumS p.2.2.2.2.2 else 0) := by
  unfold splT splE
  cases hitS files p <;> rfl
theorem toStr_keptS (files : List File) (l : List Pg) (p : Pg) : toStr (keptS files (l ++ [p])) = toStr (keptS files l) ++ if hitS files p then [] else toStr p.2.2.2.2.2 := by
  rw [keptS_snoc, toStr_append]; cases hitS files p <;> rfl
theorem ref21_Split_eq {l : List Pg} {files : List File} (hl : l.length ≤ 20) (hb : ∀ p ∈ l, p.2.2.2.2.2.length ≤ 300) (hwp : ∀ p ∈ l, WfP p) (hf : files.length ≤ 10) (hs : ∀ f ∈ files, f.2.length ≤ 3000) (hw : ∀ f ∈ files, WfF f) :
    ref21_Split (l.map pagT) files = some (l.map (splT files), toStr (keptS files l)) := by
  unfold ref21_Split
  rw [jn_eq, List.length_map]
  refine loop_at (fun i => ((l.take i).map (splT files), toStr (keptS files (l.take i)), (i : Int))) l.length rfl (by omega) ?_
  intro i rec hi hrec
  dsimp only at hrec ⊢
  by_cases hlt : i < l.length
  · have hrec := hrec hlt
    have hm := List.getElem_mem hlt
    have hkl := keptS_len (files := files) (l := l.take i) fun p hp => hb p (List.mem_of_mem_take hp)
    have hml : ((l.take i).map (splT files)).length ≤ 20 := by rw [List.length_map, List.length_take]; omega
    rw [List.length_take] at hkl
    rw [List.take_succ_eq_append_getElem hlt, List.map_append, toStr_keptS] at hrec
    have hbl := hb _ hm
    have hp := hwp _ hm
    have eg : gt (l.map pagT) (i : Int) = pagT l[i] := by rw [gt_nat (by rw [List.length_map]; exact hlt), List.getElem_map]
    rw [dif_lt hlt, if_pos rfl, gd_pos (by omega), eg, i64s (by omega)]
    rw [← toStr_length] at hkl
    generalize l[i] = p at hrec hbl hp ⊢
    generalize (l.take i).map (splT files) = acc at hrec hml ⊢
    generalize toStr (keptS files (l.take i)) = kp at hrec hkl ⊢
    have hB := bytes_of hp.2.2.2.2.2.2
    rw [List.map_cons, List.map_nil, splT_eq] at hrec
    rw [show (pagT p).2.2.2.1 = p.2.2.2.1 from rfl, show (pagT p).2.2.2.2.1 = p.2.2.2.2.1 from rfl, show (pagT p).2.2.2.2.2 = toStr p.2.2.2.2.2 from rfl, show (pagT p).1 = p.1 from rfl, show (pagT p).2.1 = p.2.1 from rfl, show (pagT p).2.2.1 = p.2.2.1 from rfl]
    rw [bd_eq (ref21_Origin_eq (by omega) (fun f h => by have := hs f h; omega) _ hp.2.2.2.2.1)]
    have hlen := toStr_length p.2.2.2.2.2
    cases hh : hitS files p
    · rw [hh] at hrec
      simp only [Bool.not_false, Bool.false_eq_true, if_false] at hrec
      have hcond : (if (originS p.2.2.2.1 p.2.2.2.2.1 files).isSome = true then (toStr ((originS p.2.2.2.1 p.2.2.2.2.1 files).getD []) == toStr p.2.2.2.2.2) else false) = false := by
        cases ho : originS p.2.2.2.1 p.2.2.2.2.1 files with
        | none => rfl
        | some b =>
          obtain ⟨hbB, hb256⟩ := originS_bytes hw ho
          have hne : b ≠ p.2.2.2.2.2 := by intro e; unfold hitS at hh; rw [ho, e] at hh; simp at hh
          simp only [Option.isSome_some, if_true, Option.getD_some]
          rw [toStr_beq hbB hB]; simpa using hne
      rw [jn_eq]
      dsimp only
      rw [← apply_ite (fun b : Bool => jn (fun (s4 : (List UInt8) × EnR) =>
            gd ((acc.length + ([((s4.2.1.1, s4.2.1.2.1, s4.2.1.2.2.1, s4.2.1.2.2.2.1, s4.2.1.2.2.2.2.1, []), s4.2.2.1, s4.2.2.2)] : List EnR).length) * 72 ≤ 140737488355328) <|
            let1 (((i + 1 : Nat) : Int)) fun i_1 =>
            rec ((acc ++ ([((s4.2.1.1, s4.2.1.2.1, s4.2.1.2.2.1, s4.2.1.2.2.2.1, s4.2.1.2.2.2.2.1, []), s4.2.2.1, s4.2.2.2)] : List EnR)), s4.1, i_1)) (fun k3 =>
            (if b = true then
              (ref21_Sum (toStr ((originS p.2.2.2.1 p.2.2.2.2.1 files).getD []))).bind fun z2 =>
              k3 (kp, ((p.1, p.2.1, p.2.2.1, p.2.2.2.1, p.2.2.2.2.1, toStr p.2.2.2.2.2), false, z2))
            else
              gd (kp.length + (toStr p.2.2.2.2.2).length ≤ 9223372036854775807) <|
              let1 (kp ++ toStr p.2.2.2.2.2) fun kept_1 =>
              k3 (kept_1, ((p.1, p.2.1, p.2.2.1, p.2.2.2.1, p.2.2.2.2.1, toStr p.2.2.2.2.2), true, 0)))))]
      rw [hcond]
      rw [jn_eq, if_neg (by simp), gd_pos (by omega), let1_eq]
      dsimp only
      rw [gd_pos (by simp; omega), let1_eq]
      exact hrec
    · rw [hh] at hrec
      simp only [Bool.not_true, if_true, List.append_nil] at hrec
      have ho : originS p.2.2.2.1 p.2.2.2.2.1 files = some p.2.2.2.2.2 := of_decide_eq_true hh
      rw [ho, jn_eq]
      dsimp only [Option.getD_some, Option.isSome_some]
      rw [if_pos rfl, jn_eq, if_pos (by simp), bd_eq (ref21_Sum_eq (by omega) hB)]
      dsimp only
      rw [gd_pos (by simp; omega), let1_eq]
      exact hrec
  · obtain rfl : i = l.length := by omega
    rw [dif_ge (Nat.le_refl _), if_neg (by simp), List.take_of_length_le (Nat.le_refl _)]
theorem DedupSplits_true {l : List Pg} (_ : l.length ≤ 9223372036854775807) (hwp : ∀ p ∈ l, WfP p) {files : List File} (_ : files.length ≤ 9223372036854775807) (hw : ∀ f ∈ files, WfF f) : law21_DedupSplits l files = some true := by
  unfold law21_DedupSplits
  rw [bd_eq law21_awake_true]
  simp only [Bool.not_true, Bool.false_eq_true, if_false]
  rw [bd_eq (law21_few_eq _ _)]
  cases hf : fewS l files
  · rfl
  · obtain ⟨h1, h2, h3, h4⟩ := fewS_true hf
    rw [if_neg (by simp), bd_eq (dedup_Split_eq h1 h3 hwp h2 h4 hw), bd_eq (law21_pages_eq (by omega)), bd_eq (ref21_Split_eq h1 h3 hwp h2 h4 hw), bd_eq (law21_entries_eq (by rw [List.length_map]; omega)), jn_eq]
    have e : (l.map (splE files)).map entT = l.map (splT files) := by rw [List.map_map]; rfl
    rw [e]
    dsimp only
    have hL : (l.map (splT files)).length ≤ 20 := by rw [List.length_map]; omega
    generalize l.map (splT files) = r at hL
    rw [if_neg (by simp), if_neg (by simp), jn_eq]
    refine loop_at (fun i => (i : Int)) r.length rfl (by omega) ?_
    intro i rec hi hrec
    by_cases hlt : i < r.length
    · rw [dif_lt hlt, if_pos rfl, gd_pos (by omega), gd_pos (by omega), i64s (by omega), if_neg (by simp), let1_eq, hrec hlt]
    · rw [dif_ge (by omega), if_neg (by simp)]

end Dm
