/-
  Layer 21 (pages that are as in their files) over the shallow forms: sums and origins. Conditions: numbers and bytes are in their kinds' ranges, lengths at most 2^63 - 1.
-/
import Derived.Test.YtmocofbneblccaaSet
import Derived.Test.YtmocofbneblccaaFunB
import Derived.KernelRfl
namespace Dm
open Go

theorem law21_awake_true : law21_awake = some true := by kernel_rfl
abbrev File := List UInt8 × List Int
abbrev WfF (y : File) : Prop := y.1.length ≤ 9223372036854775807 ∧ (y.2.length ≤ 9223372036854775807 ∧ ∀ z ∈ y.2, InK .u8 z)
/-! sums -/
def sumStep (a : Int × Int) (c : Int) : Int × Int := ((a.1 + c) % 65521, (a.2 + (a.1 + c) % 65521) % 65521)
def sumP (b : List Int) : Int × Int := b.foldl sumStep (1, 0)
theorem sumP_snoc (b : List Int) (c : Int) : sumP (b ++ [c]) = sumStep (sumP b) c := by unfold sumP; rw [List.foldl_append]; rfl
theorem sumP_bd {b : List Int} : ∀ n, n ≤ b.length → 0 ≤ (sumP (b.take n)).1 ∧ (sumP (b.take n)).1 < 65521 ∧ 0 ≤ (sumP (b.take n)).2 ∧ (sumP (b.take n)).2 < 65521 := by
  intro n
  induction n with
  | zero => intro _; simp [sumP]
  | succ n ih =>
    intro h
    rw [List.take_succ_eq_append_getElem (by omega), sumP_snoc]
    unfold sumStep
    dsimp only
    omega
def sumS (b : List Int) : Int := (sumP b).2 * 65536 + (sumP b).1
theorem dedup_Sum_eq {b : List Int} (hl : b.length ≤ 9223372036854775807) (hB : Bytes b) : dedup_Sum b = some (sumS b) := by
  unfold dedup_Sum
  rw [jn_eq]
  refine loop_at (fun i => ((sumP (b.take i)).1, (sumP (b.take i)).2, (i : Int))) b.length rfl hl ?_
  intro i rec hi hrec
  have hbd := sumP_bd (b := b) i hi
  dsimp only at hrec ⊢
  by_cases hlt : i < b.length
  · have hrec := hrec hlt
    have hc := hB _ (List.getElem_mem hlt)
    rw [List.take_succ_eq_append_getElem hlt, sumP_snoc] at hrec
    rw [dif_lt hlt, if_pos rfl, gd_pos (by omega), gt_nat hlt, let1_eq, i64s (by omega)]
    generalize b[i] = c at hc hrec ⊢
    generalize sumP (b.take i) = a at hbd hrec ⊢
    have e1 : Int.tmod (IntKind.u32.wrap (a.1 + IntKind.u32.wrap c)) 65521 = (a.1 + c) % 65521 := by
      rw [u32w (n := c) (by omega), u32w (by omega), Int.tmod_eq_emod_of_nonneg (by omega)]
    have e2 : Int.tmod (IntKind.u32.wrap (a.2 + (a.1 + c) % 65521)) 65521 = (a.2 + (a.1 + c) % 65521) % 65521 := by
      rw [u32w (by omega), Int.tmod_eq_emod_of_nonneg (by omega)]
    rw [let1_eq, e1, let1_eq, e2]
    exact hrec
  · obtain rfl : i = b.length := by omega
    rw [dif_ge (Nat.le_refl _), if_neg (by simp)]
    rw [List.take_of_length_le (Nat.le_refl _)] at hbd ⊢
    unfold sumS
    generalize sumP b = a at hbd ⊢
    obtain ⟨x, y⟩ := a
    simp only at hbd
    obtain ⟨p, rfl⟩ := Int.eq_ofNat_of_zero_le hbd.1
    obtain ⟨q, rfl⟩ := Int.eq_ofNat_of_zero_le hbd.2.2.1
    have hs : shl .u32 (q : Int) 16 = ((q * 65536 : Nat) : Int) := by
      unfold shl
      rw [show (min (16 : Int).toNat IntKind.u32.bits) = 16 from rfl, u32w (by omega)]
      omega
    dsimp only
    rw [hs, bor_nat .u32 rfl (by omega) (by simp [IntKind.bits]; omega) (by omega) (by simp [IntKind.bits]; omega)]
    simp only [Int.toNat_natCast]
    have := Nat.shiftLeft_add_eq_or_of_lt (b := p) (i := 16) (show p < 2 ^ 16 by omega) q
    rw [Nat.shiftLeft_eq] at this
    rw [show q * 65536 = q * 2 ^ 16 from rfl, ← this]
    congr 1
theorem getD_toStr {b : List Int} (hB : Bytes b) {i : Nat} (h : i < b.length) : ((((toStr b).getD i 0).toNat : Nat) : Int) = b[i] := by
  have hc := hB _ (List.getElem_mem h)
  unfold toStr
  rw [List.getD_eq_getElem?_getD, List.getElem?_map, List.getElem?_eq_getElem h]
  simp only [Option.map_some, Option.getD_some, UInt8.toNat_ofNat']
  omega
theorem toStr_length (b : List Int) : (toStr b).length = b.length := by unfold toStr; rw [List.length_map]
theorem ref21_Sum_eq {b : List Int} (hl : b.length ≤ 9223372036854775807) (hB : Bytes b) : ref21_Sum (toStr b) = some (sumS b) := by
  unfold ref21_Sum
  rw [jn_eq, toStr_length]
  refine loop_at (fun i => ((sumP (b.take i)).1, (sumP (b.take i)).2, (i : Int))) b.length rfl hl ?_
  intro i rec hi hrec
  have hbd := sumP_bd (b := b) i hi
  dsimp only at hrec ⊢
  by_cases hlt : i < b.length
  · have hrec := hrec hlt
    have hc := hB _ (List.getElem_mem hlt)
    rw [List.take_succ_eq_append_getElem hlt, sumP_snoc] at hrec
    rw [dif_lt hlt, if_pos rfl, gd_pos (by omega), Int.toNat_natCast, getD_toStr hB hlt]
    generalize b[i] = c at hc hrec ⊢
    generalize sumP (b.take i) = a at hbd hrec ⊢
    have e1 : Int.tmod (IntKind.i64.wrap (a.1 + IntKind.i64.wrap c)) 65521 = (a.1 + c) % 65521 := by
      rw [i64w (n := c) (by omega), i64w (by omega), Int.tmod_eq_emod_of_nonneg (by omega)]
    have e2 : Int.tmod (IntKind.i64.wrap (a.2 + (a.1 + c) % 65521)) 65521 = (a.2 + (a.1 + c) % 65521) % 65521 := by
      rw [i64w (by omega), Int.tmod_eq_emod_of_nonneg (by omega)]
    rw [let1_eq, e1, let1_eq, e2, i64s (by omega), let1_eq]
    exact hrec
  · obtain rfl : i = b.length := by omega
    rw [dif_ge (Nat.le_refl _), if_neg (by simp)]
    rw [List.take_of_length_le (Nat.le_refl _)] at hbd ⊢
    unfold sumS
    rw [u32w (n := (sumP b).2) (by omega), u32w (n := (sumP b).1) (by omega), u32w (n := (sumP b).2 * 65536) (by omega), u32w (by omega)]
/-! origins -/
def originS (file : List UInt8) (off : Int) (files : List File) : Option (List Int) :=
  if file = [] then none else match fI (fun f => f.1 == file) files with
    | none => none
    | some k => if 256 ≤ (files.getD k default).2.length ∧ off ≤ (files.getD k default).2.length - 256 then some (cu (files.getD k default).2 off.toNat 256) else none
theorem getD_mem {files : List File} (hw : ∀ f ∈ files, WfF f) {k : Nat} (h : k < files.length) : files.getD k default = files[k] ∧ WfF files[k] := by
  refine ⟨?_, hw _ (List.getElem_mem h)⟩
  rw [List.getD_eq_getElem?_getD, List.getElem?_eq_getElem h]; rfl
theorem IndexFunc_Origin_eq {files : List File} (hl : files.length ≤ 9223372036854775807) (file : List UInt8) : slices_IndexFunc_api_File_api_File_Origin_1 files file = some (ixN 0 (fI (fun f => f.1 == file) files)) := by
  unfold slices_IndexFunc_api_File_api_File_Origin_1
  rw [jn_eq]
  refine scan_ix files hl _ ?_ ?_
  · intro i rec hi
    rw [dif_lt hi, if_pos rfl, gd_pos (by omega), gt_nat hi, bd_eq (show dedup_Origin_1 files[i] file = some (files[i].1 == file) from rfl), i64s (by omega)]
  · intro rec
    rw [dif_ge (Nat.le_refl _), if_neg (by simp)]
theorem cut256 {b : List Int} (hb : b.length ≤ 140737488355328) {off : Int} (h0 : 0 ≤ off) (h1 : off ≤ 18446744073709551615) :
    octets_Cut b off 256 = some (if 256 ≤ b.length ∧ off ≤ b.length - 256 then (cu b off.toNat 256, 0) else ([], 10)) := by
  unfold octets_Cut
  rw [bd_eq (octets_has_eq (by omega) h0)]
  by_cases hc : 256 ≤ b.length ∧ off ≤ (b.length : Int) - 256
  · have hi : insB b.length off 256 = true := by simp [insB]; omega
    have e : cutL b off (off + 256) = cu b off.toNat 256 := by
      unfold cutL cu; rw [List.drop_take]; congr 1; omega
    rw [hi, if_neg (by simp), u64w (by omega), gd_pos (by omega), if_pos hc, e]
    have hk : slices_Clone_byte_byte (cu b off.toNat 256) = some (cu b off.toNat 256) := by
      unfold slices_Clone_byte_byte; exact gd_pos (by rw [cu_length (by omega)]; omega)
    rw [bd_eq hk]
  · have hi : insB b.length off 256 = false := by simp [insB]; omega
    rw [hi, if_pos (by simp), if_neg hc]
theorem dedup_Origin_eq {files : List File} (hl : files.length ≤ 9223372036854775807) (hs : ∀ f ∈ files, f.2.length ≤ 140737488355328) (file : List UInt8) {off : Int} (ho : InK .u64 off) :
    dedup_Origin file off files = some ((originS file off files).getD [], (originS file off files).isSome) := by
  have ho := inK_u64 ho
  unfold dedup_Origin originS
  rw [bd_eq (IndexFunc_Origin_eq hl file), jn_eq]
  by_cases hf : file = []
  · rw [if_pos (by simp [hf]), if_pos hf]; rfl
  · rw [if_neg (by simp [hf]), if_neg hf]
    cases hq : fI (fun f => f.1 == file) files with
    | none => rfl
    | some k =>
      obtain ⟨hk, _⟩ := fI_some hq
      have e : ixN 0 (some k) = (k : Int) := by simp [ixN]
      have hd : decide ((k : Int) < 0) = false := by simp
      have eg : gt files (k : Int) = files.getD k default := by unfold gt; rw [Int.toNat_natCast]
      have hm : (files.getD k default).2.length ≤ 140737488355328 := by
        rw [List.getD_eq_getElem?_getD, List.getElem?_eq_getElem hk]; exact hs _ (List.getElem_mem hk)
      rw [e, hd]
      dsimp only
      rw [if_neg (by simp), gd_pos (by omega), eg, bd_eq (cut256 hm ho.1 ho.2)]
      by_cases hc : 256 ≤ (files.getD k default).2.length ∧ off ≤ ((files.getD k default).2.length : Int) - 256
      · rw [if_pos hc, if_pos hc]; rfl
      · rw [if_neg hc, if_neg hc]; rfl
theorem ref21_Origin_eq {files : List File} (hl : files.length ≤ 9223372036854775807) (hs : ∀ f ∈ files, f.2.length ≤ 140737488355328) (file : List UInt8) {off : Int} (ho : InK .u64 off) :
    ref21_Origin file off files = some (toStr ((originS file off files).getD []), (originS file off files).isSome) := by
  have ho := inK_u64 ho
  unfold ref21_Origin originS
  by_cases hf : file = []
  · rw [if_pos (by simp [hf]), if_pos hf]; rfl
  · rw [if_neg (by simp [hf]), if_neg hf, jn_eq]
    refine loop_to (fun i => (i : Int)) (fun i => some (toStr ((match (fI (fun f => f.1 == file) (files.drop i)).map (· + i) with
      | none => none
      | some k => if 256 ≤ (files.getD k default).2.length ∧ off ≤ (files.getD k default).2.length - 256 then some (cu (files.getD k default).2 off.toNat 256) else none : Option (List Int)).getD []), (match (fI (fun f => f.1 == file) (files.drop i)).map (· + i) with
      | none => none
      | some k => if 256 ≤ (files.getD k default).2.length ∧ off ≤ (files.getD k default).2.length - 256 then some (cu (files.getD k default).2 off.toNat 256) else none : Option (List Int)).isSome)) files.length rfl ?_ hl ?_
    · simp only [List.drop_zero, Nat.add_zero]
      cases fI (fun f => f.1 == file) files <;> rfl
    · intro i rec hi hrec
      by_cases hlt : i < files.length
      · have hm := hs _ (List.getElem_mem hlt)
        have eg : files.getD i default = files[i] := by rw [List.getD_eq_getElem?_getD, List.getElem?_eq_getElem hlt]; rfl
        rw [dif_lt hlt, if_pos rfl, gd_pos (by omega), gt_nat hlt, fI_drop _ hlt]
        by_cases hn : files[i].1 = file
        · have e1 : (files[i].1 == file) = true := by simp [hn]
          have e0 : IntKind.u64.wrap ((files[i].2.length : Nat) : Int) = files[i].2.length := u64w (by omega)
          rw [e1, if_neg (by simp), if_pos rfl, gd_pos (by omega), let1_eq, e0, jn_eq]
          simp only [Option.map_some, Nat.zero_add, eg]
          generalize files[i].2 = b at hm
          by_cases hc : 256 ≤ b.length ∧ off ≤ (b.length : Int) - 256
          · have e2 : IntKind.u64.wrap ((b.length : Int) - 256) = (b.length : Int) - 256 := u64w (by omega)
            have e3 : IntKind.u64.wrap (off + 256) = off + 256 := u64w (by omega)
            have hd : decide (off > (b.length : Int) - 256) = false := by simp; omega
            have e : cutL b off (off + 256) = cu b off.toNat 256 := by
              unfold cutL cu; rw [List.drop_take]; congr 1; omega
            rw [if_neg (by simp; omega), e2, hd, if_neg (by simp), gd_pos (by omega), e3, gd_pos (by omega), if_pos hc, e]; rfl
          · rw [if_neg hc]
            by_cases h256 : b.length < 256
            · rw [if_pos (by simp; omega)]; rfl
            · have e2 : IntKind.u64.wrap ((b.length : Int) - 256) = (b.length : Int) - 256 := u64w (by omega)
              have hd : decide (off > (b.length : Int) - 256) = true := by simp; omega
              rw [if_neg (by simp; omega), e2, hd]; rfl
        · have e1 : (files[i].1 == file) = false := by simp [hn]
          rw [e1, if_pos (by simp), let1_eq, i64s (by omega), hrec hlt]
          rw [if_neg (by simp), Option.map_map]
          have : ((fun x => x + i) ∘ fun x => x + 1) = fun x => x + (i + 1) := by funext x; simp only [Function.comp]; omega
          rw [this]
      · obtain rfl : i = files.length := by omega
        rw [dif_ge (Nat.le_refl _), if_neg (by simp), List.drop_length]; rfl

end Dm
