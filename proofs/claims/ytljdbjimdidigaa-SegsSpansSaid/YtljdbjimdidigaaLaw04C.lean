/-
  The laws of layer 4 on places, over the shallow forms; what any one segment may be. Conditions: numbers are in their kinds' ranges, lengths at most 2^63 - 1.
-/
import Derived.Test.YtljdbjimdidigaaLaw04B
import Derived.Test.YtljdbjimdidigaaFunB
import Derived.Test.YtljdbjimdidigaaPage
namespace Dm
open Go

def atP (addr size : Int) (s : Seg) : Bool :=
  decide (size > 0) && (s.1 == 1) && decide (addr ≥ s.2.2.2.1) && decide (addr - s.2.2.2.1 ≤ s.2.2.2.2.1) && decide (size ≤ s.2.2.2.2.1 - (addr - s.2.2.2.1))
def placeS (l : List Seg) (addr size : Int) : Int × Int := ((l.find? (atP addr size)).map fun s => (IntKind.u64.wrap (s.2.2.1 + (addr - s.2.2.2.1)), (0 : Int))).getD (0, 40)
theorem segs_Place_eq {l : List Seg} (hl : l.length ≤ 9223372036854775807) (hw : ∀ s ∈ l, Wf04 s) {addr size : Int} (ha : InK .u64 addr) (hs : InK .u64 size) : segs_Place l addr size = some (placeS l addr size) := by
  unfold segs_Place placeS
  rw [jn_eq]
  refine scan_o l hl _ _ _ ?_ ?_
  · intro i rec hi
    have hx := hw _ (List.getElem_mem hi)
    have ha := inK_u64 ha
    have hs := inK_u64 hs
    rw [dif_lt hi, if_pos rfl, gd_pos (by omega), gt_nat hi, let1_eq, jn_eq, i64s (by omega)]
    generalize l[i] = s at hx ⊢
    have h4 := inK_u64 hx.2.2.2.1
    have h5 := inK_u64 hx.2.2.2.2.1
    unfold atP
    by_cases c1 : size > 0
    · by_cases c2 : s.1 = 1
      · by_cases c3 : addr ≥ s.2.2.2.1
        · have e : IntKind.u64.wrap (addr - s.2.2.2.1) = addr - s.2.2.2.1 := u64w (by omega)
          rw [e]
          by_cases c4 : addr - s.2.2.2.1 ≤ s.2.2.2.2.1
          · have e2 : IntKind.u64.wrap (s.2.2.2.2.1 - (addr - s.2.2.2.1)) = s.2.2.2.2.1 - (addr - s.2.2.2.1) := u64w (by omega)
            rw [e2]; simp [c1, c2, c3, c4]
          · simp [c1, c2, c3, c4]
        · simp [c1, c2, c3]
      · simp [c1, c2]
    · simp [c1]
  · intro rec
    rw [dif_ge (Nat.le_refl _), if_neg (by simp)]
theorem ref04_Place_eq {l : List Seg} (hl : l.length ≤ 9223372036854775807) (hw : ∀ s ∈ l, Wf04 s) {addr size : Int} (ha : InK .u64 addr) (hs : InK .u64 size) : ref04_Place l addr size = some (placeS l addr size) := by
  have ha := inK_u64 ha
  have hs := inK_u64 hs
  unfold ref04_Place placeS
  by_cases h0 : size = 0
  · have : l.find? (atP addr size) = none := by
      rw [List.find?_eq_none]; intro s _; simp [atP, h0]
    rw [if_pos (by simp [h0]), this]; rfl
  rw [if_neg (by simp [h0]), jn_eq]
  refine scan_o l hl _ _ _ ?_ ?_
  · intro i rec hi
    have hx := hw _ (List.getElem_mem hi)
    rw [dif_lt hi, if_pos rfl, gd_pos (by omega), gt_nat hi, jn_eq, i64s (by omega), let1_eq]
    generalize l[i] = s at hx ⊢
    have h4 := inK_u64 hx.2.2.2.1
    have h5 := inK_u64 hx.2.2.2.2.1
    unfold atP
    have c1 : size > 0 := by omega
    by_cases c2 : s.1 = 1
    · by_cases c3 : addr ≥ s.2.2.2.1
      · have e : IntKind.u64.wrap (addr - s.2.2.2.1) = addr - s.2.2.2.1 := u64w (by omega)
        rw [e]
        have c3' : ¬ addr < s.2.2.2.1 := by omega
        by_cases c4 : addr - s.2.2.2.1 ≤ s.2.2.2.2.1
        · have e2 : IntKind.u64.wrap (s.2.2.2.2.1 - (addr - s.2.2.2.1)) = s.2.2.2.2.1 - (addr - s.2.2.2.1) := u64w (by omega)
          have c4' : ¬ addr - s.2.2.2.1 > s.2.2.2.2.1 := by omega
          rw [e2]
          by_cases c5 : size ≤ s.2.2.2.2.1 - (addr - s.2.2.2.1)
          · have c5' : ¬ size > s.2.2.2.2.1 - (addr - s.2.2.2.1) := by omega
            simp [c1, c2, c3, c4, c5, c3', c4', c5']
          · have c5' : size > s.2.2.2.2.1 - (addr - s.2.2.2.1) := by omega
            simp [c1, c2, c3, c4, c5, c3', c4', c5']
        · have c4' : addr - s.2.2.2.1 > s.2.2.2.2.1 := by omega
          simp [c1, c2, c3, c4, c3', c4']
      · have c3' : addr < s.2.2.2.1 := by omega
        simp [c1, c2, c3, c3']
    · simp [c1, c2]
  · intro rec
    rw [dif_ge (Nat.le_refl _), if_neg (by simp)]
def findS (l : List Seg) (kind : Int) : Option Nat := fI (fun s => s.1 == kind) l
theorem IndexFunc_Find_eq {l : List Seg} (hl : l.length ≤ 9223372036854775807) (kind : Int) : slices_IndexFunc_api_Seg_api_Seg_Find_1 l kind = some (ixN 0 (findS l kind)) := by
  unfold slices_IndexFunc_api_Seg_api_Seg_Find_1 findS
  rw [jn_eq]
  refine scan_ix l hl _ ?_ ?_
  · intro i rec hi
    rw [dif_lt hi, if_pos rfl, gd_pos (by omega), gt_nat hi, bd_eq (show segs_Find_1 l[i] kind = some (l[i].1 == kind) from rfl), i64s (by omega)]
  · intro rec
    rw [dif_ge (Nat.le_refl _), if_neg (by simp)]
theorem ref04_Find_eq {l : List Seg} (hl : l.length ≤ 9223372036854775807) (kind : Int) : ref04_Find l kind = some (ixN 0 (findS l kind)) := by
  unfold ref04_Find findS
  rw [jn_eq]
  refine scan_ix l hl _ ?_ ?_
  · intro i rec hi
    rw [dif_lt hi, if_pos rfl, gd_pos (by omega), gt_nat hi, i64s (by omega), let1_eq]
  · intro rec
    rw [dif_ge (Nat.le_refl _), if_neg (by simp)]
theorem segs_Find_eq {l : List Seg} (hl : l.length ≤ 9223372036854775807) (kind : Int) :
    segs_Find l kind = some (match findS l kind with | none => ((0, 0, 0, 0, 0, 0, 0), false) | some k => (l.getD k default, true)) := by
  unfold segs_Find
  rw [bd_eq (IndexFunc_Find_eq hl kind)]
  cases hf : findS l kind with
  | none => rfl
  | some k =>
    obtain ⟨hk, _⟩ := fI_some hf
    have e : ixN 0 (some k) = (k : Int) := by simp [ixN]
    rw [e, if_neg (by simp), gd_pos (by omega)]
    rfl
theorem SegsPlaces_true {l : List Seg} (hl : l.length ≤ 9223372036854775807) (hw : ∀ s ∈ l, Wf04 s) {addr size kind : Int} (ha : InK .u64 addr) (hs : InK .u64 size) (_ : InK .u32 kind) : law04_SegsPlaces l addr size kind = some true := by
  unfold law04_SegsPlaces
  rw [bd_eq law04_awake_true]
  simp only [Bool.not_true, Bool.false_eq_true, if_false]
  by_cases hc : l.length > 64
  · rw [if_pos (by simp; omega)]
  · rw [if_neg (by simp; omega), bd_eq (segs_Place_eq hl hw ha hs), bd_eq (ref04_Place_eq hl hw ha hs), jn_eq, if_neg (by simp)]
    dsimp only
    rw [if_neg (by simp), bd_eq (segs_Find_eq hl kind), bd_eq (ref04_Find_eq hl kind)]
    cases hf : findS l kind with
    | none => rfl
    | some k =>
      obtain ⟨hk, _⟩ := fI_some hf
      have e : ixN 0 (some k) = (k : Int) := by simp [ixN]
      have eg : gt l (k : Int) = l.getD k default := by unfold gt; rw [Int.toNat_natCast]
      rw [e, if_neg (by simp), jn_eq]
      dsimp only
      rw [if_pos rfl, gd_pos (by omega), eg]
      simp

end Dm
