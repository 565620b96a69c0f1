/-
  The laws of layer 3 (heads) over the shallow forms: each is true. Conditions: numbers and bytes are in their kinds' ranges, lengths at most 2^63 - 1.
-/
import Derived.Test.YtlbilaaofmnbfaaSet
import Derived.Test.YtlbilaaofmnbfaaEq
import Derived.KernelRfl
namespace Dm
open Go

theorem law03_awake_true : law03_awake = some true := by kernel_rfl
theorem head_row_eq {fs : List (Int × Int)} (hf : ∀ f ∈ fs, wOk f.1 = true) (hl : fs.length ≤ 1000) : head_row fs = some ((fs.map fun f => leB f.1.toNat f.2).flatten) := by
  unfold head_row
  rw [jn_eq]
  refine loop_at (fun i => (((fs.take i).map fun f => leB f.1.toNat f.2).flatten, (i : Int))) fs.length rfl (by omega) ?_
  intro i rec hi hrec
  by_cases hlt : i < fs.length
  · have hw := wOk_cases (hf _ (List.getElem_mem hlt))
    have hlen : ∀ l : List (Int × Int), (∀ f ∈ l, wOk f.1 = true) → ((l.map fun f => leB f.1.toNat f.2).flatten).length ≤ 8 * l.length := by
      intro l
      induction l with
      | nil => intro _; simp
      | cons x xs ih =>
        intro h
        have h1 := wOk_cases (h x (by simp))
        have h2 := ih fun f hf => h f (by simp [hf])
        rw [List.map_cons, List.flatten_cons, List.length_append, leB_length, List.length_cons]; omega
    have hL := hlen (fs.take i) fun f h => hf f (List.mem_of_mem_take h)
    rw [List.length_take] at hL
    have hrec := hrec hlt
    rw [List.take_succ_eq_append_getElem hlt, List.map_append, List.flatten_append] at hrec
    simp only [List.map_cons, List.map_nil, List.flatten_cons, List.flatten_nil, List.append_nil] at hrec
    rw [dif_lt hlt, if_pos rfl, gd_pos (by omega), gt_nat hlt]
    generalize fs[i] = f at hw hrec
    obtain ⟨n, x⟩ := f
    simp only at hw hrec ⊢
    have hs : octets_Set (List.replicate n.toNat (0 : Int)) 0 n x = some (leB n.toNat x, 0) := by
      have := set_whole (n := n.toNat) (by omega) x
      rwa [show ((n.toNat : Nat) : Int) = n by omega] at this
    rw [gd_pos (by omega), bd_eq hs]
    simp only []
    rw [gd_pos (by rw [leB_length]; omega), i64s (by omega)]
    exact hrec
  · obtain rfl : i = fs.length := by omega
    rw [dif_ge (by omega)]
    simp
def hfields (h : Int × Int × Int × Int) : List (Int × Int) :=
  [(2, h.1), (2, 19823), (4, 1), (8, h.2.1), (8, h.2.2.1), (8, 0), (4, 0), (2, 64), (2, 56), (2, h.2.2.2), (2, 0), (2, 0), (2, 0)]
def hput (h : Int × Int × Int × Int) : List Int := [127, 69, 76, 70, 2, 1, 1, 0, 0, 0, 0, 0, 0, 0, 0, 0] ++ ((hfields h).map fun f => leB f.1.toNat f.2).flatten
def badH (h : Int × Int × Int × Int) : Bool := decide (h.1 < 2) || decide (h.1 > 4) || decide (h.2.2.2 < 0) || decide (h.2.2.2 > 64)
def headS (h : Int × Int × Int × Int) : List Int × Int := if badH h then ([], 1) else (hput h, 0)
abbrev Wf03 (y : Int × Int × Int × Int) : Prop := InK .i64 y.1 ∧ InK .u64 y.2.1 ∧ InK .u64 y.2.2.1 ∧ InK .i64 y.2.2.2
theorem badH_false {h : Int × Int × Int × Int} (hb : badH h = false) : 2 ≤ h.1 ∧ h.1 ≤ 4 ∧ 0 ≤ h.2.2.2 ∧ h.2.2.2 ≤ 64 := by
  simp only [badH, Bool.or_eq_false_iff, decide_eq_false_iff_not] at hb; omega
theorem head_Put_eq (h : Int × Int × Int × Int) : head_Put h = some (headS h) := by
  unfold head_Put headS
  simp only [jn_eq]
  cases hb : badH h
  · have hk := badH_false hb
    have d1 : decide (h.1 < 2) = false := by simp; omega
    have d2 : decide (h.1 > 4) = false := by simp; omega
    have d3 : decide (h.2.2.2 < 0) = false := by simp; omega
    have d4 : decide (h.2.2.2 > 64) = false := by simp; omega
    simp only [d1, d2, d3, d4, Bool.false_eq_true, if_false]
    have e1 : IntKind.u64.wrap h.1 = h.1 := u64w (by omega)
    have e2 : IntKind.u64.wrap h.2.2.2 = h.2.2.2 := u64w (by omega)
    rw [e1, e2, gd_pos (by decide)]
    have hr : head_row [(2, h.1), (2, 19823), (4, 1), (8, h.2.1), (8, h.2.2.1), (8, 0), (4, 0), (2, 64), (2, 56), (2, h.2.2.2), (2, 0), (2, 0), (2, 0)] = some (((hfields h).map fun f => leB f.1.toNat f.2).flatten) :=
      head_row_eq (by intro f hf; simp only [List.mem_cons, List.not_mem_nil, or_false] at hf; rcases hf with rfl | rfl | rfl | rfl | rfl | rfl | rfl | rfl | rfl | rfl | rfl | rfl | rfl <;> rfl) (by simp)
    rw [bd_eq hr]
    have hl : (((hfields h).map fun f => leB f.1.toNat f.2).flatten).length = 48 := rfl
    rw [gd_pos (by rw [hl]; decide)]
    rfl
  · have : ∀ r : Option (List Int × Int), (if decide (h.1 < 2) = true then (if true = true then some (([] : List Int), (1 : Int)) else r) else if decide (h.1 > 4) = true then (if true = true then some ([], 1) else r) else if decide (h.2.2.2 < 0) = true then (if true = true then some ([], 1) else r) else if decide (h.2.2.2 > 64) = true then some ([], 1) else r) = some ([], 1) := by
      intro r
      simp only [badH, Bool.or_eq_true] at hb
      rcases hb with ((hb | hb) | hb) | hb <;> simp only [hb, if_true] <;> (repeat' split) <;> rfl
    exact this _
theorem ref03_number_eq {b : List Int} (hb : b.length ≤ 100000) {x : Int} (hx : 0 ≤ x) (hx1 : x ≤ 18446744073709551615) {n : Nat} (hn : n ≤ 100) : ref03_number b x (n : Int) = some (b ++ leB n x) := by
  unfold ref03_number
  rw [jn_eq]
  refine loop_at (fun i => (b ++ leB i x, x / 256 ^ i, (i : Int))) n (by simp [leB]) (by omega) ?_
  intro i rec hi hrec
  by_cases hlt : i < n
  · have hc : decide ((i : Int) < n) = true := by simp; omega
    simp only [hc, if_true, let1_eq]
    have h0 : 0 ≤ x / 256 ^ i := Int.ediv_nonneg hx (Int.pow_nonneg (by omega))
    have h1 : x / 256 ^ i ≤ x := Int.ediv_le_self _ hx
    generalize hy : x / 256 ^ i = y at h0 h1
    have e7 : Int.tdiv y 256 = y / 256 := Int.tdiv_eq_ediv_of_nonneg h0
    have e8 : Int.tmod y 256 = y % 256 := Int.tmod_eq_emod_of_nonneg h0
    have e9 : IntKind.u64.wrap (y / 256) = y / 256 := u64w (by omega)
    have e10 : IntKind.u8.wrap (y % 256) = y % 256 := u8w (by omega)
    rw [gd_pos (by simp only [List.length_append, leB_length, List.length_cons, List.length_nil]; omega), e7, e8, e9, e10, i64s (by omega)]
    have := hrec hlt
    rw [leB_snoc, Int.pow_succ, ← Int.ediv_ediv_of_nonneg (Int.pow_nonneg (by omega)), hy] at this
    rw [List.append_assoc]; exact this
  · obtain rfl : i = n := by omega
    simp
theorem ref03_Put_eq {h : Int × Int × Int × Int} (hw : Wf03 h) : ref03_Put h = some (headS h) := by
  unfold ref03_Put headS
  simp only [jn_eq]
  cases hb : badH h
  · have hk := badH_false hb
    have h2 := inK_u64 hw.2.1
    have h3 := inK_u64 hw.2.2.1
    have d1 : decide (h.1 < 2) = false := by simp; omega
    have d2 : decide (h.1 > 4) = false := by simp; omega
    have d3 : decide (h.2.2.2 < 0) = false := by simp; omega
    have d4 : decide (h.2.2.2 > 64) = false := by simp; omega
    simp only [d1, d2, d3, d4, Bool.false_eq_true, if_false]
    have e1 : IntKind.u64.wrap h.1 = h.1 := u64w (by omega)
    have e2 : IntKind.u64.wrap h.2.2.2 = h.2.2.2 := u64w (by omega)
    rw [e1, e2]
    have N : ∀ {b : List Int} {x : Int} (m : Int), b.length ≤ 1000 → 0 ≤ x → x ≤ 18446744073709551615 → 0 ≤ m ∧ m ≤ 100 → ref03_number b x m = some (b ++ leB m.toNat x) := by
      intro b x m h1 h2 h3 h4
      have := ref03_number_eq (n := m.toNat) (b := b) (by omega) h2 h3 (by omega)
      rwa [show ((m.toNat : Nat) : Int) = m by omega] at this
    rw [bd_eq (N 2 (by simp) (by omega) (by omega) (by omega))]
    rw [bd_eq (N 2 (by simp [leB_length]) (by omega) (by omega) (by omega))]
    rw [bd_eq (N 4 (by simp [leB_length]) (by omega) (by omega) (by omega))]
    rw [bd_eq (N 8 (by simp [leB_length]) (by omega) (by omega) (by omega))]
    rw [bd_eq (N 8 (by simp [leB_length]) (by omega) (by omega) (by omega))]
    rw [bd_eq (N 12 (by simp [leB_length]) (by omega) (by omega) (by omega))]
    rw [bd_eq (N 2 (by simp [leB_length]) (by omega) (by omega) (by omega))]
    rw [bd_eq (N 2 (by simp [leB_length]) (by omega) (by omega) (by omega))]
    rw [bd_eq (N 2 (by simp [leB_length]) (by omega) (by omega) (by omega))]
    rw [bd_eq (N 6 (by simp [leB_length]) (by omega) (by omega) (by omega))]
    rfl
  · have : ∀ r : Option (List Int × Int), (if decide (h.1 < 2) = true then (if true = true then some (([] : List Int), (1 : Int)) else r) else if decide (h.1 > 4) = true then (if true = true then some ([], 1) else r) else if decide (h.2.2.2 < 0) = true then (if true = true then some ([], 1) else r) else if decide (h.2.2.2 > 64) = true then some ([], 1) else r) = some ([], 1) := by
      intro r
      simp only [badH, Bool.or_eq_true] at hb
      rcases hb with ((hb | hb) | hb) | hb <;> simp only [hb, if_true] <;> (repeat' split) <;> rfl
    exact this _
theorem HeadPuts_true {kind entry segs count : Int} (h1 : InK .i64 kind) (h2 : InK .u64 entry) (h3 : InK .u64 segs) (h4 : InK .i64 count) : law03_HeadPuts kind entry segs count = some true := by
  unfold law03_HeadPuts
  rw [bd_eq law03_awake_true]
  simp only [Bool.not_true, Bool.false_eq_true, if_false]
  rw [bd_eq (head_Put_eq _), bd_eq (show law03_model _ = some _ from rfl), bd_eq (ref03_Put_eq ⟨h1, h2, h3, h4⟩)]
  simp [jn_eq]

end Dm
