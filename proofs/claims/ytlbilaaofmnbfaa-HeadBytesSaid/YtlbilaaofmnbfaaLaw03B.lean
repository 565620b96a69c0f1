/-
  The laws of layer 3 that read heads, over the shallow forms: each is true. Conditions: numbers and bytes are in their kinds' ranges, lengths at most 2^63 - 1.
-/
import Derived.Test.YtlbilaaofmnbfaaLaw03
namespace Dm
open Go

/-- the head that stands in front -/
def hread (b : List Int) : Int × Int × Int × Int := (le (cu b 16 2), le (cu b 24 8), le (cu b 32 8), le (cu b 56 2))
def getHS (b : List Int) : (Int × Int × Int × Int) × Int :=
  if b.length < 64 then ((0, 0, 0, 0), 10) else if (headS (hread b)).2 = 0 ∧ (headS (hread b)).1 = b.take 64 then (hread b, 0) else ((0, 0, 0, 0), 11)
theorem cutL_take (b : List Int) (n : Nat) : cutL b 0 (n : Int) = b.take n := by unfold cutL; simp
theorem hput_length (h : Int × Int × Int × Int) : (hput h).length = 64 := rfl
theorem headS_len (h : Int × Int × Int × Int) : (headS h).1.length ≤ 64 := by
  unfold headS; split
  · simp
  · exact Nat.le_of_eq (hput_length h)
theorem hput_bytes (h : Int × Int × Int × Int) : Bytes (hput h) := by
  unfold hput
  refine Bytes.append (by intro x hx; simp only [List.mem_cons, List.not_mem_nil, or_false] at hx; omega) ?_
  intro x hx
  rw [List.mem_flatten] at hx
  obtain ⟨l, hl, hx⟩ := hx
  rw [List.mem_map] at hl
  obtain ⟨f, _, rfl⟩ := hl
  exact leB_bytes _ _ x hx
theorem headS_bytes (h : Int × Int × Int × Int) : Bytes (headS h).1 := by
  unfold headS; split
  · intro x hx; simp at hx
  · exact hput_bytes h
theorem hread_bd {b : List Int} (hB : Bytes b) (hl : 64 ≤ b.length) : 0 ≤ (hread b).1 ∧ (hread b).1 < 65536 ∧ 0 ≤ (hread b).2.1 ∧ (hread b).2.1 ≤ 18446744073709551615 ∧ 0 ≤ (hread b).2.2.1 ∧ (hread b).2.2.1 ≤ 18446744073709551615 ∧ 0 ≤ (hread b).2.2.2 ∧ (hread b).2.2.2 < 65536 := by
  have h1 := cu_bd (n := 2) hB (show 16 + 2 ≤ b.length by omega)
  have h2 := cu_bd (n := 8) hB (show 24 + 8 ≤ b.length by omega)
  have h3 := cu_bd (n := 8) hB (show 32 + 8 ≤ b.length by omega)
  have h4 := cu_bd (n := 2) hB (show 56 + 2 ≤ b.length by omega)
  unfold hread
  simp only
  omega
theorem head_Get_eq {b : List Int} (hb : b.length ≤ 9223372036854775807) (hB : Bytes b) : head_Get b = some (getHS b) := by
  unfold head_Get getHS
  by_cases hl : b.length < 64
  · rw [if_pos (by simp; omega), if_pos hl]
  · have hbd := hread_bd hB (by omega)
    have g1 : head_Get_1 16 2 b = some (hread b).1 := by unfold head_Get_1; rw [bd_eq (show octets_Get b 16 2 = some (le (cu b 16 2), 0) from get2 (p := 16) hb hB (by omega))]; rfl
    have g2 : head_Get_1 24 8 b = some (hread b).2.1 := by unfold head_Get_1; rw [bd_eq (show octets_Get b 24 8 = some (le (cu b 24 8), 0) from get8 (p := 24) hb hB (by omega))]; rfl
    have g3 : head_Get_1 32 8 b = some (hread b).2.2.1 := by unfold head_Get_1; rw [bd_eq (show octets_Get b 32 8 = some (le (cu b 32 8), 0) from get8 (p := 32) hb hB (by omega))]; rfl
    have g4 : head_Get_1 56 2 b = some (hread b).2.2.2 := by unfold head_Get_1; rw [bd_eq (show octets_Get b 56 2 = some (le (cu b 56 2), 0) from get2 (p := 56) hb hB (by omega))]; rfl
    rw [if_neg (by simp; omega), if_neg hl, bd_eq g1, bd_eq g2, bd_eq g3, bd_eq g4]
    have e1 : IntKind.i64.wrap (hread b).1 = (hread b).1 := i64w (by omega)
    have e4 : IntKind.i64.wrap (hread b).2.2.2 = (hread b).2.2.2 := i64w (by omega)
    rw [e1, e4, show ((hread b).1, (hread b).2.1, (hread b).2.2.1, (hread b).2.2.2) = hread b from rfl, bd_eq (head_Put_eq _)]
    have hL := headS_len (hread b)
    rw [show cutL b 0 64 = b.take 64 from cutL_take b 64]
    generalize headS (hread b) = r at hL
    rw [jn_eq]
    by_cases h0 : r.2 = 0
    · rw [if_neg (by simp [h0]), gd_pos (by omega), bd_eq (slices_Equal_eq (by omega))]
      by_cases he : r.1 = b.take 64
      · simp [h0, he]
      · simp [he]
    · rw [if_pos (by simp [h0]), if_neg (fun h => h0 h.1)]; rfl
theorem ref03_Get_eq {b : List Int} (hb : b.length ≤ 9223372036854775807) (hB : Bytes b) : ref03_Get b = some (getHS b) := by
  unfold ref03_Get getHS
  by_cases hl : b.length < 64
  · rw [if_pos (by simp; omega), if_pos hl]
  · have hbd := hread_bd hB (by omega)
    rw [if_neg (by simp; omega), if_neg hl, bd_eq (show ref01_Get b 16 2 = some (le (cu b 16 2), 0) from rget2 (p := 16) hb hB (by omega)), bd_eq (show ref01_Get b 24 8 = some (le (cu b 24 8), 0) from rget8 (p := 24) hb hB (by omega)), bd_eq (show ref01_Get b 32 8 = some (le (cu b 32 8), 0) from rget8 (p := 32) hb hB (by omega)), bd_eq (show ref01_Get b 56 2 = some (le (cu b 56 2), 0) from rget2 (p := 56) hb hB (by omega))]
    have e1 : IntKind.i64.wrap (le (cu b 16 2)) = (hread b).1 := i64w (by unfold hread at hbd; simp only at hbd; omega)
    have e4 : IntKind.i64.wrap (le (cu b 56 2)) = (hread b).2.2.2 := i64w (by unfold hread at hbd; simp only at hbd; omega)
    simp only [e1, e4]
    rw [show ((hread b).1, le (cu b 24 8), le (cu b 32 8), (hread b).2.2.2) = hread b from rfl]
    have hw : Wf03 (hread b) := by
      refine ⟨?_, ?_, ?_, ?_⟩ <;> constructor <;> simp only [IntKind.min, IntKind.max, IntKind.signed, IntKind.bits] <;> simp <;> omega
    rw [bd_eq (ref03_Put_eq hw)]
    have hS := headS_bytes (hread b)
    rw [show cutL b 0 64 = b.take 64 from cutL_take b 64, toStr_beq hS (hB.take 64)]
    generalize headS (hread b) = r
    rw [jn_eq]
    by_cases h0 : r.2 = 0
    · rw [if_neg (by simp [h0]), gd_pos (by omega)]
      by_cases he : r.1 = b.take 64
      · simp [h0, he]
      · simp [he]
    · rw [if_pos (by simp [h0]), if_neg (fun h => h0 h.1)]; rfl
theorem model_eq (h : Int × Int × Int × Int) : law03_model h = some (h.1, h.2.1, h.2.2.1, h.2.2.2) := rfl
theorem band_63 (x : Int) : 0 ≤ band .i64 x 63 ∧ band .i64 x 63 < 64 := by
  unfold band
  have h : (BitVec.ofInt IntKind.i64.bits x &&& BitVec.ofInt IntKind.i64.bits 63).toNat ≤ 63 := by
    rw [BitVec.toNat_and]; exact Nat.and_le_right
  rw [i64w (by omega)]
  omega
theorem set_bytes {l : List Int} (h : Bytes l) (i : Nat) (x : Int) : Bytes (l.set i (IntKind.u8.wrap x)) := by
  intro y hy
  rcases List.mem_or_eq_of_mem_set hy with hy | rfl
  · exact h y hy
  · rw [wrap_u8]; omega
theorem same_get {s : List Int} (hl : s.length = 64) (hB : Bytes s) :
    ((head_Get s).bind fun z6 => (ref03_Get s).bind fun z7 => jn (fun (s5 : Bool) => some s5) (fun k4 =>
      (if (z6.2 == z7.2) = true then
      (law03_model (z6.1.1, z6.1.2.1, z6.1.2.2.1, z6.1.2.2.2)).bind fun z8 =>
      k4 ((z8.1 == z7.1.1) && ((z8.2.1 == z7.1.2.1) && ((z8.2.2.1 == z7.1.2.2.1) && (z8.2.2.2 == z7.1.2.2.2))))
      else
      k4 false))) = some true := by
  rw [bd_eq (head_Get_eq (by omega) hB), bd_eq (ref03_Get_eq (by omega) hB), jn_eq, if_pos (by simp), bd_eq (model_eq _)]
  simp
theorem HeadGets_true {b : List Int} (hl : b.length ≤ 9223372036854775807) (hb : ∀ n ∈ b, InK .u8 n) {entry segs : Int} (h2 : InK .u64 entry) (h3 : InK .u64 segs) {turn : List Int} (ht : turn.length ≤ 9223372036854775807) (_ : ∀ n ∈ turn, InK .i64 n) :
    law03_HeadGets b entry segs turn = some true := by
  unfold law03_HeadGets
  rw [bd_eq law03_awake_true]
  simp only [Bool.not_true, Bool.false_eq_true, if_false]
  rw [bd_eq (head_Get_eq hl (bytes_of hb)), bd_eq (ref03_Get_eq hl (bytes_of hb)), jn_eq, if_neg (by simp), bd_eq (model_eq _)]
  simp only [beq_self_eq_true, Bool.and_self, Bool.not_true, Bool.false_eq_true, if_false]
  rw [bd_eq (ref03_Put_eq (h := (3, entry, segs, 2)) ⟨by show InK .i64 3; decide, h2, h3, by show InK .i64 2; decide⟩), jn_eq]
  refine loop_run (fun s => 0 ≤ s.1 ∧ s.1 ≤ 8 ∧ s.2.length = 64 ∧ Bytes s.2) (fun s => (10 - s.1).toNat) ?_ bigF (0, (headS (3, entry, segs, 2)).1) ⟨by simp, by simp, hput_length (3, entry, segs, 2), headS_bytes _⟩ (lt_bigF (by simp))
  rintro ⟨i, s⟩ rec ⟨h0, h8, hs, hB⟩ hrec
  simp only at h0 h8 hs hB hrec
  simp only [jn_eq (ρ := Bool) (σ := Bool)]
  have e1 : IntKind.i64.wrap (i + 1) = i + 1 := i64w (by omega)
  have e2 : IntKind.i64.wrap (i + 2) = i + 2 := i64w (by omega)
  have hg := same_get hs hB
  simp only [jn_eq (ρ := Bool) (σ := Bool)] at hg
  rw [e1, e2]
  by_cases ha : i + 1 < turn.length
  · rw [if_pos (by simp; omega)]
    by_cases h6 : i < 6
    · have hb6 := band_63 (gt turn i)
      rw [if_pos (by simp; omega), gd_pos (by omega), gd_pos (by omega), gd_pos (by omega), let1_eq]
      exact hrec _ ⟨by simp only []; omega, by simp only []; omega, by simp only [List.length_set]; exact hs, set_bytes hB _ _⟩ (by simp only []; omega)
    · rw [if_neg (by simp; omega)]; exact hg
  · rw [if_neg (by simp; omega), if_neg (by simp)]; exact hg
theorem hread_hput {h : Int × Int × Int × Int} (h1 : 0 ≤ h.1 ∧ h.1 < 65536) (h2 : InK .u64 h.2.1) (h3 : InK .u64 h.2.2.1) (h4 : 0 ≤ h.2.2.2 ∧ h.2.2.2 < 65536) (more : List Int) : hread (hput h ++ more) = h := by
  have g2 := inK_u64 h2
  have g3 := inK_u64 h3
  unfold hread
  rw [cu_left (by rw [hput_length]; omega), cu_left (by rw [hput_length]; omega), cu_left (by rw [hput_length]; omega), cu_left (by rw [hput_length]; omega)]
  have e1 : cu (hput h) 16 2 = leB 2 h.1 := rfl
  have e2 : cu (hput h) 24 8 = leB 8 h.2.1 := rfl
  have e3 : cu (hput h) 32 8 = leB 8 h.2.2.1 := rfl
  have e4 : cu (hput h) 56 2 = leB 2 h.2.2.2 := rfl
  rw [e1, e2, e3, e4, le_leB (by omega) (by omega), le_leB (by omega) (by omega), le_leB (by omega) (by omega), le_leB (by omega) (by omega)]
theorem HeadBack_true {kind entry segs count : Int} (_ : InK .i64 kind) (h2 : InK .u64 entry) (h3 : InK .u64 segs) (_ : InK .i64 count) {more : List Int} (_ : more.length ≤ 9223372036854775807) (hm : ∀ n ∈ more, InK .u8 n) :
    law03_HeadBack kind entry segs count more = some true := by
  unfold law03_HeadBack
  rw [bd_eq law03_awake_true]
  simp only [Bool.not_true, Bool.false_eq_true, if_false]
  by_cases hc : more.length ≤ 2000
  · rw [if_neg (by simp; omega), bd_eq (head_Put_eq _)]
    cases hb : badH (kind, entry, segs, count)
    · have hk := badH_false hb
      simp only at hk
      have hS : headS (kind, entry, segs, count) = (hput (kind, entry, segs, count), 0) := by unfold headS; rw [hb]; rfl
      rw [hS]
      have hL := hput_length (kind, entry, segs, count)
      have hM := bytes_of hm
      rw [if_neg (by simp), gd_pos (by rw [hL]; omega), bd_eq (head_Get_eq (by rw [List.length_append, hL]; omega) ((hput_bytes _).append hM)), bd_eq (head_Get_eq (by omega) hM)]
      have hG : getHS (hput (kind, entry, segs, count) ++ more) = ((kind, entry, segs, count), 0) := by
        unfold getHS
        rw [if_neg (by rw [List.length_append, hL]; omega), hread_hput (by simp only; omega) h2 h3 (by simp only; omega), hS, if_pos ⟨rfl, by rw [List.take_append_of_le_length (by rw [hL]; omega), List.take_of_length_le (by rw [hL]; omega)]⟩]
      rw [hG, jn_eq, if_neg (by simp)]
      simp only [beq_self_eq_true, Bool.and_self, Bool.not_true, Bool.false_eq_true, if_false]
      unfold getHS
      by_cases h64 : more.length < 64
      · rw [if_pos h64]; simp
      · rw [if_neg h64]
        by_cases hg : (headS (hread more)).2 = 0 ∧ (headS (hread more)).1 = more.take 64
        · have hl : (headS (hread more)).1.length = 64 := by rw [hg.2, List.length_take]; omega
          rw [if_pos hg, if_neg (by simp), bd_eq (head_Put_eq _), show ((hread more).1, (hread more).2.1, (hread more).2.2.1, (hread more).2.2.2) = hread more from rfl, jn_eq]
          simp only [show ((hread more).1, (hread more).2.1, (hread more).2.2.1, (hread more).2.2.2) = hread more from rfl]
          rw [if_pos (by rw [hg.1]; rfl), hl, if_pos (by simp; omega), gd_pos (by omega), show cutL more 0 ((64 : Nat) : Int) = more.take 64 from cutL_take more 64, hg.2]
          simp
        · rw [if_neg hg]; simp
    · have hS : headS (kind, entry, segs, count) = ([], 1) := by unfold headS; rw [hb]; rfl
      rw [hS]; simp
  · rw [if_pos (by simp; omega)]
theorem HeadBytes_true {kind entry segs count at_ c : Int} (_ : InK .u16 kind) (h2 : InK .u64 entry) (h3 : InK .u64 segs) (_ : InK .u16 count) (h5 : InK .u8 at_) (h6 : InK .u8 c) :
    law03_HeadBytes kind entry segs count at_ c = some true := by
  have h5 := inK_u8 h5
  have h6 := inK_u8 h6
  unfold law03_HeadBytes
  rw [bd_eq law03_awake_true]
  simp only [Bool.not_true, Bool.false_eq_true, if_false]
  rw [bd_eq (ref03_Put_eq (h := (2, entry, segs, 1)) ⟨by show InK .i64 2; decide, h2, h3, by show InK .i64 1; decide⟩)]
  have hS : headS (2, entry, segs, 1) = (hput (2, entry, segs, 1), 0) := rfl
  have hL := hput_length (2, entry, segs, 1)
  have hB := hput_bytes (2, entry, segs, 1)
  rw [hS]
  simp only [List.length_set, hL]
  rw [gd_pos (by decide), gd_pos (by decide), gd_pos (by decide), gd_pos (by decide), jn_eq]
  generalize hput (2, entry, segs, 1) = s at hL hB
  have hB4 := set_bytes (set_bytes (set_bytes (set_bytes hB (Int.toNat 16) kind) (Int.toNat 17) (shr .u16 kind 8)) (Int.toNat 56) count) (Int.toNat 57) (shr .u16 count 8)
  by_cases ha : at_ < 64
  · rw [if_pos (by simp [ha]), gd_pos (by omega)]
    have hB5 := set_bytes hB4 (Int.toNat at_) c
    rw [u8w (n := c) (by omega)] at hB5
    exact same_get (by simp only [List.length_set]; exact hL) hB5
  · rw [if_neg (by simp [ha])]
    exact same_get (by simp only [List.length_set]; exact hL) hB4

end Dm
