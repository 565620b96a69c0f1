/-
  The laws of layer 4 (segments) on bytes, over the shallow forms: each is true. Conditions: numbers and bytes are in their kinds' ranges, lengths at most 2^63 - 1.
-/
import Derived.Test.YtljdbjimdidigaaCut
import Derived.KernelRfl
namespace Dm
open Go

theorem law04_awake_true : law04_awake = some true := by kernel_rfl
abbrev Seg := Int × Int × Int × Int × Int × Int × Int
abbrev Wf04 (y : Seg) : Prop := InK .u32 y.1 ∧ InK .u32 y.2.1 ∧ InK .u64 y.2.2.1 ∧ InK .u64 y.2.2.2.1 ∧ InK .u64 y.2.2.2.2.1 ∧ InK .u64 y.2.2.2.2.2.1 ∧ InK .u64 y.2.2.2.2.2.2
def sput (s : Seg) : List Int := leB 8 (s.1 + s.2.1 * 2 ^ 32) ++ (leB 8 s.2.2.1 ++ (leB 8 s.2.2.2.1 ++ (leB 8 s.2.2.2.1 ++ (leB 8 s.2.2.2.2.1 ++ (leB 8 s.2.2.2.2.2.1 ++ leB 8 s.2.2.2.2.2.2)))))
theorem sput_length (s : Seg) : (sput s).length = 56 := by simp only [sput, List.length_append, leB_length]
theorem sput_bytes (s : Seg) : Bytes (sput s) := (leB_bytes _ _).append ((leB_bytes _ _).append ((leB_bytes _ _).append ((leB_bytes _ _).append ((leB_bytes _ _).append ((leB_bytes _ _).append (leB_bytes _ _))))))
theorem segs_Put_eq {s : Seg} (hx : Wf04 s) : segs_Put s = some (sput s) := by
  obtain ⟨a, b, c, d, e, f, g⟩ := s
  have h1 := inK_u32 hx.1
  have h2 := inK_u32 hx.2.1
  simp only at h1 h2
  have e2 : IntKind.u64.wrap a = a := u64w (by omega)
  have e3 : IntKind.u64.wrap b = b := u64w (by omega)
  have eb : bor .u64 a (shl .u64 b 32) = a + b * 2 ^ 32 := bor_two (k := 32) (by omega) (by omega) (by omega) (by omega) (by omega)
  unfold segs_Put sput
  rw [jn_eq]
  simp only [e2, e3, eb]
  generalize hw : ([a + b * 2 ^ 32, c, d, d, e, f, g] : List Int) = ws
  have hl : ws.length = 7 := by subst hw; rfl
  have hr : leB 8 (a + b * 2 ^ 32) ++ (leB 8 c ++ (leB 8 d ++ (leB 8 d ++ (leB 8 e ++ (leB 8 f ++ leB 8 g))))) = (ws.map (leB 8)).flatten := by
    subst hw; simp only [List.map_cons, List.map_nil, List.flatten_cons, List.flatten_nil, List.append_nil]
  rw [hr]
  refine loop_at (fun i => (((ws.take i).map (leB 8)).flatten, (i : Int))) ws.length rfl (by omega) ?_
  intro i rec hi hrec
  by_cases hlt : i < ws.length
  · have hlen : (((ws.take i).map (leB 8)).flatten).length ≤ 56 := by rw [flat_len, List.length_take]; omega
    rw [dif_lt hlt, if_pos rfl, gd_pos (by omega), let1_eq, gd_pos (by omega), bd_eq (set8 _)]
    simp only
    rw [gd_pos (by rw [leB_length]; omega), i64s (by omega), gt_nat hlt]
    have := hrec hlt
    rw [List.take_succ_eq_append_getElem hlt, List.map_append, List.flatten_append] at this
    simpa using this
  · obtain rfl : i = ws.length := by omega
    rw [dif_ge (by omega), List.take_of_length_le (Nat.le_refl _)]
    simp
theorem ref04_eight_eq {b : List Int} (hb : b.length ≤ 100000) {x : Int} (hx : 0 ≤ x) (hx1 : x ≤ 18446744073709551615) (n : Nat) (hn : n ≤ 8) : ref04_eight b x (n : Int) = some (b ++ leB n x) := by
  unfold ref04_eight
  rw [jn_eq]
  refine loop_at (fun i => (b ++ leB i x, x / 256 ^ i, (i : Int))) n (by simp [leB]) (by omega) ?_
  intro i rec hi hrec
  by_cases hlt : i < n
  · have hc : decide ((i : Int) < n) = true := by simp; omega
    simp only [hc, if_true, let1_eq]
    have h0 : 0 ≤ x / 256 ^ i := Int.ediv_nonneg hx (Int.pow_nonneg (by omega))
    have h1 : x / 256 ^ i ≤ x := Int.ediv_le_self _ hx
    generalize hy : x / 256 ^ i = y at h0 h1
    have e7 : Int.tdiv y 256 = y / 256 := Int.tdiv_eq_ediv_of_nonneg h0
    have e8 : Int.tmod y 256 = y % 256 := Int.tmod_eq_emod_of_nonneg h0
    have e9 : IntKind.u64.wrap (y / 256) = y / 256 := u64w (by omega)
    have e10 : IntKind.u8.wrap (y % 256) = y % 256 := u8w (by omega)
    rw [gd_pos (by simp only [List.length_append, leB_length, List.length_cons, List.length_nil]; omega), e7, e8, e9, e10, i64s (by omega)]
    have := hrec hlt
    rw [leB_snoc, Int.pow_succ, ← Int.ediv_ediv_of_nonneg (Int.pow_nonneg (by omega)), hy] at this
    rw [List.append_assoc]; exact this
  · obtain rfl : i = n := by omega
    simp
theorem ref04_Put_eq {s : Seg} (hx : Wf04 s) : ref04_Put s = some (sput s) := by
  obtain ⟨a, b, c, d, e, f, g⟩ := s
  obtain ⟨h1, h2, h3, h4, h5, h6, h7⟩ := hx
  have h1 := inK_u32 h1
  have h2 := inK_u32 h2
  have h3 := inK_u64 h3
  have h4 := inK_u64 h4
  have h5 := inK_u64 h5
  have h6 := inK_u64 h6
  have h7 := inK_u64 h7
  simp only at h1 h2 h3 h4 h5 h6 h7
  have e2 : IntKind.u64.wrap a = a := u64w (by omega)
  have e3 : IntKind.u64.wrap b = b := u64w (by omega)
  unfold ref04_Put sput
  simp only [e2, e3]
  have E4 : ∀ {b : List Int} {x : Int}, b.length ≤ 1000 → 0 ≤ x → x ≤ 18446744073709551615 → ref04_eight b x 4 = some (b ++ leB 4 x) := fun p q r => ref04_eight_eq (by omega) q r 4 (by omega)
  have E8 : ∀ {b : List Int} {x : Int}, b.length ≤ 1000 → 0 ≤ x → x ≤ 18446744073709551615 → ref04_eight b x 8 = some (b ++ leB 8 x) := fun p q r => ref04_eight_eq (by omega) q r 8 (by omega)
  rw [bd_eq (E4 (by simp) (by omega) (by omega)), bd_eq (E4 (by simp [leB_length]) (by omega) (by omega))]
  iterate 6 rw [bd_eq (E8 (by simp [leB_length]) (by omega) (by omega))]
  have e4 : a + b * 2 ^ 32 = a + 256 ^ 4 * b := by omega
  rw [e4, show leB 8 (a + 256 ^ 4 * b) = leB 4 a ++ leB 4 b from leB_two (m := 4) (n := 4) (by omega) (by omega) (by omega) (by omega)]
  simp only [List.nil_append, List.append_assoc]
def sread (b : List Int) (p : Nat) : Seg := (le (cu b p 4), le (cu b (p + 4) 4), le (cu b (p + 8) 8), le (cu b (p + 16) 8), le (cu b (p + 32) 8), le (cu b (p + 40) 8), le (cu b (p + 48) 8))
/-- the segment that stands at a place -/
def getSS (b : List Int) (p : Nat) : Seg × Int :=
  if b.length < p + 56 then ((0, 0, 0, 0, 0, 0, 0), 10) else if le (cu b (p + 16) 8) = le (cu b (p + 24) 8) then (sread b p, 0) else ((0, 0, 0, 0, 0, 0, 0), 11)
theorem set_words (f : Nat → Int) (n i : Nat) (h : i < n) : ((List.range i).map f ++ List.replicate (n - i) 0).set i (f i) = (List.range (i + 1)).map f ++ List.replicate (n - (i + 1)) 0 := by
  rw [List.set_append_right _ _ (by simp), List.length_map, List.length_range, Nat.sub_self, show n - i = (n - (i + 1)) + 1 by omega, List.replicate_succ, List.set_cons_zero, List.range_succ, List.map_append, List.append_assoc]; rfl
theorem segs_Get_eq {b : List Int} (hb : b.length ≤ 9223372036854775807) (hB : Bytes b) : segs_Get b = some (getSS b 0) := by
  unfold segs_Get getSS
  by_cases hl : b.length < 56
  · rw [if_pos (by simp; omega), if_pos (by omega)]
  · rw [if_neg (by simp; omega), if_neg (by omega), jn_eq]
    refine loop_at (fun i => ((i : Int), (List.range i).map (fun k => le (cu b (8 * k) 8)) ++ List.replicate (7 - i) 0)) 7 rfl (by omega) ?_
    intro i rec hi hrec
    by_cases hlt : i < 7
    · have e1 : IntKind.u64.wrap (IntKind.i64.wrap (8 * (i : Int))) = ((8 * i : Nat) : Int) := by rw [i64w (by omega), u64w (by omega)]; omega
      dsimp only at hrec ⊢
      rw [if_pos (by simp; omega), e1, bd_eq (get8 hb hB (by omega)), gd_pos (by omega), i64s (by omega), Int.toNat_natCast]
      have hrec := hrec hlt
      rw [← set_words (fun k => le (cu b (8 * k) 8)) 7 i hlt] at hrec
      exact hrec
    · obtain rfl : i = 7 := by omega
      dsimp only
      rw [if_neg (by simp)]
      show (gd _ <| gd _ <| if (le (cu b 16 8) != le (cu b 24 8)) = true then _ else _) = _
      rw [gd_pos (by decide), gd_pos (by decide)]
      by_cases he : le (cu b (0 + 16) 8) = le (cu b (0 + 24) 8)
      · rw [if_neg (by simpa using he), if_pos he]
        iterate 7 rw [gd_pos (by decide)]
        have ea : le (cu b 0 8) = le (cu b 0 4) + 4294967296 * le (cu b 4 4) := le_cu_add (p := 0) (m := 4) (n := 4) (by omega)
        have b0 := cu_bd (n := 4) hB (show 0 + 4 ≤ b.length by omega)
        have b1 := cu_bd (n := 4) hB (show 4 + 4 ≤ b.length by omega)
        show some ((IntKind.u32.wrap (le (cu b 0 8)), IntKind.u32.wrap (shr .u64 (le (cu b 0 8)) 32), _), _) = _
        have e1 : IntKind.u32.wrap (le (cu b 0 8)) = le (cu b 0 4) := by rw [wrap_u32]; omega
        have e2 : IntKind.u32.wrap (shr .u64 (le (cu b 0 8)) 32) = le (cu b 4 4) := by
          have : shr .u64 (le (cu b 0 8)) 32 = le (cu b 0 8) / 4294967296 := by
            unfold shr; rw [Int.fdiv_eq_ediv_of_nonneg _ (Int.pow_nonneg (by omega))]; rfl
          rw [this, wrap_u32]; omega
        rw [e1, e2]; rfl
      · rw [if_pos (by simpa using he), if_neg he]
theorem ref04_at_eq {b : List Int} {i n : Int} {r : Int × Int} (h : ref01_Get b i n = some r) : ref04_at b i n = some r.1 := by unfold ref04_at; rw [bd_eq h]
theorem ref04_Get_eq {b : List Int} (hb : b.length ≤ 9223372036854775807) (hB : Bytes b) : ref04_Get b = some (getSS b 0) := by
  unfold ref04_Get getSS
  by_cases hl : b.length < 56
  · rw [if_pos (by simp; omega), if_pos (by omega)]
  · have A8 : ∀ p : Nat, p + 8 ≤ b.length → ref04_at b (p : Int) 8 = some (le (cu b p 8)) := fun p h => ref04_at_eq (rget8 hb hB h)
    have A4 : ∀ p : Nat, p + 4 ≤ b.length → ref04_at b (p : Int) 4 = some (le (cu b p 4)) := fun p h => ref04_at_eq (rget4 hb hB h)
    rw [if_neg (by simp; omega), if_neg (by omega), bd_eq (show ref04_at b 16 8 = _ from A8 16 (by omega)), bd_eq (show ref04_at b 24 8 = _ from A8 24 (by omega))]
    by_cases he : le (cu b (0 + 16) 8) = le (cu b (0 + 24) 8)
    · have b0 := cu_bd (n := 4) hB (show 0 + 4 ≤ b.length by omega)
      have b1 := cu_bd (n := 4) hB (show 4 + 4 ≤ b.length by omega)
      rw [if_neg (by simpa using he), if_pos he, bd_eq (show ref04_at b 0 4 = _ from A4 0 (by omega)), bd_eq (show ref04_at b 4 4 = _ from A4 4 (by omega)), bd_eq (show ref04_at b 8 8 = _ from A8 8 (by omega)),
        bd_eq (show ref04_at b 16 8 = _ from A8 16 (by omega)), bd_eq (show ref04_at b 32 8 = _ from A8 32 (by omega)), bd_eq (show ref04_at b 40 8 = _ from A8 40 (by omega)), bd_eq (show ref04_at b 48 8 = _ from A8 48 (by omega)), u32w (by omega), u32w (by omega)]
      rfl
    · rw [if_pos (by simpa using he), if_neg he]
theorem sread_sput {s : Seg} (hx : Wf04 s) {pre post : List Int} {p : Nat} (hp : p = pre.length) : sread (pre ++ (sput s ++ post)) p = s ∧ le (cu (pre ++ (sput s ++ post)) (p + 16) 8) = le (cu (pre ++ (sput s ++ post)) (p + 24) 8) := by
  obtain ⟨a, b, c, d, e, f, g⟩ := s
  obtain ⟨h1, h2, h3, h4, h5, h6, h7⟩ := hx
  have h1 := inK_u32 h1
  have h2 := inK_u32 h2
  have h3 := inK_u64 h3
  have h4 := inK_u64 h4
  have h5 := inK_u64 h5
  have h6 := inK_u64 h6
  have h7 := inK_u64 h7
  simp only at h1 h2 h3 h4 h5 h6 h7
  have hL := sput_length (a, b, c, d, e, f, g)
  have hcu : ∀ q n, q + n ≤ 56 → cu (pre ++ (sput (a, b, c, d, e, f, g) ++ post)) (p + q) n = cu (sput (a, b, c, d, e, f, g)) q n := by
    intro q n h
    rw [cu_right' (by omega), show p + q - pre.length = q by omega, cu_left (by omega)]
  have e4 : a + b * 2 ^ 32 = a + 256 ^ 4 * b := by omega
  have hS : sput (a, b, c, d, e, f, g) = leB 4 a ++ (leB 4 b ++ (leB 8 c ++ (leB 8 d ++ (leB 8 d ++ (leB 8 e ++ (leB 8 f ++ leB 8 g)))))) := by
    unfold sput; rw [e4, show leB 8 (a + 256 ^ 4 * b) = leB 4 a ++ leB 4 b from leB_two (m := 4) (n := 4) (by omega) (by omega) (by omega) (by omega), List.append_assoc]
  have c0 : cu (sput (a, b, c, d, e, f, g)) 0 4 = leB 4 a := by rw [hS]; rfl
  have c4 : cu (sput (a, b, c, d, e, f, g)) 4 4 = leB 4 b := by rw [hS]; rfl
  have c8 : cu (sput (a, b, c, d, e, f, g)) 8 8 = leB 8 c := by rw [hS]; rfl
  have c16 : cu (sput (a, b, c, d, e, f, g)) 16 8 = leB 8 d := by rw [hS]; rfl
  have c24 : cu (sput (a, b, c, d, e, f, g)) 24 8 = leB 8 d := by rw [hS]; rfl
  have c32 : cu (sput (a, b, c, d, e, f, g)) 32 8 = leB 8 e := by rw [hS]; rfl
  have c40 : cu (sput (a, b, c, d, e, f, g)) 40 8 = leB 8 f := by rw [hS]; rfl
  have c48 : cu (sput (a, b, c, d, e, f, g)) 48 8 = leB 8 g := by rw [hS]; rfl
  refine ⟨?_, by rw [hcu 16 8 (by omega), hcu 24 8 (by omega), c16, c24]⟩
  unfold sread
  rw [show cu (pre ++ (sput (a, b, c, d, e, f, g) ++ post)) p 4 = _ from hcu 0 4 (by omega), hcu 4 4 (by omega), hcu 8 8 (by omega), hcu 16 8 (by omega), hcu 32 8 (by omega), hcu 40 8 (by omega), hcu 48 8 (by omega), c0, c4, c8, c16, c32, c40, c48]
  rw [le_leB (by omega) (by omega), le_leB (by omega) (by omega), le_leB (by omega) (by omega), le_leB (by omega) (by omega), le_leB (by omega) (by omega), le_leB (by omega) (by omega), le_leB (by omega) (by omega)]
theorem getSS_sput {s : Seg} (hx : Wf04 s) {pre post : List Int} {p : Nat} (hp : p = pre.length) : getSS (pre ++ (sput s ++ post)) p = (s, 0) := by
  obtain ⟨h1, h2⟩ := sread_sput hx (post := post) hp
  unfold getSS
  rw [if_neg (by rw [List.length_append, List.length_append, sput_length]; omega), if_pos h2, h1]
theorem SegsPuts_true {s : Seg} (hx : Wf04 s) : law04_SegsPuts s = some true := by
  unfold law04_SegsPuts
  rw [bd_eq law04_awake_true]
  simp only [Bool.not_true, Bool.false_eq_true, if_false]
  have hg : getSS (sput s) 0 = (s, 0) := by have := getSS_sput hx (pre := []) (post := []) (p := 0) rfl; rwa [List.nil_append, List.append_nil] at this
  rw [bd_eq (segs_Put_eq hx), bd_eq (segs_Get_eq (by rw [sput_length]; omega) (sput_bytes s)), jn_eq, bd_eq (ref04_Put_eq hx), hg]
  simp

end Dm
