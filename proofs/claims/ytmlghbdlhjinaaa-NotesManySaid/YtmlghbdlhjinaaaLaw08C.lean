/-
  What the reference reads as notes, over its shallow form: the same. Conditions: bytes from 0 to 255.
-/
import Derived.Test.YtmlghbdlhjinaaaLaw08B
namespace Dm
open Go

theorem up_eq {n : Nat} (h : n ≤ 9223372036854775000) : ref08_up (n : Int) = some ((upN n : Nat) : Int) := by
  have u := upN_lt n
  have e1 : IntKind.u64.wrap ((n : Int) + 3) = ((n + 3 : Nat) : Int) := by rw [u64w (by omega)]; omega
  have e2 : Int.tdiv ((n + 3 : Nat) : Int) 4 = (((n + 3) / 4 : Nat) : Int) := by rw [Int.tdiv_eq_ediv_of_nonneg (by omega)]; omega
  have e3 : IntKind.u64.wrap (((n + 3) / 4 : Nat) : Int) = (((n + 3) / 4 : Nat) : Int) := u64w (by omega)
  have e4 : IntKind.u64.wrap ((((n + 3) / 4 : Nat) : Int) * 4) = ((upN n : Nat) : Int) := by rw [u64w (by omega)]; unfold upN; omega
  unfold ref08_up
  rw [e1, e2, e3, e4]
theorem getD_drop (b : List Int) (p k : Nat) : (b.drop p).getD k 0 = b.getD (p + k) 0 := by
  rw [List.getD_eq_getElem?_getD, List.getD_eq_getElem?_getD, List.getElem?_drop]
theorem cu_all {b : List Int} {p n : Nat} {f : Int → Bool} (h : p + n ≤ b.length) : (cu b p n).all f = true ↔ ∀ k, k < n → f (b.getD (p + k) 0) = true := by
  rw [List.all_eq_true]
  have hl : (cu b p n).length = n := cu_length h
  have hg : ∀ k (hk : k < n), (cu b p n)[k]'(by omega) = b.getD (p + k) 0 := by
    intro k hk
    have hlt : p + k < b.length := by omega
    rw [List.getD_eq_getElem?_getD, List.getElem?_eq_getElem hlt]
    unfold cu
    rw [List.getElem_take, List.getElem_drop]; rfl
  constructor
  · intro ha k hk
    rw [← hg k hk]
    exact ha _ (List.getElem_mem _)
  · intro ha x hx
    obtain ⟨k, hk, rfl⟩ := List.getElem_of_mem hx
    rw [hg k (by omega)]
    exact ha k (by omega)
theorem any_range {n : Nat} {bad : Nat → Bool} {o : Bool} (h : o = true ↔ ∀ i, i < n → bad i = false) : (List.range n).any bad = !o := by
  cases o
  · rw [Bool.not_false, List.any_eq_true]
    by_cases hx : ∀ i, i < n → bad i = false
    · exact absurd (h.2 hx) (by simp)
    · simp only [Classical.not_forall] at hx
      obtain ⟨i, hi, hb⟩ := hx
      exact ⟨i, List.mem_range.2 hi, by simpa using hb⟩
  · rw [Bool.not_true, List.any_eq_false]
    intro i hi
    rw [h.1 rfl i (List.mem_range.1 hi)]; simp
theorem nameOk_range {c : List Int} (_ : nN c ≠ 0) (h : 12 + upN (nN c) ≤ c.length) : (List.range (upN (nN c))).any (fun i => !((c.getD (12 + i) 0 == 0) == decide (nN c ≤ i + 1))) = !nameOk c := by
  have u := upN_le (nN c)
  apply any_range
  unfold nameOk
  rw [Bool.and_eq_true, cu_all (by omega), cu_all (by omega)]
  constructor
  · rintro ⟨h1, h2⟩ i hi
    by_cases hn : nN c ≤ i + 1
    · have := h2 (i - (nN c - 1)) (by omega)
      rw [show 12 + (nN c - 1) + (i - (nN c - 1)) = 12 + i by omega] at this
      rw [this, decide_eq_true hn]; rfl
    · have := h1 i (by omega)
      rw [decide_eq_false hn]
      cases hz : (c.getD (12 + i) 0 == 0)
      · rfl
      · rw [bne, hz] at this; simp at this
  · intro ha
    constructor
    · intro k hk
      have := ha k (by omega)
      rw [decide_eq_false (by omega)] at this
      cases hz : (c.getD (12 + k) 0 == 0)
      · rw [bne, hz]; rfl
      · rw [hz] at this; simp at this
    · intro k hk
      have := ha (nN c - 1 + k) (by omega)
      rw [decide_eq_true (by omega), ← Nat.add_assoc] at this
      cases hz : (c.getD (12 + (nN c - 1) + k) 0 == 0)
      · rw [hz] at this; simp at this
      · rfl
theorem descOk_range {c : List Int} (h : 12 + upN (nN c) + upN (nD c) ≤ c.length) : (List.range (upN (nD c) - nD c)).any (fun i => c.getD (12 + upN (nN c) + (nD c + i)) 0 != 0) = !descOk c := by
  have u := upN_le (nD c)
  apply any_range
  unfold descOk
  rw [cu_all (by omega)]
  constructor
  · intro ha i hi
    have := ha i hi
    rw [Nat.add_assoc (12 + upN (nN c))] at this
    rw [bne, this]; rfl
  · intro ha k hk
    have := ha k hk
    rw [Nat.add_assoc (12 + upN (nN c))]
    rw [bne] at this
    simpa using this
theorem scan_hit {ρ : Type} (lo n : Nat) (hn : lo + n ≤ 9223372036854775807) (bad : Nat → Bool) (r0 : Option ρ) (hb : (List.range n).any bad = true) {body : Int → (Int → Option ρ) → Option ρ}
    (h : ∀ (i : Nat) rec, i < n → body ((lo + i : Nat) : Int) rec = if bad i then r0 else rec ((lo + (i + 1) : Nat) : Int)) : loopK body bigF (lo : Int) = r0 := by
  refine loop_toP (fun i => ((lo + i : Nat) : Int)) (fun _ => r0) (fun i => ((List.range n).drop i).any bad = true) n rfl hb rfl (by omega) ?_
  intro i rec hi hP hrec
  by_cases hlt : i < n
  · have hl : i < (List.range n).length := by rw [List.length_range]; exact hlt
    rw [List.drop_eq_getElem_cons hl, List.any_cons, List.getElem_range] at hP
    rw [h i rec hlt]
    cases hp : bad i
    · rw [hp, Bool.false_or] at hP
      simpa using hrec hlt hP
    · simp
  · obtain rfl : i = n := by omega
    rw [List.drop_eq_nil_of_le (by rw [List.length_range]; omega)] at hP
    simp at hP
theorem scan_pass {ρ : Type} (lo n : Nat) (hn : lo + n ≤ 9223372036854775807) (bad : Nat → Bool) (r0 R : Option ρ) (hb : (List.range n).any bad = false) {body : Int → (Int → Option ρ) → Option ρ}
    (h : ∀ (i : Nat) rec, i < n → body ((lo + i : Nat) : Int) rec = if bad i then r0 else rec ((lo + (i + 1) : Nat) : Int))
    (h1 : ∀ rec, body ((lo + n : Nat) : Int) rec = R) : loopK body bigF (lo : Int) = R := by
  rw [scan_rng lo n hn bad r0 R h h1, hb]; rfl
theorem ref08_Get_eq {b : List Int} (hb : b.length ≤ 9223372036854775807) (hB : Bytes b) : ref08_Get b = some (if b.length > 65536 then ([], 13) else getT b []) := by
  unfold ref08_Get
  by_cases h6 : b.length > 65536
  · rw [if_pos (by rw [decide_eq_true_eq]; omega), if_pos h6]
  have eL : IntKind.u64.wrap ((b.length : Nat) : Int) = b.length := u64w (by omega)
  rw [if_neg (by rw [decide_eq_true_eq]; omega), if_neg h6, jn_eq, eL]
  refine loop_run (fun s => 0 ≤ s.2 ∧ s.2 ≤ (b.length : Int) ∧ s.1.length ≤ s.2.toNat ∧ getT (b.drop s.2.toNat) s.1 = getT b []) (fun s => b.length - s.2.toNat) ?_ bigF ([], 0) ⟨by simp, by simp, by simp, rfl⟩ (lt_bigF (by simp only []; omega))
  rintro ⟨acc, q⟩ rec ⟨hq0, hq1, hq2, hg⟩ hrec
  simp only at hq0 hq1 hq2 hg hrec ⊢
  obtain ⟨p, rfl⟩ := Int.eq_ofNat_of_zero_le hq0
  simp only [Int.toNat_natCast] at hq2 hg hrec
  rw [← hg]
  by_cases hlt : p < b.length
  · rw [if_pos (by rw [decide_eq_true_eq]; omega), jn_eq, bd_eq (ref01_Inside_eq (by omega) hq0)]
    have hc : Bytes (b.drop p) := hB.drop p
    have hcu : ∀ q n, cu b (p + q) n = cu (b.drop p) q n := fun q n => (cu_drop b p q n).symm
    have hgd : ∀ k, b.getD (p + k) 0 = (b.drop p).getD k 0 := fun k => (getD_drop b p k).symm
    have hcl : (b.drop p).length = b.length - p := List.length_drop
    have hdd : ∀ k, b.drop (p + k) = (b.drop p).drop k := fun k => by rw [List.drop_drop]
    have hdk : ∀ k, (b.drop p).drop k = b.drop (p + k) := fun k => by rw [List.drop_drop]
    generalize b.drop p = c at hc hcu hgd hcl hdd hdk hg
    have h0 : c.length ≠ 0 := by omega
    by_cases a1 : c.length < 12
    · have hE : noteE c = 10 := by unfold noteE; rw [if_pos a1]
      have hi : insB b.length (p : Int) 12 = false := by simp [insB]; omega
      rw [hi, if_pos (c := (!false) = true) rfl, getT_err h0 (by rw [hE]; omega), hE]
    have hi : insB b.length (p : Int) 12 = true := by simp [insB]; omega
    have b0 := cu_bd (n := 4) hc (show 0 + 4 ≤ c.length by omega)
    have b4 := cu_bd (n := 4) hc (show 4 + 4 ≤ c.length by omega)
    have b8 := cu_bd (n := 4) hc (show 8 + 4 ≤ c.length by omega)
    have g0 : le (cu c 0 4) = ((nN c : Nat) : Int) := by unfold nN; omega
    have g1 : le (cu c 4 4) = ((nD c : Nat) : Int) := by unfold nD; omega
    have n0 : nN c ≤ 4294967295 := by unfold nN; omega
    have n1 : nD c ≤ 4294967295 := by unfold nD; omega
    have uN := upN_le (nN c)
    have uD := upN_le (nD c)
    have uN2 := upN_lt (nN c)
    have uD2 := upN_lt (nD c)
    have w4 : IntKind.u64.wrap ((p : Int) + 4) = ((p + 4 : Nat) : Int) := by rw [u64w (by omega)]; omega
    have w8 : IntKind.u64.wrap ((p : Int) + 8) = ((p + 8 : Nat) : Int) := by rw [u64w (by omega)]; omega
    have w12 : IntKind.u64.wrap ((p : Int) + 12) = ((p + 12 : Nat) : Int) := by rw [u64w (by omega)]; omega
    have r0 : ref01_Get b (p : Int) 4 = some (((nN c : Nat) : Int), 0) := by rw [rget4 hb hB (by omega), ← g0]; exact congrArg (fun x => some (le x, (0 : Int))) (hcu 0 4)
    have r4 : ref01_Get b ((p + 4 : Nat) : Int) 4 = some (((nD c : Nat) : Int), 0) := by rw [rget4 hb hB (by omega), hcu, g1]
    have r8 : ref01_Get b ((p + 8 : Nat) : Int) 4 = some (nT c, 0) := by rw [rget4 hb hB (by omega), hcu]; rfl
    have e2 : IntKind.u32.wrap (nT c) = nT c := wrap32 b8
    rw [hi, if_neg (by simp), w4, w8, w12, bd_eq r0, bd_eq r4, bd_eq r8, let1_eq]
    dsimp only
    by_cases a2 : nN c = 0
    · have hE : noteE c = 11 := by unfold noteE; rw [if_neg a1, if_pos a2]
      rw [if_pos (by rw [a2]; rfl), getT_err h0 (by rw [hE]; omega), hE]
    rw [if_neg (by rw [beq_iff_eq]; omega), bd_eq (up_eq (by omega)), bd_eq (ref01_Inside_eq (by omega) (by omega))]
    by_cases a3 : c.length < 12 + upN (nN c)
    · have hE : noteE c = 10 := by unfold noteE; rw [if_neg a1, if_neg a2, if_pos a3]
      have hi : insB b.length ((p + 12 : Nat) : Int) ((upN (nN c) : Nat) : Int) = false := by simp [insB]; omega
      rw [hi, if_pos (c := (!false) = true) rfl, getT_err h0 (by rw [hE]; omega), hE]
    have hi2 : insB b.length ((p + 12 : Nat) : Int) ((upN (nN c) : Nat) : Int) = true := by simp [insB]; omega
    rw [hi2, if_neg (by simp), jn_eq]
    have step1 : ∀ (i : Nat) (X Y : Option (List Note × Int)), i < upN (nN c) → (ref08_up ((nN c : Nat) : Int)).bind (fun z7 => if decide (((0 + i : Nat) : Int) < z7) = true then gd ((0 : Int) ≤ (IntKind.u64.wrap (((p + 12 : Nat) : Int) + ((0 + i : Nat) : Int))) ∧ (IntKind.u64.wrap (((p + 12 : Nat) : Int) + ((0 + i : Nat) : Int))) < ((b.length : Nat) : Int)) X else Y) = X := by
      intro i X Y hi'
      have e5 : IntKind.u64.wrap (((p + 12 : Nat) : Int) + ((0 + i : Nat) : Int)) = ((p + (12 + i) : Nat) : Int) := by rw [u64w (by omega)]; omega
      rw [bd_eq (up_eq (by omega)), if_pos (by rw [decide_eq_true_eq]; omega), e5, gd_pos (by omega)]
    have bad1 : ∀ i : Nat, i < upN (nN c) → (!((gt b (IntKind.u64.wrap (((p + 12 : Nat) : Int) + ((0 + i : Nat) : Int))) == 0) == decide (IntKind.u64.wrap (((0 + i : Nat) : Int) + 1) ≥ ((nN c : Nat) : Int)))) = !((c.getD (12 + i) 0 == 0) == decide (nN c ≤ i + 1)) := by
      intro i hi'
      have e5 : IntKind.u64.wrap (((p + 12 : Nat) : Int) + ((0 + i : Nat) : Int)) = ((p + (12 + i) : Nat) : Int) := by rw [u64w (by omega)]; omega
      have e6 : IntKind.u64.wrap (((0 + i : Nat) : Int) + 1) = ((0 + (i + 1) : Nat) : Int) := by rw [u64w (by omega)]; omega
      have e7 : gt b ((p + (12 + i) : Nat) : Int) = c.getD (12 + i) 0 := by rw [gt_eq, Int.toNat_natCast, hgd]
      have e8 : decide (((0 + (i + 1) : Nat) : Int) ≥ ((nN c : Nat) : Int)) = decide (nN c ≤ i + 1) := decide_eq_decide.2 (by omega)
      rw [e5, e6, e7, e8]
    have nxt1 : ∀ i : Nat, i < upN (nN c) → IntKind.u64.wrap (((0 + i : Nat) : Int) + 1) = ((0 + (i + 1) : Nat) : Int) := fun i hi' => by rw [u64w (by omega)]; omega
    have rng1 := nameOk_range a2 (show 12 + upN (nN c) ≤ c.length by omega)
    cases hok : nameOk c
    · have hE : noteE c = 11 := by unfold noteE; rw [if_neg a1, if_neg a2, if_neg a3, if_pos hok]
      rw [hok] at rng1
      rw [getT_err h0 (by rw [hE]; omega), hE]
      refine scan_hit 0 (upN (nN c)) (by omega) _ _ rng1 ?_
      intro i rec2 hi'
      rw [step1 i _ _ hi', bad1 i hi', let1_eq, nxt1 i hi']
    rw [hok] at rng1
    refine scan_pass 0 (upN (nN c)) (by omega) _ (some ([], 11)) _ rng1 ?_ ?_
    · intro i rec2 hi'
      rw [step1 i _ _ hi', bad1 i hi', let1_eq, nxt1 i hi']
    intro rec2
    have c1 : IntKind.u64.wrap (((p + 12 : Nat) : Int) + ((nN c : Nat) : Int)) = ((p + 12 + nN c : Nat) : Int) := by rw [u64w (by omega)]; omega
    have c2 : IntKind.u64.wrap (((p + 12 + nN c : Nat) : Int) - 1) = ((p + 12 + (nN c - 1) : Nat) : Int) := by rw [u64w (by omega)]; omega
    have c3 : IntKind.u64.wrap (((p + 12 : Nat) : Int) + ((upN (nN c) : Nat) : Int)) = ((p + 12 + upN (nN c) : Nat) : Int) := by rw [u64w (by omega)]; omega
    have k1 : cutL b ((p + 12 : Nat) : Int) ((p + 12 + (nN c - 1) : Nat) : Int) = cu c 12 (nN c - 1) := by
      unfold cutL; rw [Int.toNat_natCast, Int.toNat_natCast, ← hcu, List.drop_take]; unfold cu; congr 1; omega
    rw [bd_eq (up_eq (by omega)), if_neg (by rw [decide_eq_true_eq]; omega)]
    dsimp only
    rw [c1, c2, gd_pos (by omega), let1_eq, bd_eq (up_eq (by omega)), c3, let1_eq, bd_eq (up_eq (by omega)), bd_eq (ref01_Inside_eq (by omega) (by omega)), k1]
    by_cases a5 : c.length < 12 + upN (nN c) + upN (nD c)
    · have hE : noteE c = 10 := by unfold noteE; rw [if_neg a1, if_neg a2, if_neg a3, if_neg (by rw [hok]; simp), if_pos a5]
      have hi : insB b.length ((p + 12 + upN (nN c) : Nat) : Int) ((upN (nD c) : Nat) : Int) = false := by simp [insB]; omega
      rw [hi, if_pos (c := (!false) = true) rfl, getT_err h0 (by rw [hE]; omega), hE]
    have hi3 : insB b.length ((p + 12 + upN (nN c) : Nat) : Int) ((upN (nD c) : Nat) : Int) = true := by simp [insB]; omega
    rw [hi3, if_neg (by simp), jn_eq]
    have step2 : ∀ (i : Nat) (X Y : Option (List Note × Int)), i < upN (nD c) - nD c → (ref08_up ((nD c : Nat) : Int)).bind (fun z11 => if decide (((nD c + i : Nat) : Int) < z11) = true then gd ((0 : Int) ≤ (IntKind.u64.wrap (((p + 12 + upN (nN c) : Nat) : Int) + ((nD c + i : Nat) : Int))) ∧ (IntKind.u64.wrap (((p + 12 + upN (nN c) : Nat) : Int) + ((nD c + i : Nat) : Int))) < ((b.length : Nat) : Int)) X else Y) = X := by
      intro i X Y hi'
      have e5 : IntKind.u64.wrap (((p + 12 + upN (nN c) : Nat) : Int) + ((nD c + i : Nat) : Int)) = ((p + (12 + upN (nN c) + (nD c + i)) : Nat) : Int) := by rw [u64w (by omega)]; omega
      rw [bd_eq (up_eq (by omega)), if_pos (by rw [decide_eq_true_eq]; omega), e5, gd_pos (by omega)]
    have bad2 : ∀ i : Nat, i < upN (nD c) - nD c → (gt b (IntKind.u64.wrap (((p + 12 + upN (nN c) : Nat) : Int) + ((nD c + i : Nat) : Int))) != 0) = (c.getD (12 + upN (nN c) + (nD c + i)) 0 != 0) := by
      intro i hi'
      have e5 : IntKind.u64.wrap (((p + 12 + upN (nN c) : Nat) : Int) + ((nD c + i : Nat) : Int)) = ((p + (12 + upN (nN c) + (nD c + i)) : Nat) : Int) := by rw [u64w (by omega)]; omega
      rw [e5, gt_eq, Int.toNat_natCast, hgd]
    have nxt2 : ∀ i : Nat, i < upN (nD c) - nD c → IntKind.u64.wrap (((nD c + i : Nat) : Int) + 1) = ((nD c + (i + 1) : Nat) : Int) := fun i hi' => by rw [u64w (by omega)]; omega
    have rng2 := descOk_range (show 12 + upN (nN c) + upN (nD c) ≤ c.length by omega)
    cases q3 : descOk c
    · have hE : noteE c = 11 := by unfold noteE; rw [if_neg a1, if_neg a2, if_neg a3, if_neg (by rw [hok]; simp), if_neg a5, if_pos q3]
      rw [q3] at rng2
      rw [getT_err h0 (by rw [hE]; omega), hE]
      refine scan_hit (nD c) (upN (nD c) - nD c) (by omega) _ _ rng2 ?_
      intro i rec2 hi'
      rw [step2 i _ _ hi', bad2 i hi', let1_eq, nxt2 i hi']
    have hE : noteE c = 0 := by unfold noteE; rw [if_neg a1, if_neg a2, if_neg a3, if_neg (by rw [hok]; simp), if_neg a5, if_neg (by rw [q3]; simp)]
    rw [q3] at rng2
    refine scan_pass (nD c) (upN (nD c) - nD c) (by omega) _ (some ([], 11)) _ rng2 ?_ ?_
    · intro i rec2 hi'
      rw [step2 i _ _ hi', bad2 i hi', let1_eq, nxt2 i hi']
    intro rec3
    have c4 : IntKind.u64.wrap (((p + 12 + upN (nN c) : Nat) : Int) + ((nD c : Nat) : Int)) = ((p + (12 + upN (nN c)) + nD c : Nat) : Int) := by rw [u64w (by omega)]; omega
    have c5 : IntKind.u64.wrap (((p + 12 + upN (nN c) : Nat) : Int) + ((upN (nD c) : Nat) : Int)) = ((p + noteK c : Nat) : Int) := by unfold noteK; rw [u64w (by omega)]; omega
    have k2 : cutL b ((p + 12 + upN (nN c) : Nat) : Int) ((p + (12 + upN (nN c)) + nD c : Nat) : Int) = cu c (12 + upN (nN c)) (nD c) := by
      rw [← hcu, show p + 12 + upN (nN c) = p + (12 + upN (nN c)) by omega]
      unfold cutL; rw [Int.toNat_natCast, Int.toNat_natCast, List.drop_take]; unfold cu; congr 1; omega
    rw [bd_eq (up_eq (by omega)), if_neg (by rw [decide_eq_true_eq]; omega)]
    dsimp only
    rw [c4, k2, gd_pos (by omega), gd_pos (by simp only [List.length_cons, List.length_nil]; omega), bd_eq (up_eq (by omega)), c5, let1_eq, e2, hg]
    have hk12 : 12 ≤ noteK c := by unfold noteK; omega
    have hkc : noteK c ≤ c.length := by unfold noteK; omega
    refine hrec (acc ++ [noteV c], ((p + noteK c : Nat) : Int)) ⟨by simp only []; omega, by simp only []; omega, by simp only [List.length_append, List.length_cons, List.length_nil]; omega, ?_⟩ (by simp only []; omega)
    simp only [Int.toNat_natCast]
    rw [← hg, getT_step h0 hE, hdk]
  · have : p = b.length := by omega
    subst this
    rw [if_neg (by simp), List.drop_length, getT_nil]

end Dm
