/-
  The laws of layer 4 on tables of segments, over the shallow forms: each is true. Conditions: numbers and bytes are in their kinds' ranges, lengths at most 2^63 - 1.
-/
import Derived.Test.YtljdbjimdidigaaLaw04
namespace Dm
open Go

theorem getSS_eq {d b : List Int} {p : Nat} (hd : 56 ≤ d.length) (hb : p + 56 ≤ b.length) (h : ∀ q n, q + n ≤ 56 → cu d q n = cu b (p + q) n) : getSS d 0 = getSS b p := by
  have h0 : cu d (0 + 16) 8 = cu b (p + 16) 8 := h 16 8 (by omega)
  have h1 : cu d (0 + 24) 8 = cu b (p + 24) 8 := h 24 8 (by omega)
  have hs : sread d 0 = sread b p := by
    have a0 : cu d 0 4 = cu b p 4 := h 0 4 (by omega)
    have a1 : cu d (0 + 4) 4 = cu b (p + 4) 4 := h 4 4 (by omega)
    have a2 : cu d (0 + 8) 8 = cu b (p + 8) 8 := h 8 8 (by omega)
    have a4 : cu d (0 + 32) 8 = cu b (p + 32) 8 := h 32 8 (by omega)
    have a5 : cu d (0 + 40) 8 = cu b (p + 40) 8 := h 40 8 (by omega)
    have a6 : cu d (0 + 48) 8 = cu b (p + 48) 8 := h 48 8 (by omega)
    unfold sread; rw [a0, a1, a2, h0, a4, a5, a6]
  have g1 : ¬ d.length < 0 + 56 := by omega
  have g2 : ¬ b.length < p + 56 := by omega
  unfold getSS
  rw [if_neg g1, if_neg g2, h0, h1, hs]
def entS (b : List Int) (p n : Nat) : List (Seg × Int) := (List.range n).map fun i => getSS b (p + 56 * i)
def tabO (es : List (Seg × Int)) : List Seg × Int := if firstE (·.2) es = 0 then (es.map (·.1), 0) else ([], firstE (·.2) es)
def tabSS (b : List Int) (p n : Int) : List Seg × Int :=
  if n < 0 ∨ n > 64 then ([], 1) else if insB b.length p (56 * n) then tabO (entS b p.toNat n.toNat) else ([], 10)
theorem entS_get {b : List Int} {p n i : Nat} (h : i < (entS b p n).length) : (entS b p n)[i] = getSS b (p + 56 * i) := by simp [entS]
theorem entS_length (b : List Int) (p n : Nat) : (entS b p n).length = n := by unfold entS; rw [List.length_map, List.length_range]
/-- a loop that reads entries, up to the first that is refused -/
theorem ent_loop (es : List (Seg × Int)) (hn : es.length ≤ 64) {body : (List Seg) × Int → ((List Seg) × Int → Option (List Seg × Int)) → Option (List Seg × Int)}
    (h : ∀ (i : Nat) (acc : List Seg) rec (hi : i < es.length), acc.length ≤ 64 → body (acc, (i : Int)) rec = if es[i].2 ≠ 0 then some ([], es[i].2) else rec (acc ++ [es[i].1], ((i + 1 : Nat) : Int)))
    (h1 : ∀ acc rec, body (acc, (es.length : Int)) rec = some (acc, 0)) : loopK body bigF ([], 0) = some (tabO es) := by
  refine loop_to (fun i => ((es.take i).map (·.1), (i : Int))) (fun i => some (if firstE (·.2) (es.drop i) = 0 then (es.map (·.1), 0) else ([], firstE (·.2) (es.drop i)))) es.length rfl rfl (by omega) ?_
  intro i rec hi hrec
  by_cases hlt : i < es.length
  · rw [h i _ rec hlt (by rw [List.length_map, List.length_take]; omega), firstE_drop _ es hlt]
    by_cases h0 : es[i].2 = 0
    · have hr := hrec hlt
      rw [List.take_succ_eq_append_getElem hlt, List.map_append] at hr
      rw [if_neg (by simpa using h0), if_pos h0]; exact hr
    · rw [if_pos h0, if_neg h0, if_neg h0]
  · obtain rfl : i = es.length := by omega
    rw [h1, List.drop_length, List.take_of_length_le (Nat.le_refl _)]; rfl
theorem segs_Table_eq {b : List Int} (hb : b.length ≤ 1000000) (hB : Bytes b) {p n : Int} (hp : 0 ≤ p) (_ : InK .i64 n) : segs_Table b p n = some (tabSS b p n) := by
  unfold segs_Table tabSS
  rw [jn_eq]
  by_cases h0 : n < 0
  · rw [if_pos (by simpa using h0), if_pos (Or.inl h0)]; rfl
  by_cases h64 : n > 64
  · rw [if_neg (by simpa using h0), if_pos (Or.inr h64)]
    have : decide (n > 64) = true := by simpa using h64
    rw [this]; rfl
  · have hd : decide (n > 64) = false := by simpa using h64
    rw [if_neg (by simpa using h0), if_neg (by omega), hd]
    obtain ⟨m, rfl⟩ := Int.eq_ofNat_of_zero_le (show 0 ≤ n by omega)
    obtain ⟨q, rfl⟩ := Int.eq_ofNat_of_zero_le hp
    have e1 : IntKind.u64.wrap (IntKind.i64.wrap ((m : Int) * 56)) = 56 * (m : Int) := by rw [i64w (by omega), u64w (by omega)]; omega
    dsimp only
    rw [if_neg (by simp), e1, bd_eq (octets_Cut_eq (by omega) hp (by omega))]
    cases hi : insB b.length (q : Int) (56 * (m : Int))
    · have hc : cutP b (q : Int) (56 * (m : Int)) = ([], 10) := by unfold cutP; rw [hi]; rfl
      rw [hc, if_pos (by decide), if_neg (by decide)]
    · have hc : cutP b (q : Int) (56 * (m : Int)) = (cu b q (56 * m), 0) := by
        unfold cutP; rw [hi, if_pos rfl, Int.toNat_natCast]; unfold cu; congr 1
      simp only [insB, Bool.and_eq_true, decide_eq_true_eq] at hi
      rw [hc, if_neg (by simp), if_pos rfl, Int.toNat_natCast, Int.toNat_natCast]
      dsimp only
      have hcl : (cu b q (56 * m)).length = 56 * m := cu_length (by omega)
      have hcB := hB.cu q (56 * m)
      rw [jn_eq]
      refine ent_loop (entS b q m) (by rw [entS_length]; omega) ?_ ?_
      · intro i acc rec hi' hacc
        have him : i < m := by rwa [entS_length] at hi'
        have e2 : IntKind.i64.wrap ((i : Int) * 56) = ((56 * i : Nat) : Int) := by rw [i64w (by omega)]; omega
        dsimp only
        rw [dif_lt him, if_pos rfl, e2, gd_pos (by omega)]
        have ed : cutL (cu b q (56 * m)) ((56 * i : Nat) : Int) (((cu b q (56 * m)).length : Nat) : Int) = (cu b q (56 * m)).drop (56 * i) := by
          unfold cutL; rw [Int.toNat_natCast, Int.toNat_natCast, List.take_length]
        have eg : getSS ((cu b q (56 * m)).drop (56 * i)) 0 = getSS b (q + 56 * i) := by
          refine getSS_eq (by rw [List.length_drop]; omega) (by omega) ?_
          intro x y hxy
          rw [cu_drop, cu_cu (by omega)]; congr 1; omega
        rw [ed, bd_eq (segs_Get_eq (by rw [List.length_drop]; omega) (hcB.drop _)), eg, entS_get]
        generalize getSS b (q + 56 * i) = r
        by_cases hr : r.2 = 0
        · rw [if_neg (by simpa using hr), if_neg (by simpa using hr), gd_pos (by simp; omega), i64s (by omega)]
        · rw [if_pos (by simpa using hr), if_pos hr]
      · intro acc rec
        rw [entS_length, dif_ge (Nat.le_refl _), if_neg (by simp)]
theorem ref04_Table_eq {b : List Int} (hb : b.length ≤ 1000000) (hB : Bytes b) {p n : Int} (hp : 0 ≤ p) (_ : InK .i64 n) : ref04_Table b p n = some (tabSS b p n) := by
  unfold ref04_Table tabSS
  rw [jn_eq]
  by_cases h0 : n < 0
  · rw [if_pos (by simpa using h0), if_pos (Or.inl h0)]; rfl
  by_cases h64 : n > 64
  · rw [if_neg (by simpa using h0), if_pos (Or.inr h64)]
    have : decide (n > 64) = true := by simpa using h64
    rw [this]; rfl
  · have hd : decide (n > 64) = false := by simpa using h64
    rw [if_neg (by simpa using h0), if_neg (by omega), hd]
    obtain ⟨m, rfl⟩ := Int.eq_ofNat_of_zero_le (show 0 ≤ n by omega)
    obtain ⟨q, rfl⟩ := Int.eq_ofNat_of_zero_le hp
    have e1 : IntKind.u64.wrap (IntKind.i64.wrap (56 * (m : Int))) = 56 * (m : Int) := by rw [i64w (by omega), u64w (by omega)]
    dsimp only
    rw [if_neg (by simp), e1, bd_eq (ref01_Cut_eq (by omega) hp (by omega))]
    cases hi : insB b.length (q : Int) (56 * (m : Int))
    · have hc : cutP b (q : Int) (56 * (m : Int)) = ([], 10) := by unfold cutP; rw [hi]; rfl
      rw [hc, if_pos (by decide), if_neg (by decide)]
    · have hc : cutP b (q : Int) (56 * (m : Int)) = (cu b q (56 * m), 0) := by
        unfold cutP; rw [hi, if_pos rfl, Int.toNat_natCast]; unfold cu; congr 1
      simp only [insB, Bool.and_eq_true, decide_eq_true_eq] at hi
      rw [hc, if_neg (by simp), if_pos rfl, Int.toNat_natCast, Int.toNat_natCast]
      dsimp only
      have hcl : (cu b q (56 * m)).length = 56 * m := cu_length (by omega)
      have hcB := hB.cu q (56 * m)
      rw [jn_eq]
      refine ent_loop (entS b q m) (by rw [entS_length]; omega) ?_ ?_
      · intro i acc rec hi' hacc
        have him : i < m := by rwa [entS_length] at hi'
        have e2 : IntKind.i64.wrap (56 * (i : Int)) = ((56 * i : Nat) : Int) := by rw [i64w (by omega)]; omega
        have e3 : IntKind.i64.wrap (((56 * i : Nat) : Int) + 56) = ((56 * i + 56 : Nat) : Int) := by rw [i64w (by omega)]; omega
        dsimp only
        rw [dif_lt him, if_pos rfl, e2, e3, gd_pos (by omega), cutL_cu _ _ _ 56 rfl]
        have eg : getSS (cu (cu b q (56 * m)) (56 * i) 56) 0 = getSS b (q + 56 * i) := by
          refine getSS_eq (by rw [cu_length (by omega)]; omega) (by omega) ?_
          intro x y hxy
          rw [cu_cu (by omega), cu_cu (by omega)]; congr 1; omega
        rw [bd_eq (ref04_Get_eq (by rw [cu_length (by omega)]; omega) (hcB.cu _ _)), eg, entS_get]
        generalize getSS b (q + 56 * i) = r
        by_cases hr : r.2 = 0
        · rw [if_neg (by simpa using hr), if_neg (by simpa using hr), gd_pos (by simp; omega), let1_eq, i64s (by omega)]
        · rw [if_pos (by simpa using hr), if_pos hr]
      · intro acc rec
        rw [entS_length, dif_ge (Nat.le_refl _), if_neg (by simp)]
theorem tabSS_len (b : List Int) (p n : Int) : (tabSS b p n).1.length ≤ 64 := by
  unfold tabSS
  split
  · simp
  · split
    · unfold tabO; split
      · rw [List.length_map, entS_length]; omega
      · simp
    · simp
theorem SegsGets_true {b : List Int} (_ : b.length ≤ 9223372036854775807) (hb : ∀ n ∈ b, InK .u8 n) {p : Int} (hp : InK .u64 p) {n : Int} (hn : InK .i64 n) : law04_SegsGets b p n = some true := by
  have hp := inK_u64 hp
  unfold law04_SegsGets
  rw [bd_eq law04_awake_true]
  simp only [Bool.not_true, Bool.false_eq_true, if_false]
  by_cases hc : b.length ≤ 4000
  · have hB := bytes_of hb
    rw [if_neg (by simp; omega), bd_eq (segs_Get_eq (by omega) hB), bd_eq (ref04_Get_eq (by omega) hB), jn_eq, if_neg (by simp)]
    dsimp only
    rw [if_neg (by simp), bd_eq (segs_Table_eq (by omega) hB hp.1 hn), bd_eq (ref04_Table_eq (by omega) hB hp.1 hn), jn_eq, if_neg (by simp)]
    dsimp only
    have hL := tabSS_len b p n
    generalize tabSS b p n = r at hL
    rw [if_neg (by simp), jn_eq]
    refine loop_at (fun i => (i : Int)) r.1.length rfl (by omega) ?_
    intro i rec hi hrec
    by_cases hlt : i < r.1.length
    · rw [dif_lt hlt, if_pos rfl, gd_pos (by omega), gd_pos (by omega), i64s (by omega), if_neg (by simp), let1_eq, hrec hlt]
    · rw [dif_ge (by omega), if_neg (by simp)]
  · rw [if_pos (by simp; omega)]
theorem firstE_zero {α : Type} (f : α → Int) : ∀ (l : List α), (∀ x ∈ l, f x = 0) → firstE f l = 0
  | [], _ => rfl
  | x :: l, h => by rw [firstE, if_pos (h x (by simp))]; exact firstE_zero f l fun y hy => h y (by simp [hy])
theorem sputs_len : ∀ l : List Seg, ((l.map sput).flatten).length = 56 * l.length
  | [] => rfl
  | s :: l => by rw [List.map_cons, List.flatten_cons, List.length_append, sput_length, sputs_len l, List.length_cons]; omega
theorem sputs_bytes (l : List Seg) : Bytes ((l.map sput).flatten) := by
  intro x hx
  rw [List.mem_flatten] at hx
  obtain ⟨m, hm, hx⟩ := hx
  rw [List.mem_map] at hm
  obtain ⟨s, _, rfl⟩ := hm
  exact sput_bytes s x hx
theorem getSS_sputs {a : List Int} {l : List Seg} (hw : ∀ s ∈ l, Wf04 s) {i : Nat} (h : i < l.length) : getSS (a ++ (l.map sput).flatten) (a.length + 56 * i) = (l[i], 0) := by
  have e : a ++ (l.map sput).flatten = (a ++ ((l.take i).map sput).flatten) ++ (sput l[i] ++ ((l.drop (i + 1)).map sput).flatten) := by
    have : l = l.take i ++ l[i] :: l.drop (i + 1) := by rw [← List.drop_eq_getElem_cons h, List.take_append_drop]
    conv => lhs; rw [this]
    rw [List.map_append, List.flatten_append, List.map_cons, List.flatten_cons, List.append_assoc]
  rw [e]
  refine getSS_sput (hw _ (List.getElem_mem h)) ?_
  rw [List.length_append, sputs_len, List.length_take]; omega
theorem SegsTables_true {a : List Int} (_ : a.length ≤ 9223372036854775807) (ha : ∀ n ∈ a, InK .u8 n) {l : List Seg} (_ : l.length ≤ 9223372036854775807) (hw : ∀ s ∈ l, Wf04 s) : law04_SegsTables a l = some true := by
  unfold law04_SegsTables
  rw [bd_eq law04_awake_true]
  simp only [Bool.not_true, Bool.false_eq_true, if_false]
  rw [jn_eq]
  by_cases h5 : a.length > 500
  · rw [if_pos (by simp; omega)]; rfl
  by_cases h6 : l.length > 64
  · have : decide (((l.length : Nat) : Int) > 64) = true := by simp; omega
    rw [if_neg (by simp; omega), this]; rfl
  · have hd : decide (((l.length : Nat) : Int) > 64) = false := by simp; omega
    rw [if_neg (by simp; omega), hd]
    dsimp only
    rw [if_neg (by simp), gd_pos (by simp; omega), jn_eq, List.nil_append]
    refine loop_at (fun i => (a ++ ((l.take i).map sput).flatten, (i : Int))) l.length (by simp) (by omega) ?_
    intro i rec hi hrec
    dsimp only at hrec ⊢
    by_cases hlt : i < l.length
    · have hrec := hrec hlt
      have hl1 : (a ++ ((l.take i).map sput).flatten).length ≤ 500 + 56 * 64 := by rw [List.length_append, sputs_len, List.length_take]; omega
      rw [List.take_succ_eq_append_getElem hlt, List.map_append, List.flatten_append, ← List.append_assoc] at hrec
      simp only [List.map_cons, List.map_nil, List.flatten_cons, List.flatten_nil, List.append_nil] at hrec
      rw [dif_lt hlt, if_pos rfl, gd_pos (by omega), gt_nat hlt, bd_eq (segs_Put_eq (hw _ (List.getElem_mem hlt))), gd_pos (by rw [sput_length]; omega), let1_eq, i64s (by omega)]
      exact hrec
    · obtain rfl : i = l.length := by omega
      rw [dif_ge (by omega), if_neg (by simp), List.take_of_length_le (Nat.le_refl _)]
      clear hrec
      have hB : Bytes (a ++ (l.map sput).flatten) := (bytes_of ha).append (sputs_bytes l)
      have hL : (a ++ (l.map sput).flatten).length = a.length + 56 * l.length := by rw [List.length_append, sputs_len]
      have ew : IntKind.u64.wrap ((a.length : Nat) : Int) = a.length := u64w (by omega)
      have ew2 : IntKind.i64.wrap (((l.length : Nat) : Int) + 1) = ((l.length + 1 : Nat) : Int) := i64s (by omega)
      have kl : InK .i64 ((l.length : Nat) : Int) := ⟨by simp [IntKind.min, IntKind.signed, IntKind.bits], by simp [IntKind.max, IntKind.signed, IntKind.bits]; omega⟩
      have kl2 : InK .i64 ((l.length + 1 : Nat) : Int) := ⟨by simp [IntKind.min, IntKind.signed, IntKind.bits]; omega, by simp [IntKind.max, IntKind.signed, IntKind.bits]; omega⟩
      have hT : tabSS (a ++ (l.map sput).flatten) ((a.length : Nat) : Int) ((l.length : Nat) : Int) = (l, 0) := by
        unfold tabSS
        have hin : insB (a ++ (l.map sput).flatten).length ((a.length : Nat) : Int) (56 * ((l.length : Nat) : Int)) = true := by rw [hL]; simp [insB]; omega
        rw [if_neg (by omega), hin, if_pos rfl, Int.toNat_natCast, Int.toNat_natCast]
        have he : entS (a ++ (l.map sput).flatten) a.length l.length = l.map fun s => (s, (0 : Int)) := by
          apply List.ext_getElem (by rw [entS_length, List.length_map])
          intro i h1 h2
          rw [entS_get, List.getElem_map]
          exact getSS_sputs hw (by rwa [entS_length] at h1)
        rw [he]
        unfold tabO
        rw [if_pos (firstE_zero _ _ (by intro x hx; rw [List.mem_map] at hx; obtain ⟨s, _, rfl⟩ := hx; rfl)), List.map_map]
        congr 1
        exact List.map_id' _
      have hT2 : (tabSS (a ++ (l.map sput).flatten) ((a.length : Nat) : Int) ((l.length + 1 : Nat) : Int)).2 = if l.length = 64 then 1 else 10 := by
        unfold tabSS
        by_cases h64 : l.length = 64
        · rw [if_pos (by omega), if_pos h64]
        · have hin : insB (a ++ (l.map sput).flatten).length ((a.length : Nat) : Int) (56 * ((l.length + 1 : Nat) : Int)) = false := by rw [hL]; simp [insB]; omega
          rw [if_neg (by omega), hin, if_neg (by simp), if_neg h64]
      rw [ew, ew2, bd_eq (segs_Table_eq (by omega) hB (by omega) kl), hT, jn_eq, if_neg (by simp)]
      dsimp only
      rw [if_neg (by simp), jn_eq]
      refine loop_at (fun i => (i : Int)) l.length rfl (by omega) ?_
      intro i rec hi hrec
      by_cases hlt : i < l.length
      · rw [dif_lt hlt, if_pos rfl, gd_pos (by omega), gd_pos (by omega), i64s (by omega), if_neg (by simp), let1_eq, hrec hlt]
      · rw [dif_ge (by omega), if_neg (by simp), bd_eq (segs_Table_eq (by omega) hB (by omega) kl2), jn_eq]
        dsimp only
        rw [hT2]
        by_cases h64 : l.length = 64
        · rw [if_pos h64, h64]; rfl
        · rw [if_neg h64]; rfl

end Dm
