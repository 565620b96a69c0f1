/-
  The laws of layer 8 (notes) over the shallow forms: each is true. Conditions: numbers and bytes are in their kinds' ranges, lengths at most 2^63 - 1.
-/
import Derived.Test.YtmlghbdlhjinaaaLaw08C
namespace Dm
open Go

abbrev Wf08 (y : Note) : Prop := y.1.length ≤ 9223372036854775807 ∧ InK .u32 y.2.1 ∧ (y.2.2.length ≤ 9223372036854775807 ∧ ∀ z ∈ y.2.2, InK .u8 z)
theorem getF_len : ∀ (F : Nat) (b : List Int) (acc : List Note), (getF F b acc).1.length ≤ acc.length + b.length := by
  intro F
  induction F with
  | zero => intro b acc; simp [getF]
  | succ F ih =>
    intro b acc
    rw [getF]
    by_cases h0 : b.length = 0
    · rw [if_pos h0]; simp only []; omega
    rw [if_neg h0]
    by_cases h1 : noteE b ≠ 0
    · rw [if_pos h1]; simp
    rw [if_neg h1]
    have := ih (b.drop (noteK b)) (acc ++ [noteV b])
    have hk : 12 ≤ noteK b := by unfold noteK; omega
    rw [List.length_append, List.length_drop] at this
    simp only [List.length_cons, List.length_nil] at this
    omega
theorem getR_len {b : List Int} : (if b.length > 65536 then (([] : List Note), (13 : Int)) else getT b []).1.length ≤ 65536 := by
  by_cases h : b.length > 65536
  · rw [if_pos h]; simp
  · rw [if_neg h]
    have := getF_len (b.length + 1) b []
    unfold getT
    simp only [List.length_nil] at this
    omega
theorem few_cases {l : List Note} (hl : l.length ≤ 9223372036854775807) (hw : ∀ x ∈ l, Wf08 x) : law08_few l = some false ∨ (law08_few l = some true ∧ l.length ≤ 20 ∧ ∀ x ∈ l, SzN 500 x) := by
  rw [few_eq hl fun x hx => ⟨(hw x hx).1, (hw x hx).2.2.1⟩]
  by_cases h : l.length > 20
  · rw [if_pos h]; exact .inl rfl
  · rw [if_neg h]
    cases h2 : l.any bigN
    · exact .inr ⟨rfl, by omega, few_size h h2 fun x hx => (hw x hx).2.1⟩
    · exact .inl rfl
theorem SzN_mono {l : List Note} (h : ∀ x ∈ l, SzN 500 x) : ∀ x ∈ l, SzN 70000 x := fun x hx => by
  obtain ⟨h1, h2, h3, h4⟩ := h x hx; exact ⟨by omega, by omega, h3, h4⟩
theorem NotesPuts_true {l : List Note} (hl : l.length ≤ 9223372036854775807) (hw : ∀ x ∈ l, Wf08 x) : law08_NotesPuts l = some true := by
  unfold law08_NotesPuts
  rw [bd_eq law08_awake_true]
  simp only [Bool.not_true, Bool.false_eq_true, if_false]
  rcases few_cases hl hw with h | ⟨h, h20, hs⟩
  · rw [bd_eq h]; rfl
  · rw [bd_eq h, if_neg (by simp), bd_eq (notes_Put_eq (by omega) (SzN_mono hs)), bd_eq (model_eq (by omega)), bd_eq (ref08_Put_eq h20 hs), jn_eq, if_pos (by simp)]
    simp
theorem gets_tail {r : List Note × Int} (h : r.1.length ≤ 65536) : (jn (fun (s1 : Bool) => some s1) fun k1 => if (r.2 == r.2) = true then (law08_model r.1).bind fun z4 => (law08_same z4 r.1).bind fun z5 => k1 z5 else k1 false) = some true := by
  rw [jn_eq, if_pos (by simp), bd_eq (model_eq (by omega)), bd_eq (same_eq (by omega))]
theorem NotesGets_true {b : List Int} (hb : b.length ≤ 9223372036854775807) (hB : ∀ n ∈ b, InK .u8 n) : law08_NotesGets b = some true := by
  unfold law08_NotesGets
  rw [bd_eq law08_awake_true]
  simp only [Bool.not_true, Bool.false_eq_true, if_false]
  by_cases h : b.length > 5000
  · rw [if_pos (by rw [decide_eq_true_eq]; omega)]
  · rw [if_neg (by rw [decide_eq_true_eq]; omega), bd_eq (notes_Get_eq hb (bytes_of hB)), bd_eq (ref08_Get_eq hb (bytes_of hB))]
    exact gets_tail getR_len
theorem shr_byte32 {x : Int} {j : Nat} (hj : j < 4) : IntKind.u8.wrap (shr .u32 x (8 * (j : Int))) = x / 256 ^ j % 256 := by
  unfold shr
  have e1 : ((8 * (j : Int)).toNat) = 8 * j := by omega
  rw [e1, Nat.min_eq_left (by simp [IntKind.bits]; omega), Int.fdiv_eq_ediv_of_nonneg _ (Int.pow_nonneg (by omega)), wrap_u8, Int.pow_mul]
  rfl
theorem four_loop (x : Int) (a : List Int) (ha : a.length ≤ 1000) {R : Option Bool} (k : List Int → Option Bool) (hk : k (a ++ leB 4 x) = R) :
    loopK (fun (s2 : (List Int) × Int) rec1 =>
          (if (decide (s2.2 < 4)) = true then
            gd ((0 : Int) ≤ (IntKind.u64.wrap (IntKind.i64.wrap (8 * s2.2)))) <|
            gd ((s2.1.length + ([IntKind.u8.wrap (shr .u32 x (IntKind.u64.wrap (IntKind.i64.wrap (8 * s2.2))))] : List Int).length) * 1 ≤ 140737488355328) <|
            let1 (IntKind.i64.wrap (s2.2 + 1)) fun i_1 =>
            rec1 ((s2.1 ++ ([IntKind.u8.wrap (shr .u32 x (IntKind.u64.wrap (IntKind.i64.wrap (8 * s2.2))))] : List Int)), i_1)
          else
            k s2.1)) bigF (a, 0) = R := by
  refine loop_at (fun i => (a ++ leB i x, (i : Int))) 4 (by simp [leB]) (by omega) ?_
  intro i rec hi hrec
  dsimp only at hrec ⊢
  by_cases hlt : i < 4
  · have e1 : IntKind.u64.wrap (IntKind.i64.wrap (8 * (i : Int))) = 8 * (i : Int) := by rw [i64w (by omega), u64w (by omega)]
    have hrec := hrec hlt
    rw [leB_snoc, ← List.append_assoc] at hrec
    rw [if_pos (by rw [decide_eq_true_eq]; omega), e1, gd_pos (by omega), shr_byte32 hlt, gd_pos (by simp only [List.length_append, leB_length, List.length_cons, List.length_nil]; omega), let1_eq, i64s (by omega)]
    exact hrec
  · obtain rfl : i = 4 := by omega
    rw [if_neg (by simp)]
    exact hk
theorem NotesHeads_true {n : Int} (_ : InK .u32 n) {d : Int} (_ : InK .u32 d) {t : Int} (_ : InK .u32 t) {b : List Int} (hb : b.length ≤ 9223372036854775807) (hB : ∀ n ∈ b, InK .u8 n) : law08_NotesHeads n d t b = some true := by
  unfold law08_NotesHeads
  rw [bd_eq law08_awake_true]
  simp only [Bool.not_true, Bool.false_eq_true, if_false]
  by_cases h : b.length > 2000
  · rw [if_pos (by rw [decide_eq_true_eq]; omega)]
  · rw [if_neg (by rw [decide_eq_true_eq]; omega)]
    refine jn_gen fun k1 hk1 => ?_
    refine four_loop n [] (by simp) k1 ?_
    rw [hk1]
    dsimp only
    refine jn_gen fun k2 hk2 => ?_
    refine four_loop d _ (by simp [leB_length]) k2 ?_
    rw [hk2]
    dsimp only
    refine jn_gen fun k3 hk3 => ?_
    refine four_loop t _ (by simp [leB_length]) k3 ?_
    rw [hk3]
    dsimp only
    have hL : ([] ++ leB 4 n ++ leB 4 d ++ leB 4 t).length = 12 := by simp [leB_length]
    have hc : Bytes ([] ++ leB 4 n ++ leB 4 d ++ leB 4 t ++ b) := by
      rw [List.nil_append]
      exact (((leB_bytes _ _).append (leB_bytes _ _)).append (leB_bytes _ _)).append (bytes_of hB)
    have hl : ([] ++ leB 4 n ++ leB 4 d ++ leB 4 t ++ b).length ≤ 9223372036854775807 := by rw [List.length_append, hL]; omega
    rw [gd_pos (by rw [hL]; omega), bd_eq (notes_Get_eq hl hc), bd_eq (ref08_Get_eq hl hc)]
    exact gets_tail getR_len
theorem putR_ok {l : List Note} (h0 : (putR l).2 = 0) : l.any (fun x => hasB x.1 0) = false ∧ ((l.map nput).flatten).length ≤ 65536 ∧ putR l = ((l.map nput).flatten, 0) := by
  unfold putR at h0 ⊢
  cases h1 : l.any (fun x => hasB x.1 0)
  · rw [h1, if_neg (by simp)] at h0
    by_cases h2 : ((l.map nput).flatten).length > 65536
    · rw [if_pos h2] at h0; simp at h0
    · exact ⟨rfl, by omega, by rw [if_neg (by simp), if_neg h2]⟩
  · rw [h1, if_pos rfl] at h0; simp at h0
theorem wf_of {l : List Note} (hs : ∀ x ∈ l, SzN 70000 x) (hw : ∀ x ∈ l, Bytes x.2.2) (h : l.any (fun x => hasB x.1 0) = false) : ∀ x ∈ l, WfN x := by
  intro x hx
  rw [List.any_eq_false] at h
  obtain ⟨h1, h2, h3, h4⟩ := hs x hx
  exact ⟨by simpa using h x hx, by omega, by omega, h3, by omega, hw x hx⟩
theorem nputs_bytes : ∀ {l : List Note}, (∀ x ∈ l, Bytes x.2.2) → Bytes ((l.map nput).flatten)
  | [], _ => by intro x hx; simp at hx
  | y :: l, h => by
    rw [List.map_cons, List.flatten_cons]
    exact (nput_bytes (h y (by simp))).append (nputs_bytes fun x hx => h x (by simp [hx]))
theorem size_of_mem : ∀ {l : List Note} {x : Note}, x ∈ l → (nput x).length ≤ ((l.map nput).flatten).length
  | y :: l, x, h => by
    rw [List.map_cons, List.flatten_cons, List.length_append]
    rcases List.mem_cons.1 h with rfl | h
    · omega
    · have := size_of_mem h; omega
theorem NotesBack_true {l : List Note} (hl : l.length ≤ 9223372036854775807) (hw : ∀ x ∈ l, Wf08 x) {b : List Int} (hb : b.length ≤ 9223372036854775807) (hB : ∀ n ∈ b, InK .u8 n) : law08_NotesBack l b = some true := by
  unfold law08_NotesBack
  rw [bd_eq law08_awake_true]
  simp only [Bool.not_true, Bool.false_eq_true, if_false]
  rcases few_cases hl hw with h | ⟨h, h20, hs⟩
  · rw [bd_eq h, jn_eq]; rfl
  rw [bd_eq h, jn_eq, if_neg (by simp)]
  by_cases h5 : b.length > 5000
  · rw [show decide (((b.length : Nat) : Int) > 5000) = true from by rw [decide_eq_true_eq]; omega]; rfl
  rw [show decide (((b.length : Nat) : Int) > 5000) = false from by rw [decide_eq_false_iff_not]; omega]
  dsimp only
  have hwB : ∀ x ∈ l, Bytes x.2.2 := fun x hx => bytes_of (hw x hx).2.2.2
  have hP : Bytes (putR l).1 ∧ (putR l).1.length ≤ 65536 := by
    unfold putR
    split
    · exact ⟨by intro x hx; simp at hx, by simp⟩
    · split
      · exact ⟨by intro x hx; simp at hx, by simp⟩
      · exact ⟨nputs_bytes hwB, by simp only []; omega⟩
  rw [if_neg (by simp), bd_eq (notes_Put_eq (by omega) (SzN_mono hs)), bd_eq (notes_Get_eq (by omega) hP.1), if_neg (c := (putR l).1.length > 65536) (by omega)]
  -- what is got is put as it was
  have tail : ((notes_Get b).bind fun z8 =>
            if (z8.2 != 0) = true then
              some (((z8.1.length : Nat) : Int) == 0)
            else
              (notes_Put z8.1).bind fun z9 =>
              jn (fun (s3 : Bool) =>
                some s3) (fun k3 =>
                (if (z9.2 == 0) = true then
                k3 ((toStr z9.1) == (toStr b))
                else
                k3 false))) = some true := by
    rw [bd_eq (notes_Get_eq hb (bytes_of hB)), if_neg (c := b.length > 65536) (by omega)]
    by_cases hz : (getT b []).2 = 0
    · obtain ⟨z, hz1⟩ : ∃ z, getT b [] = (z, 0) := ⟨(getT b []).1, by rw [← hz]⟩
      obtain ⟨l', e1, e2, e3⟩ := getT_back (bytes_of hB) hz1
      rw [List.nil_append] at e1
      subst e1
      have hlen : z.length ≤ 65536 := by
        have := getF_len (b.length + 1) b []
        unfold getT at hz1
        rw [hz1] at this
        simp only [List.length_nil] at this
        omega
      have hsz : ∀ x ∈ z, SzN 70000 x := by
        intro x hx
        have h1 := size_of_mem hx
        have h2 := nput_length x
        have h3 := upN_le (x.1.length + 1)
        have h4 := upN_le x.2.2.length
        rw [e2] at h1
        obtain ⟨_, _, _, h7, h8, _⟩ := e3 x hx
        exact ⟨by omega, by omega, h7, h8⟩
      have hput : putR z = (b, 0) := by
        unfold putR
        have h0 : z.any (fun x => hasB x.1 0) = false := by
          rw [List.any_eq_false]; intro x hx; rw [(e3 x hx).1]; simp
        rw [h0, e2, if_neg (by simp), if_neg (by omega)]
      rw [hz1, if_neg (by simp), bd_eq (notes_Put_eq (by omega) hsz), hput, jn_eq]
      simp
    · have := getF_fail (b.length + 1) b [] (by omega) hz
      have e : (getT b []).1 = [] := this
      rw [if_pos (by simpa using hz), e]; rfl
  rw [jn_eq]
  by_cases h0 : (putR l).2 = 0
  · obtain ⟨q1, q2, q3⟩ := putR_ok h0
    have hg := getT_puts l [] (wf_of (SzN_mono hs) hwB q1)
    rw [List.nil_append] at hg
    rw [q3, if_pos (by simp), hg, if_neg (by simp), bd_eq (model_eq (by simp only []; omega)), bd_eq (model_eq (by omega)), bd_eq (same_eq (by simp only []; omega))]
    exact tail
  · rw [if_neg (by simpa using h0)]
    exact tail

def isN (name : List UInt8) (kind : Int) (x : Note) : Bool := x.1 == name && x.2.1 == kind
theorem notes_Find_eq {l : List Note} (hl : l.length ≤ 1000000) (hw : ∀ x ∈ l, x.2.2.length ≤ 1000000) (name : List UInt8) (kind : Int) :
    notes_Find l name kind = some (((l.find? (isN name kind)).map fun x => (x.2.2, true)).getD ([], false)) := by
  unfold notes_Find
  rw [jn_eq]
  refine scan_o l (by omega) (isN name kind) (fun x => (x.2.2, true)) ([], false) ?_ ?_
  · intro i rec hi
    have hk : slices_Clone_byte_byte l[i].2.2 = some l[i].2.2 := by
      unfold slices_Clone_byte_byte; exact gd_pos (by have := hw _ (List.getElem_mem hi); omega)
    rw [dif_lt hi, if_pos rfl, gd_pos (by omega), jn_eq, gt_nat hi, i64s (by omega), hk]
    unfold isN
    cases (l[i].1 == name) <;> cases (l[i].2.1 == kind) <;> rfl
  · intro rec
    rw [dif_ge (Nat.le_refl _), if_neg (by simp)]
theorem NotesFinds_true {l : List Note} (hl : l.length ≤ 9223372036854775807) (hw : ∀ x ∈ l, Wf08 x) {name : List UInt8} (_ : name.length ≤ 9223372036854775807) {kind : Int} (_ : InK .u32 kind) : law08_NotesFinds l name kind = some true := by
  unfold law08_NotesFinds
  rw [bd_eq law08_awake_true]
  simp only [Bool.not_true, Bool.false_eq_true, if_false]
  rcases few_cases hl hw with h | ⟨h, h20, hs⟩
  · rw [bd_eq h]; rfl
  rw [bd_eq h, if_neg (by simp), bd_eq (notes_Find_eq (by omega) (fun x hx => by obtain ⟨_, h2, _⟩ := hs x hx; omega) name kind), jn_eq]
  refine loop_toP (fun i => (i : Int)) (fun _ => some true) (fun i => (l.drop i).find? (isN name kind) = l.find? (isN name kind)) l.length rfl rfl rfl (by omega) ?_
  intro i rec hi hP hrec
  by_cases hlt : i < l.length
  · rw [List.drop_eq_getElem_cons hlt, List.find?_cons] at hP
    obtain ⟨_, s2, _, _⟩ := hs _ (List.getElem_mem hlt)
    rw [dif_lt hlt, if_pos rfl, jn_eq, jn_eq, gd_pos (by omega), gt_nat hlt, gd_pos (by omega), gd_pos (by omega), let1_eq, let1_eq, i64s (by omega)]
    cases hm : isN name kind l[i]
    · rw [hm] at hP
      have hr := hrec hlt hP
      have hf : (if (l[i].1 == name) = true then l[i].2.1 == kind else false) = false := by
        unfold isN at hm
        cases h1 : (l[i].1 == name)
        · rfl
        · rw [h1, Bool.true_and] at hm; exact hm
      cases h1 : (l[i].1 == name)
      · simpa using hr
      · rw [h1, if_pos rfl] at hf
        rw [hf]; simpa using hr
    · rw [hm] at hP
      have hm' := hm
      unfold isN at hm'
      rw [Bool.and_eq_true] at hm'
      rw [hm'.1, hm'.2, ← hP, if_pos rfl]
      dsimp only [Option.map_some, Option.getD_some]
      rw [if_pos rfl]
      refine jn_gen fun k4 hk4 => ?_
      rw [if_pos rfl, beq_self_eq_true, let1_eq, hk4]
      dsimp only
      refine jn_gen fun k5 hk5 => ?_
      have hk5v : k5 () = some true := by rw [hk5, jn_eq, if_pos rfl, gd_pos (by omega), beq_self_eq_true]
      refine loop_run (fun s => 0 ≤ s.1 ∧ s.1 ≤ (s.2.length : Int) ∧ s.2.length ≤ 500) (fun s => s.2.length - s.1.toNat) ?_ bigF (0, l[i].2.2) ⟨by simp, by simp, s2⟩ (lt_bigF (by simp only []; omega))
      rintro ⟨k, d⟩ rec2 ⟨h1, h2, h3⟩ hrec2
      simp only at h1 h2 h3 hrec2 ⊢
      by_cases hk : k < d.length
      · rw [if_pos (by rw [decide_eq_true_eq]; omega), gd_pos (by omega), gd_pos (by omega), let1_eq, i64w (by omega)]
        exact hrec2 _ ⟨by simp only []; omega, by simp only [List.length_set]; omega, by simp only [List.length_set]; omega⟩ (by simp only [List.length_set]; omega)
      · rw [if_neg (by rw [decide_eq_true_eq]; omega)]; exact hk5v
  · obtain rfl : i = l.length := by omega
    rw [List.drop_length] at hP
    rw [dif_ge (by omega), if_neg (by simp), jn_eq, ← hP]; rfl
theorem NotesMany_true {n : Int} (_ : InK .i64 n) : law08_NotesMany n = some true := by
  unfold law08_NotesMany
  rw [bd_eq law08_awake_true]
  simp only [Bool.not_true, Bool.false_eq_true, if_false]
  have hb := band_low n 6 63 (by omega) rfl
  have h64 : ((2 ^ 6 : Nat) : Int) = 64 := rfl
  rw [h64] at hb
  obtain ⟨k, hk, k1, k2⟩ : ∃ k : Nat, IntKind.i64.wrap (65500 + band .i64 n 63) = (k : Int) ∧ 65500 ≤ k ∧ k < 65564 := by
    refine ⟨(65500 + n % 64).toNat, ?_, ?_, ?_⟩
    · rw [hb, i64w (by omega)]; omega
    · omega
    · omega
  have es : IntKind.i64.wrap (16 + (IntKind.i64.wrap ((IntKind.i64.wrap (Int.tdiv (IntKind.i64.wrap ((k : Int) + 3)) 4)) * 4))) = ((16 + upN k : Nat) : Int) := by
    have e1 : IntKind.i64.wrap ((k : Int) + 3) = ((k + 3 : Nat) : Int) := by rw [i64w (by omega)]; omega
    have e2 : Int.tdiv ((k + 3 : Nat) : Int) 4 = (((k + 3) / 4 : Nat) : Int) := by rw [Int.tdiv_eq_ediv_of_nonneg (by omega)]; omega
    have e3 : IntKind.i64.wrap (((k + 3) / 4 : Nat) : Int) = (((k + 3) / 4 : Nat) : Int) := i64w (by omega)
    have e4 : IntKind.i64.wrap ((((k + 3) / 4 : Nat) : Int) * 4) = ((upN k : Nat) : Int) := by rw [i64w (by omega)]; unfold upN; omega
    have u := upN_lt k
    rw [e1, e2, e3, e4, i64w (by omega)]; omega
  have u1 := upN_le k
  have u2 := upN_lt k
  generalize hx : (([97, 98, 99], 0, List.replicate k 0) : Note) = x
  have x1 : x.1 = [97, 98, 99] := by rw [← hx]
  have x2 : x.2.1 = 0 := by rw [← hx]
  have x3 : x.2.2 = List.replicate k 0 := by rw [← hx]
  have x4 : x.2.2.length = k := by rw [x3, List.length_replicate]
  have hS : ∀ y ∈ [x], SzN 70000 y := by
    intro y hy
    rw [List.mem_singleton.1 hy]
    exact ⟨by rw [x1]; simp, by omega, by omega, by omega⟩
  have hB : ∀ y ∈ [x], Bytes y.2.2 := by
    intro y hy
    rw [List.mem_singleton.1 hy, x3]
    intro z hz
    have := List.eq_of_mem_replicate hz
    omega
  have hz : ([x].any fun y => hasB y.1 0) = false := by
    rw [List.any_cons, x1]; rfl
  have hflat : ([x].map nput).flatten = nput x := by simp
  have hlen : (nput x).length = 16 + upN k := by
    have hu : upN ([97, 98, 99] : List UInt8).length.succ = 4 := rfl
    rw [nput_length, x1, x4]
    have : upN (([97, 98, 99] : List UInt8).length + 1) = 4 := rfl
    rw [this]
  rw [hk, let1_eq, gd_pos (by omega), es, Int.toNat_natCast, hx, bd_eq (notes_Put_eq (by simp) hS), let1_eq]
  by_cases h6 : 16 + upN k > 65536
  · have hp : putR [x] = ([], 13) := by
      unfold putR
      rw [hz, if_neg (by simp), hflat, if_pos (by omega)]
    rw [if_pos (by rw [decide_eq_true_eq]; omega), jn_eq, hp]; rfl
  · have hp : putR [x] = (nput x, 0) := by
      unfold putR
      rw [hz, if_neg (by simp), hflat, if_neg (by omega)]
    have hg := getT_puts [x] [] (wf_of hS hB hz)
    rw [hflat, List.nil_append] at hg
    have hb1 : Bytes (nput x) := nput_bytes (hB x (by simp))
    have hz65 : Bytes (List.replicate 65537 (0 : Int)) := by
      intro z hz
      have := List.eq_of_mem_replicate hz
      omega
    have hbig : notes_Get (List.replicate (Int.toNat 65537) (0 : Int)) = some ([], 13) := by
      have := notes_Get_eq (b := List.replicate 65537 (0 : Int)) (by rw [List.length_replicate]; omega) hz65
      rw [if_pos (by rw [List.length_replicate]; omega)] at this
      exact this
    rw [if_neg (by rw [decide_eq_true_eq]; omega), hp, bd_eq (notes_Get_eq (by omega) hb1), if_neg (c := (nput x).length > 65536) (by omega), hg, gd_pos (by omega), bd_eq hbig, jn_eq]
    dsimp only
    rw [if_pos (by simp), hlen, if_pos (by simp), if_pos (by simp), if_pos (by simp), gd_pos (by simp)]
    have hgt : gt [x] 0 = x := rfl
    rw [hgt, x4, if_pos (by simp)]; rfl

end Dm
