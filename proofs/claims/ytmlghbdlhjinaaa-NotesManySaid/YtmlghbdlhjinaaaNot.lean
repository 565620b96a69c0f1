/-
  Plain facts on notes: their bytes, and what bytes are as notes; each is the other's inverse. Conditions: bytes from 0 to 255, numbers that fit into four bytes, names without 0.
-/
import Derived.Test.YtmlghbdlhjinaaaSet
namespace Dm
open Go

theorem cu_drop (b : List Int) (q p n : Nat) : cu (b.drop q) p n = cu b (q + p) n := by unfold cu; rw [List.drop_drop]
abbrev Note := List UInt8 × Int × List Int
def upN (n : Nat) : Nat := (n + 3) / 4 * 4
def zs (n : Nat) : List Int := List.replicate (upN n - n) 0
theorem upN_le (n : Nat) : n ≤ upN n := by unfold upN; omega
theorem upN_lt (n : Nat) : upN n ≤ n + 3 := by unfold upN; omega
theorem zs_length (n : Nat) : (zs n).length = upN n - n := by unfold zs; rw [List.length_replicate]
def nput (x : Note) : List Int := leB 4 ((x.1.length + 1 : Nat) : Int) ++ (leB 4 (x.2.2.length : Int) ++ (leB 4 x.2.1 ++ (ofStr x.1 ++ ([0] ++ (zs (x.1.length + 1) ++ (x.2.2 ++ zs x.2.2.length))))))
theorem ofStr_length (s : List UInt8) : (ofStr s).length = s.length := by unfold ofStr; rw [List.length_map]
theorem ofStr_bytes (s : List UInt8) : Bytes (ofStr s) := by
  intro x hx
  unfold ofStr at hx
  rw [List.mem_map] at hx
  obtain ⟨u, _, rfl⟩ := hx
  have := u.toNat_lt
  omega
theorem toStr_ofStr (s : List UInt8) : toStr (ofStr s) = s := by
  unfold toStr ofStr
  rw [List.map_map]
  conv => rhs; rw [← List.map_id s]
  apply List.map_congr_left
  intro x _
  simp
theorem ofStr_toStr {l : List Int} (h : Bytes l) : ofStr (toStr l) = l := by
  unfold toStr ofStr
  rw [List.map_map]
  conv => rhs; rw [← List.map_id l]
  apply List.map_congr_left
  intro x hx
  have := h x hx
  simp only [Function.comp, id, UInt8.toNat_ofNat']
  omega
theorem nput_length (x : Note) : (nput x).length = 12 + upN (x.1.length + 1) + upN x.2.2.length := by
  have h1 := upN_le (x.1.length + 1)
  have h2 := upN_le x.2.2.length
  unfold nput
  simp only [List.length_append, leB_length, ofStr_length, zs_length, List.length_cons, List.length_nil]
  omega
theorem zs_bytes (n : Nat) : Bytes (zs n) := by
  intro x hx
  unfold zs at hx
  have := List.eq_of_mem_replicate hx
  omega
theorem nput_bytes {x : Note} (h : Bytes x.2.2) : Bytes (nput x) :=
  (leB_bytes _ _).append ((leB_bytes _ _).append ((leB_bytes _ _).append ((ofStr_bytes _).append (Bytes.append (by intro y hy; simp at hy; omega) ((zs_bytes _).append (h.append (zs_bytes _)))))))
/-! what bytes are as a note -/
def nN (b : List Int) : Nat := (le (cu b 0 4)).toNat
def nD (b : List Int) : Nat := (le (cu b 4 4)).toNat
def nT (b : List Int) : Int := le (cu b 8 4)
def nameOk (b : List Int) : Bool := (cu b 12 (nN b - 1)).all (· != 0) && (cu b (12 + (nN b - 1)) (upN (nN b) - (nN b - 1))).all (· == 0)
def descOk (b : List Int) : Bool := (cu b (12 + upN (nN b) + nD b) (upN (nD b) - nD b)).all (· == 0)
def noteE (b : List Int) : Int :=
  if b.length < 12 then 10 else if nN b = 0 then 11 else if b.length < 12 + upN (nN b) then 10 else if nameOk b = false then 11
  else if b.length < 12 + upN (nN b) + upN (nD b) then 10 else if descOk b = false then 11 else 0
def noteV (b : List Int) : Note := (toStr (cu b 12 (nN b - 1)), nT b, cu b (12 + upN (nN b)) (nD b))
def noteK (b : List Int) : Nat := 12 + upN (nN b) + upN (nD b)
def WfN (x : Note) : Prop := hasB x.1 0 = false ∧ x.1.length < 4294967295 ∧ x.2.2.length < 4294967296 ∧ 0 ≤ x.2.1 ∧ x.2.1 < 4294967296 ∧ Bytes x.2.2
theorem cu_at0 {a c : List Int} {n : Nat} (h : n = a.length) : cu (a ++ c) 0 n = a := by
  subst h; unfold cu; rw [List.drop_zero, List.take_left]
theorem cu_at {a m c : List Int} {p n : Nat} (hp : p = a.length) (hn : n = m.length) : cu (a ++ (m ++ c)) p n = m := by
  rw [cu_right hp, hn, List.take_left]
theorem all_zero_zs (n : Nat) : (zs n).all (· == 0) = true := by
  rw [List.all_eq_true]; intro x hx; unfold zs at hx; simp [List.eq_of_mem_replicate hx]
theorem name_nonzero {s : List UInt8} (h : hasB s 0 = false) : (ofStr s).all (· != 0) = true := by
  rw [List.all_eq_true]
  intro x hx
  unfold ofStr at hx
  rw [List.mem_map] at hx
  obtain ⟨u, hu, rfl⟩ := hx
  unfold hasB at h
  rw [List.any_eq_false] at h
  have h1 := h u hu
  have h2 : u ≠ 0 := fun e => h1 (by rw [e]; rfl)
  rw [bne_iff_ne]
  intro e
  apply h2
  apply UInt8.toNat_inj.1
  have : u.toNat = 0 := by omega
  rw [this]; rfl
theorem note_put {x : Note} (hw : WfN x) (rest : List Int) : noteE (nput x ++ rest) = 0 ∧ noteV (nput x ++ rest) = x ∧ noteK (nput x ++ rest) = (nput x).length := by
  obtain ⟨h0, h1, h2, h3, h4, h5⟩ := hw
  have u1 := upN_le (x.1.length + 1)
  have u2 := upN_le x.2.2.length
  have hb : nput x ++ rest = leB 4 ((x.1.length + 1 : Nat) : Int) ++ (leB 4 (x.2.2.length : Int) ++ (leB 4 x.2.1 ++ (ofStr x.1 ++ (([0] ++ zs (x.1.length + 1)) ++ (x.2.2 ++ (zs x.2.2.length ++ rest)))))) := by
    unfold nput; simp only [List.append_assoc]
  have hL : (nput x ++ rest).length = (nput x).length + rest.length := List.length_append
  have hl := nput_length x
  generalize hg : nput x ++ rest = b at hb hL
  have e0 : cu b 0 4 = leB 4 ((x.1.length + 1 : Nat) : Int) := by rw [hb]; rfl
  have e4 : cu b 4 4 = leB 4 (x.2.2.length : Int) := by rw [hb]; rfl
  have e8 : cu b 8 4 = leB 4 x.2.1 := by rw [hb]; rfl
  have d12 : b.drop 12 = ofStr x.1 ++ (([0] ++ zs (x.1.length + 1)) ++ (x.2.2 ++ (zs x.2.2.length ++ rest))) := by rw [hb]; rfl
  have c12 : ∀ k n, cu b (12 + k) n = cu (b.drop 12) k n := fun k n => (cu_drop b 12 k n).symm
  have eN : nN b = x.1.length + 1 := by unfold nN; rw [e0, le_leB (by omega) (by omega)]; omega
  have eD : nD b = x.2.2.length := by unfold nD; rw [e4, le_leB (by omega) (by omega)]; omega
  have eT : nT b = x.2.1 := by unfold nT; rw [e8, le_leB h3 (by omega)]
  have n1 : cu b 12 x.1.length = ofStr x.1 := by rw [show cu b 12 x.1.length = _ from c12 0 _, d12, cu_at0 (ofStr_length _).symm]
  have n2 : cu b (12 + x.1.length) (upN (x.1.length + 1) - x.1.length) = [0] ++ zs (x.1.length + 1) := by
    rw [c12, d12, cu_at (ofStr_length _).symm (by simp [zs_length]; omega)]
  have n3 : cu b (12 + upN (x.1.length + 1)) x.2.2.length = x.2.2 := by
    rw [c12, d12, ← List.append_assoc (ofStr x.1), cu_at (by simp [ofStr_length, zs_length]; omega) rfl]
  have n4 : cu b (12 + upN (x.1.length + 1) + x.2.2.length) (upN x.2.2.length - x.2.2.length) = zs x.2.2.length := by
    rw [Nat.add_assoc, c12, d12, ← List.append_assoc (ofStr x.1), ← List.append_assoc _ x.2.2, cu_at (by simp [ofStr_length, zs_length]; omega) (zs_length _).symm]
  have k1 : nameOk b = true := by
    unfold nameOk
    rw [eN, Nat.add_sub_cancel, n1, n2, name_nonzero h0, List.all_append, all_zero_zs]; rfl
  have k2 : descOk b = true := by
    unfold descOk
    rw [eN, eD, n4, all_zero_zs]
  refine ⟨?_, ?_, ?_⟩
  · unfold noteE
    rw [if_neg (by omega), if_neg (by omega), if_neg (by rw [eN]; omega), k1, if_neg (by simp), if_neg (by rw [eN, eD]; omega), k2, if_neg (by simp)]
  · unfold noteV
    rw [eN, Nat.add_sub_cancel, n1, eT, eD, n3, toStr_ofStr]
  · unfold noteK
    rw [eN, eD]; omega
theorem replicate_of_all {l : List Int} (h : l.all (· == 0) = true) : l = List.replicate l.length 0 := by
  rw [List.eq_replicate_iff]
  refine ⟨rfl, fun x hx => ?_⟩
  have := (List.all_eq_true.1 h) x hx
  simpa using this
theorem hasB_toStr {l : List Int} (hl : Bytes l) (h : l.all (· != 0) = true) : hasB (toStr l) 0 = false := by
  unfold hasB
  rw [List.any_eq_false]
  intro u hu
  unfold toStr at hu
  rw [List.mem_map] at hu
  obtain ⟨x, hx, rfl⟩ := hu
  have h1 := (List.all_eq_true.1 h) x hx
  have h2 := hl x hx
  rw [bne_iff_ne] at h1
  intro e
  rw [beq_iff_eq] at e
  have := congrArg UInt8.toNat e
  simp only [UInt8.toNat_ofNat'] at this
  have h0 : (0 : UInt8).toNat = 0 := rfl
  omega
theorem noteE_zero {b : List Int} (h : noteE b = 0) : 12 ≤ b.length ∧ nN b ≠ 0 ∧ nameOk b = true ∧ noteK b ≤ b.length ∧ descOk b = true := by
  unfold noteE at h
  unfold noteK
  have h10 : (10 : Int) ≠ 0 := by omega
  have h11 : (11 : Int) ≠ 0 := by omega
  by_cases a1 : b.length < 12
  · rw [if_pos a1] at h; omega
  rw [if_neg a1] at h
  by_cases a2 : nN b = 0
  · rw [if_pos a2] at h; omega
  rw [if_neg a2] at h
  by_cases a3 : b.length < 12 + upN (nN b)
  · rw [if_pos a3] at h; omega
  rw [if_neg a3] at h
  cases a4 : nameOk b
  · rw [if_pos a4] at h; omega
  rw [if_neg (by simp [a4])] at h
  by_cases a5 : b.length < 12 + upN (nN b) + upN (nD b)
  · rw [if_pos a5] at h; omega
  rw [if_neg a5] at h
  cases a6 : descOk b
  · rw [if_pos a6] at h; omega
  exact ⟨by omega, a2, rfl, by omega, rfl⟩
theorem take_cu (b : List Int) (m : Nat) : b.take m = cu b 0 m := by unfold cu; rw [List.drop_zero]
/-- a note that is read is put as it was -/
theorem put_note {b : List Int} (hB : Bytes b) (h : noteE b = 0) : nput (noteV b) ++ b.drop (noteK b) = b ∧ WfN (noteV b) := by
  obtain ⟨h1, h2, h3, h4, h5⟩ := noteE_zero h
  unfold noteK at h4
  have u1 := upN_le (nN b)
  have u2 := upN_le (nD b)
  unfold nameOk at h3
  rw [Bool.and_eq_true] at h3
  have b0 := cu_bd (n := 4) hB (show 0 + 4 ≤ b.length by omega)
  have b4 := cu_bd (n := 4) hB (show 4 + 4 ≤ b.length by omega)
  have b8 := cu_bd (n := 4) hB (show 8 + 4 ≤ b.length by omega)
  have lN : (cu b 12 (nN b - 1)).length = nN b - 1 := cu_length (by omega)
  have lD : (cu b (12 + upN (nN b)) (nD b)).length = nD b := cu_length (by omega)
  have tl : (noteV b).1.length = nN b - 1 := by unfold noteV toStr; rw [List.length_map, lN]
  have dl : (noteV b).2.2.length = nD b := lD
  have eN : ((nN b : Nat) : Int) = le (cu b 0 4) := by unfold nN; omega
  have eD : ((nD b : Nat) : Int) = le (cu b 4 4) := by unfold nD; omega
  have L4 : ∀ p, p + 4 ≤ b.length → leB 4 (le (cu b p 4)) = cu b p 4 := by
    intro p hp
    have := leB_le (hB.cu p 4)
    rwa [cu_length hp] at this
  have z1 : [0] ++ zs (nN b - 1 + 1) = cu b (12 + (nN b - 1)) (upN (nN b) - (nN b - 1)) := by
    rw [replicate_of_all h3.2, cu_length (by omega)]
    unfold zs
    rw [Nat.sub_add_cancel (by omega), show upN (nN b) - (nN b - 1) = (upN (nN b) - nN b) + 1 by omega, List.replicate_succ]; rfl
  have z2 : zs (nD b) = cu b (12 + upN (nN b) + nD b) (upN (nD b) - nD b) := by
    unfold descOk at h5
    rw [replicate_of_all h5, cu_length (by omega)]; rfl
  constructor
  · unfold nput
    rw [tl, dl]
    have e1 : ofStr (noteV b).1 = cu b 12 (nN b - 1) := ofStr_toStr (hB.cu _ _)
    have e2 : (noteV b).2.2 = cu b (12 + upN (nN b)) (nD b) := rfl
    have e3 : (noteV b).2.1 = le (cu b 8 4) := rfl
    rw [e1, e2, e3, show ((nN b - 1 + 1 : Nat) : Int) = le (cu b 0 4) by omega, eD, L4 0 (by omega), L4 4 (by omega), L4 8 (by omega)]
    have J : ∀ p m n q, q = p + m → cu b p m ++ cu b q n = cu b p (m + n) := fun p m n q hq => by subst hq; exact (cu_add b p m n).symm
    have J3 : ∀ p m n q (r : List Int), q = p + m → cu b p m ++ (cu b q n ++ r) = cu b p (m + n) ++ r := fun p m n q r hq => by rw [← List.append_assoc, J p m n q hq]
    rw [← List.append_assoc [0], z1, z2, J (12 + upN (nN b)) (nD b) (upN (nD b) - nD b) _ rfl, J (12 + (nN b - 1)) _ _ _ (by omega), J 12 _ _ _ rfl, J 8 _ _ _ rfl, J 4 _ _ _ rfl, J 0 _ _ _ rfl, ← take_cu]
    rw [show 4 + (4 + (4 + (nN b - 1 + (upN (nN b) - (nN b - 1) + (nD b + (upN (nD b) - nD b)))))) = noteK b by unfold noteK; omega]
    exact List.take_append_drop _ _
  · refine ⟨hasB_toStr (hB.cu _ _) h3.1, by rw [tl]; omega, by rw [dl]; omega, b8.1, by have := b8.2; show le (cu b 8 4) < _; omega, hB.cu _ _⟩
/-! many, one behind the other -/
def getF : Nat → List Int → List Note → List Note × Int
  | 0, _, _ => ([], 0)
  | F + 1, b, acc => if b.length = 0 then (acc, 0) else if noteE b ≠ 0 then ([], noteE b) else getF F (b.drop (noteK b)) (acc ++ [noteV b])
def getT (b : List Int) (acc : List Note) : List Note × Int := getF (b.length + 1) b acc
theorem getF_eq : ∀ (F : Nat) (b : List Int) (acc : List Note), b.length < F → ∀ F', b.length < F' → getF F b acc = getF F' b acc := by
  intro F
  induction F with
  | zero => intro b acc h; omega
  | succ F ih =>
    intro b acc h F' h'
    obtain ⟨G, rfl⟩ : ∃ G, F' = G + 1 := ⟨F' - 1, by omega⟩
    rw [getF, getF]
    by_cases h0 : b.length = 0
    · rw [if_pos h0, if_pos h0]
    rw [if_neg h0, if_neg h0]
    by_cases h1 : noteE b ≠ 0
    · rw [if_pos h1, if_pos h1]
    rw [if_neg h1, if_neg h1]
    have hk : (b.drop (noteK b)).length < b.length := by rw [List.length_drop]; unfold noteK; omega
    exact ih _ _ (by omega) _ (by omega)
theorem getT_nil (acc : List Note) : getT [] acc = (acc, 0) := rfl
theorem getT_err {b : List Int} {acc : List Note} (h0 : b.length ≠ 0) (h1 : noteE b ≠ 0) : getT b acc = ([], noteE b) := by
  unfold getT; rw [getF, if_neg h0, if_pos h1]
theorem getT_step {b : List Int} {acc : List Note} (h0 : b.length ≠ 0) (h1 : noteE b = 0) : getT b acc = getT (b.drop (noteK b)) (acc ++ [noteV b]) := by
  unfold getT
  rw [getF, if_neg h0, if_neg (by omega)]
  exact getF_eq _ _ _ (by rw [List.length_drop]; unfold noteK; omega) _ (by omega)
theorem getT_puts : ∀ (l : List Note) (acc : List Note), (∀ x ∈ l, WfN x) → getT ((l.map nput).flatten) acc = (acc ++ l, 0)
  | [], acc, _ => by rw [List.append_nil]; rfl
  | x :: l, acc, h => by
    obtain ⟨h1, h2, h3⟩ := note_put (h x (by simp)) ((l.map nput).flatten)
    have hl := nput_length x
    rw [List.map_cons, List.flatten_cons, getT_step (by rw [List.length_append]; omega) h1, h2, h3, List.drop_left, getT_puts l _ (fun y hy => h y (by simp [hy])), List.append_assoc]; rfl
theorem getF_back : ∀ (F : Nat) (b : List Int) (acc z : List Note), Bytes b → b.length < F → getF F b acc = (z, 0) → ∃ l, z = acc ++ l ∧ (l.map nput).flatten = b ∧ ∀ x ∈ l, WfN x := by
  intro F
  induction F with
  | zero => intro b acc z _ h; omega
  | succ F ih =>
    intro b acc z hB h hg
    rw [getF] at hg
    by_cases h0 : b.length = 0
    · rw [if_pos h0] at hg
      obtain rfl := List.length_eq_zero_iff.1 h0
      exact ⟨[], by rw [List.append_nil]; exact (Prod.mk.inj hg).1.symm, rfl, by simp⟩
    rw [if_neg h0] at hg
    by_cases h1 : noteE b ≠ 0
    · rw [if_pos h1] at hg; exact absurd (Prod.mk.inj hg).2 h1
    rw [if_neg h1] at hg
    have hk : (b.drop (noteK b)).length < b.length := by rw [List.length_drop]; unfold noteK; omega
    obtain ⟨l, e1, e2, e3⟩ := ih _ _ _ (hB.drop _) (by omega) hg
    obtain ⟨p1, p2⟩ := put_note hB (by omega)
    refine ⟨noteV b :: l, by rw [e1, List.append_assoc]; rfl, by rw [List.map_cons, List.flatten_cons, e2, p1], fun x hx => ?_⟩
    rcases List.mem_cons.1 hx with rfl | hx
    · exact p2
    · exact e3 x hx
theorem getT_back {b : List Int} {acc z : List Note} (hB : Bytes b) (h : getT b acc = (z, 0)) : ∃ l, z = acc ++ l ∧ (l.map nput).flatten = b ∧ ∀ x ∈ l, WfN x :=
  getF_back _ b acc z hB (by omega) h
theorem getF_fail : ∀ (F : Nat) (b : List Int) (acc : List Note), b.length < F → (getF F b acc).2 ≠ 0 → (getF F b acc).1 = [] := by
  intro F
  induction F with
  | zero => intro b acc h; omega
  | succ F ih =>
    intro b acc h hg
    rw [getF] at hg ⊢
    by_cases h0 : b.length = 0
    · rw [if_pos h0] at hg; exact absurd rfl hg
    rw [if_neg h0] at hg ⊢
    by_cases h1 : noteE b ≠ 0
    · rw [if_pos h1]
    rw [if_neg h1] at hg ⊢
    have hk : (b.drop (noteK b)).length < b.length := by rw [List.length_drop]; unfold noteK; omega
    exact ih _ _ (by omega) hg

end Dm
