/-
  The table of names that is built, as one function: a step for each name; what holds of it at each stage. No condition.
-/
import Derived.Test.YtmlghbdlhjinaaaS
import Derived.Test.YtmlghbdlhjinaaaFun
namespace Dm
open Go

theorem mpGet_append {κ β : Type} [BEq κ] : ∀ (A B : List (κ × β)) (k : κ), mpGet (A ++ B) k = (mpGet A k).or (mpGet B k)
  | [], B, k => by simp [mpGet]
  | p :: A, B, k => by
    rw [List.cons_append, mpGet, mpGet, mpGet_append A B k]
    split <;> rfl
theorem mpGet_put {κ β : Type} [BEq κ] [LawfulBEq κ] : ∀ (A : List (κ × β)) (s : κ) (v : β) (k : κ), mpGet (mpPut A s v) k = if k == s then some v else mpGet A k
  | [], s, v, k => by simp only [mpPut, mpGet]
  | p :: A, s, v, k => by
    rw [mpPut]
    by_cases h : s = p.1
    · rw [if_pos (by simp [h]), mpGet, mpGet, h]
      by_cases hk : k = p.1
      · simp [hk]
      · simp [hk]
    · rw [if_neg (by simp [h]), mpGet, mpGet, mpGet_put A s v k]
      by_cases hk : k = p.1
      · rw [if_pos (by simp [hk]), if_neg (by simp [hk]; exact fun e => h e.symm), if_pos (by simp [hk])]
      · rw [if_neg (by simp [hk]), if_neg (c := (k == p.1) = true) (by simp [hk])]
theorem mpGet_mem {κ β : Type} [BEq κ] [LawfulBEq κ] : ∀ {A : List (κ × β)} {k : κ} {v : β}, mpGet A k = some v → (k, v) ∈ A
  | [], k, v, h => by simp [mpGet] at h
  | p :: A, k, v, h => by
    rw [mpGet] at h
    by_cases hk : k = p.1
    · rw [if_pos (by simp [hk])] at h
      have := Option.some.inj h
      subst hk this; simp
    · rw [if_neg (by simp [hk])] at h
      exact List.mem_cons_of_mem _ (mpGet_mem h)
abbrev Str := List UInt8
abbrev BS := List Int × List Int × List (Str × Int)
def bst (S : BS) (s : Str) : BS := match mpGet S.2.2 s with
  | some a => (S.1, S.2.1 ++ [a], S.2.2)
  | none => (S.1 ++ ofStr s ++ [0], S.2.1 ++ [(S.1.length : Int)], mpPut S.2.2 s (S.1.length : Int))
def bfold (l : List Str) : BS := l.foldl bst ([0], [], [([], 0)])
def hasZ (l : List Str) : Bool := l.any fun s => hasB s 0
def buildS (l : List Str) : List Int × List Int × Int :=
  if hasZ l then ([], [], 1) else if (bfold l).1.length > 65536 then ([], [], 13) else ((bfold l).1, (bfold l).2.1, 0)
def tot (l : List Str) : Nat := (l.map fun s => s.length + 1).sum
theorem tot_append (a b : List Str) : tot (a ++ b) = tot a + tot b := by unfold tot; rw [List.map_append, List.sum_append_nat]
theorem ofStr_length (s : Str) : (ofStr s).length = s.length := by unfold ofStr; rw [List.length_map]
theorem bfold_snoc (l : List Str) (s : Str) : bfold (l ++ [s]) = bst (bfold l) s := by unfold bfold; rw [List.foldl_append]; rfl
theorem bst_le (S : BS) (s : Str) : S.1.length ≤ (bst S s).1.length := by
  unfold bst; split
  · exact Nat.le_refl _
  · simp only [List.length_append]; omega
theorem fold_le : ∀ (l : List Str) (S : BS), S.1.length ≤ (l.foldl bst S).1.length
  | [], S => Nat.le_refl _
  | s :: l, S => by rw [List.foldl_cons]; exact Nat.le_trans (bst_le S s) (fold_le l _)
theorem bfold_mono (l : List Str) (i : Nat) : (bfold (l.take i)).1.length ≤ (bfold l).1.length := by
  have : bfold l = (l.drop i).foldl bst (bfold (l.take i)) := by
    unfold bfold; rw [← List.foldl_append, List.take_append_drop]
  rw [this]; exact fold_le _ _
/-- what holds of the table, the places and the map, when the names l are in -/
structure BI (l : List Str) (S : BS) : Prop where
  len : S.2.1.length = l.length
  val : ∀ s a, mpGet S.2.2 s = some a → 0 ≤ a ∧ a < S.1.length
  pos : 1 ≤ S.1.length
  top : S.1.length ≤ 1 + tot l
  map : ∀ s, mpGet S.2.2 s = if s = [] then some 0 else mpGet (l.zip S.2.1) s
  own : ∀ s a, (s, a) ∈ l.zip S.2.1 → mpGet S.2.2 s = some a
  fst : ∃ r, S.1 = 0 :: r
  lst : ∃ r, S.1 = r ++ [0]
  txt : ∀ s a, mpGet S.2.2 s = some a → ∃ r, S.1.drop a.toNat = ofStr s ++ 0 :: r
theorem BI.nil : BI [] (bfold []) where
  len := rfl
  val := by
    intro s a h
    by_cases hs : s = []
    · subst hs; simp only [bfold, List.foldl_nil, mpGet] at h; have := Option.some.inj h; simp [bfold]; omega
    · simp [bfold, mpGet, hs] at h
  pos := by simp [bfold]
  top := by simp [bfold]
  map := by intro s; by_cases hs : s = [] <;> simp [bfold, mpGet, hs]
  own := by intro s a h; simp at h
  fst := ⟨[], rfl⟩
  lst := ⟨[], rfl⟩
  txt := by
    intro s a h
    by_cases hs : s = []
    · subst hs; simp only [bfold, List.foldl_nil, mpGet] at h; have := Option.some.inj h; subst this; exact ⟨[], rfl⟩
    · simp [bfold, mpGet, hs] at h
theorem BI.step {l : List Str} {S : BS} (h : BI l S) (s : Str) : BI (l ++ [s]) (bst S s) := by
  obtain ⟨T, O, M⟩ := S
  have hz : ∀ a : Int, (l ++ [s]).zip (O ++ [a]) = l.zip O ++ [(s, a)] := fun a => by rw [List.zip_append (by have := h.len; simp only at this; omega)]; rfl
  unfold bst
  cases hm : mpGet M s with
  | some a =>
    simp only [hm]
    refine ⟨by have := h.len; simp only at this; simp [this], h.val, h.pos, ?_, ?_, ?_, h.fst, h.lst, h.txt⟩
    · have := h.top; rw [tot_append]; simp only at this ⊢; omega
    · intro k
      have hk := h.map k
      simp only at hk ⊢
      rw [hz, hk]
      by_cases hn : k = []
      · rw [if_pos hn, if_pos hn]
      · rw [if_neg hn, if_neg hn, mpGet_append]
        cases hq : mpGet (l.zip O) k with
        | some _ => rfl
        | none =>
          rw [if_neg hn, hq] at hk
          have : k ≠ s := fun e => by subst e; rw [hk] at hm; simp at hm
          simp [mpGet, this]
    · intro k v hkv
      simp only at hkv ⊢
      rw [hz, List.mem_append] at hkv
      rcases hkv with hkv | hkv
      · exact h.own k v hkv
      · simp only [List.mem_cons, List.not_mem_nil, or_false] at hkv
        obtain ⟨rfl, rfl⟩ := Prod.mk.inj hkv
        exact hm
  | none =>
    simp only [hm]
    have hs : s ≠ [] := fun e => by have := h.map s; simp only [hm] at this; rw [if_pos e] at this; simp at this
    have hdrop : ∀ {a : Int} {x : List Int}, 0 ≤ a → a < T.length → (T ++ x).drop a.toNat = T.drop a.toNat ++ x := fun h0 h1 => List.drop_append_of_le_length (by omega)
    refine ⟨by have := h.len; simp only at this; simp [this], ?_, ?_, ?_, ?_, ?_, ?_, ⟨T ++ ofStr s, rfl⟩, ?_⟩
    · intro k a hk
      simp only [mpGet_put] at hk
      split at hk
      · have := Option.some.inj hk; subst this; simp only [List.length_append, List.length_cons]; omega
      · have := h.val k a hk; simp only [List.length_append] at this ⊢; omega
    · simp only [List.length_append, List.length_cons]; omega
    · have := h.top; rw [tot_append]; simp only [List.length_append, ofStr_length] at this ⊢; simp [tot]; unfold tot at this; omega
    · intro k
      have hk := h.map k
      simp only at hk ⊢
      rw [mpGet_put, hz, hk]
      by_cases hn : k = []
      · subst hn; rw [if_pos rfl, if_pos rfl, if_neg (by simp; exact hs)]
      · rw [if_neg hn, if_neg hn, mpGet_append]
        by_cases hks : k = s
        · subst hks
          rw [if_neg hn, hm] at hk
          rw [if_pos (by simp), ← hk]; simp [mpGet]
        · rw [if_neg (by simp [hks])]
          cases hq : mpGet (l.zip O) k with
          | some _ => rfl
          | none => simp [mpGet, hks]
    · intro k v hkv
      simp only at hkv ⊢
      rw [mpGet_put]
      rw [hz, List.mem_append] at hkv
      rcases hkv with hkv | hkv
      · have := h.own k v hkv
        simp only at this
        have hks : k ≠ s := fun e => by subst e; rw [hm] at this; simp at this
        rw [if_neg (by simp [hks])]; exact this
      · simp only [List.mem_cons, List.not_mem_nil, or_false] at hkv
        obtain ⟨rfl, rfl⟩ := Prod.mk.inj hkv
        simp
    · obtain ⟨r, hr⟩ := h.fst
      simp only at hr
      exact ⟨r ++ ofStr s ++ [0], by simp [hr]⟩
    · intro k a hk
      simp only [mpGet_put] at hk ⊢
      split at hk
      · rename_i hks
        have hks := eq_of_beq hks
        have := Option.some.inj hk; subst this hks
        exact ⟨[], by rw [Int.toNat_natCast, List.append_assoc, List.drop_left]⟩
      · obtain ⟨r, hr⟩ := h.txt k a hk
        have hv := h.val k a hk
        simp only at hr hv
        exact ⟨r ++ (ofStr s ++ [0]), by rw [List.append_assoc, hdrop hv.1 hv.2, hr]; simp⟩
theorem BI.all (l : List Str) : BI l (bfold l) := by
  have : ∀ n (l : List Str), l.length = n → BI l (bfold l) := by
    intro n
    induction n with
    | zero => intro l hl; obtain rfl := List.length_eq_zero_iff.1 hl; exact BI.nil
    | succ n ih =>
      intro l hl
      have hne : l ≠ [] := fun e => by subst e; simp at hl
      have e := List.dropLast_concat_getLast hne
      have := (ih l.dropLast (by rw [List.length_dropLast]; omega)).step (l.getLast hne)
      rw [← bfold_snoc, e] at this
      exact this
  exact this _ l rfl

end Dm
