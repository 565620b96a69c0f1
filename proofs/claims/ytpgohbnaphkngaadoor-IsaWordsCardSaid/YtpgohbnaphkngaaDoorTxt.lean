/-
  The kit's words on texts are the shallow forms'. No condition.
-/
import Derived.Test.YtpgohbnaphkngaaDoorPreT
import Derived.Test.YtpgohbnaphkngaaDoorTab
import Derived.Lib.FieldsP
import Derived.Lib.SplitLaws
import Derived.Lib.ItoaNum
import Derived.Shelf.GgClosure.Gives
namespace Dm
open Go Go.RowKit

theorem hasB_eq (l : List UInt8) (c : UInt8) : decide (0 ≤ Go.Lib.indexByte l c) = hasB l c := by
  induction l with
  | nil => rfl
  | cons b l ih =>
    unfold hasB at *
    simp only [Go.Lib.indexByte, List.any_cons]
    by_cases h : b == c
    · simp [h]
    · simp only [h, Bool.false_eq_true, if_false, Bool.false_or, ← ih]
      have := Go.Lib.indexByte_ge l c
      by_cases h2 : Go.Lib.indexByte l c == -1
      · simp only [h2, if_true]
        have : Go.Lib.indexByte l c = -1 := by simpa using h2
        simp [this]
      · have h3 : Go.Lib.indexByte l c ≠ -1 := by simpa using h2
        simp only [h2, Bool.false_eq_true, if_false]
        rw [decide_eq_decide]; omega
theorem digs_eq : ∀ (f u : Nat), u < 10 ^ (f + 1) → digs (f + 1) u = Lib.decDigits u
  | 0, u, h => by
    unfold Lib.decDigits digs
    have : u < 10 := by simpa using h
    simp [this]
  | f + 1, u, h => by
    unfold Lib.decDigits
    rw [digs]
    by_cases h10 : u < 10
    · simp [h10]
    · have h2 : u / 10 < 10 ^ (f + 1) := by
        rw [Nat.div_lt_iff_lt_mul (by decide)]
        rw [Nat.pow_succ] at h
        exact h
      simp only [h10, if_false, dite_false]
      rw [digs_eq f (u / 10) h2]
theorem itoaD_eq {n : Int} (h0 : -9223372036854775808 ≤ n) (h1 : n ≤ 9223372036854775807) : itoaD n = Lib.itoa n := by
  unfold itoaD Lib.itoa
  split
  · rw [digs_eq 19 _ (by omega)]
  · rw [digs_eq 19 _ (by omega)]
theorem ext_drewN (w : World) (k : Nat) (os : Array Obj) : Ext w (Go.Sort.grow (w.drewN k) os) := Go.Proofs.below_grown w k os

/-! lines -/
theorem linesB_skip (c : UInt8) : ∀ (m cur l : List UInt8), (∀ b ∈ m, b ≠ c) → linesB c cur (m ++ l) = linesB c (cur ++ m) l
  | [], cur, l, _ => by simp
  | b :: m, cur, l, h => by
    have hb : (b == c) = false := by simpa using h b (by simp)
    rw [List.cons_append, linesB]
    simp only [hb, Bool.false_eq_true, if_false]
    rw [linesB_skip c m (cur ++ [b]) l (fun x hx => h x (by simp [hx]))]
    simp
theorem linesB_none (c : UInt8) (l : List UInt8) (h : ∀ b ∈ l, b ≠ c) : linesB c [] l = [l] := by
  have := linesB_skip c l [] [] h
  simpa [linesB] using this
theorem index_one (l : List UInt8) (c : UInt8) : Lib.index l [c] = Lib.indexByte l c := by
  induction l with
  | nil => simp [Lib.index, Lib.indexByte]
  | cons b l ih =>
    unfold Lib.index Lib.indexByte
    by_cases h : b = c
    · simp [h]
    · have h2 : (b == c) = false := by simpa using h
      have h3 : (c == b) = false := by simpa using fun e => h e.symm
      simp [h2, h3, ih, List.isPrefixOf]
theorem indexByte_cut (c : UInt8) : ∀ l : List UInt8, (Lib.indexByte l c = -1 ∧ ∀ b ∈ l, b ≠ c) ∨ ∃ m r, l = m ++ c :: r ∧ (∀ b ∈ m, b ≠ c) ∧ Lib.indexByte l c = m.length
  | [] => .inl ⟨rfl, fun b hb => by cases hb⟩
  | b :: l => by
    unfold Lib.indexByte
    by_cases h : b = c
    · subst h
      exact .inr ⟨[], l, rfl, (fun b hb => by cases hb), by simp⟩
    · have h2 : (b == c) = false := by simpa using h
      simp only [h2, Bool.false_eq_true, if_false]
      rcases indexByte_cut c l with ⟨h3, h4⟩ | ⟨m, r, h3, h4, h5⟩
      · refine .inl ⟨by simp [h3], fun x hx => ?_⟩
        rcases List.mem_cons.1 hx with rfl | hx
        · exact h
        · exact h4 x hx
      · refine .inr ⟨b :: m, r, by rw [h3]; rfl, fun x hx => ?_, ?_⟩
        · rcases List.mem_cons.1 hx with rfl | hx
          · exact h
          · exact h4 x hx
        · have : (Lib.indexByte l c == -1) = false := by rw [h5]; simp
          simp only [List.length_cons, h5]
          rfl
theorem splitK_lines (c : UInt8) : ∀ (k : Nat) (l : List UInt8), l.count c ≤ k → Lib.splitK [c] 0 k l = linesB c [] l
  | 0, l, h => by
    have h2 : ∀ b ∈ l, b ≠ c := fun b hb e => by
      subst e
      have := List.count_pos_iff.2 hb
      omega
    rw [linesB_none c l h2]; rfl
  | k + 1, l, h => by
    unfold Lib.splitK
    rw [index_one]
    rcases indexByte_cut c l with ⟨h3, h4⟩ | ⟨m, r, h3, h4, h5⟩
    · rw [linesB_none c l h4, h3]; rfl
    · have hne : (Lib.indexByte l c == -1) = false := by rw [h5]; simp
      simp only [h5, Int.toNat_natCast, Nat.add_zero, List.length_cons, List.length_nil, Nat.zero_add]
      have e1 : l.take m.length = m := by rw [h3]; simp
      have e2 : l.drop (m.length + 1) = r := by
        rw [h3, ← List.drop_drop]; simp
      have hc : r.count c ≤ k := by
        rw [h3, List.count_append, List.count_cons_self] at h
        omega
      rw [e1, e2, splitK_lines c k r hc]
      conv => rhs; rw [h3, linesB_skip c m [] (c :: r) h4]
      simp [linesB]
theorem split_lines (s : List UInt8) (c : UInt8) : (Lib.splitB ⟨#[c]⟩ 0 (Lib.countB ⟨s.toArray⟩ ⟨#[c]⟩) ⟨s.toArray⟩).map (·.data.toList) = linesB c [] s := by
  rw [Lib.splitB_data]
  refine splitK_lines c _ s ?_
  have : Lib.countB ⟨s.toArray⟩ ⟨#[c]⟩ = s.count c := Lib.count_one c s
  rw [this]
  exact Nat.le_refl _
theorem strV_data (b : ByteArray) : Value.string b = strV b.data.toList := rfl
theorem map_strV {xs : List ByteArray} {ys : List (List UInt8)} (h : xs.map (·.data.toList) = ys) : xs.map Value.string = ys.map strV := by
  subst h
  rw [List.map_map]; rfl
theorem reps_strs {F : SH} : ∀ ys : List (List UInt8), Reps tS F ys (ys.map strV)
  | [] => rfl
  | y :: ys => ⟨[strV y], ys.map strV, rfl, rfl, reps_strs ys⟩
theorem frees {w0 w : World} {F0 F : SH} {R : Nat → Prop} {Ts : List Th} (hs : Sep w0 F0 R w F Ts) {k : Nat} (hk : w.heap.size ≤ k) : F k = none := by
  cases h : F k with
  | none => rfl
  | some o => exact absurd (hp_lt (hs.le _ _ h)) (by omega)
theorem split_end {w : World} {F : SH} {R : Nat → Prop} {Ts : List Th} (hs : Sep w F R w F Ts) (s : List UInt8) (c : UInt8) (e : TypeId) (hl : s.length < 4294967281) :
    Gives (fun u w' => ∃ (ao1 : Option Addr) (cp1 : Nat) (F' : SH), u = .slice ao1 (linesB c [] s).length cp1 ∧ Sep w F R w' F' [.row e tS (.slice ao1 (linesB c [] s).length cp1) (linesB c [] s)])
      (.returned (.slice (some ⟨w.heap.size, 0, none⟩) (Lib.countB ⟨s.toArray⟩ ⟨#[c]⟩ + 1) (Lib.countB ⟨s.toArray⟩ ⟨#[c]⟩ + 1)))
      (w.alloc (.cells ((Lib.splitB ⟨#[c]⟩ 0 (Lib.countB ⟨s.toArray⟩ ⟨#[c]⟩) ⟨s.toArray⟩).map Value.string).toArray e)) := by
  have hm := split_lines s c
  have hlen : (linesB c [] s).length = Lib.countB ⟨s.toArray⟩ ⟨#[c]⟩ + 1 := by
    rw [← hm, List.length_map]
    exact Lib.splitB_all ⟨#[c]⟩ (Nat.le_refl 1) 0 _ _ rfl
  have hcl : Lib.countB ⟨s.toArray⟩ ⟨#[c]⟩ ≤ s.length := Lib.countB_le ⟨#[c]⟩ (Nat.le_refl 1) s.length ⟨s.toArray⟩ (by simp [ByteArray.size])
  rw [map_strV hm, ← hlen]
  refine ⟨_, rfl, some ⟨w.heap.size, 0, none⟩, (linesB c [] s).length, F, rfl, ?_⟩
  have hx : Ext w (w.alloc (.cells ((linesB c [] s).map strV).toArray e)) := (Below.refl _ w).alloc (Nat.le_refl _) _
  refine (hs.newRow (e := e) (t := tS) ⟨(linesB c [] s).map strV, ⟨by simp [tS, tF], .inr ⟨w.heap.size, (linesB c [] s).length, ((linesB c [] s).map strV).toArray, rfl, Nat.le_refl _, heap_alloc_new w _, Nat.le_refl _, by rw [hlen]; unfold maxLen; omega, by simp [tS, tF], List.take_of_length_le (by simp [tS, tF])⟩⟩, reps_strs _, fun k hk => ?_⟩ hx).sel [0] rfl rfl
  have : w.heap.size = k := by simpa [Value.ownBlock] using hk
  exact frees hs (by omega)

/-! words -/
theorem wordsB_skip (c : UInt8) : ∀ (m cur l : List UInt8), (∀ b ∈ m, b ≠ c) → wordsB c cur (m ++ l) = wordsB c (cur ++ m) l
  | [], cur, l, _ => by simp
  | b :: m, cur, l, h => by
    have hb : (b == c) = false := by simpa using h b (by simp)
    rw [List.cons_append, wordsB]
    simp only [hb, Bool.false_eq_true, if_false]
    rw [wordsB_skip c m (cur ++ [b]) l (fun x hx => h x (by simp [hx]))]
    simp
theorem decodeN_words {n b0 b1 b2 b3 : Nat} (h0 : b0 ≠ 32) (hn : 1 ≤ n) : (Lib.decodeN n b0 b1 b2 b3).1 ≠ 32 ∧ (Lib.decodeN n b0 b1 b2 b3).2 ≤ n ∧ 1 ≤ (Lib.decodeN n b0 b1 b2 b3).2 ∧ (Lib.decodeN n b0 b1 b2 b3).2 ≤ 4 ∧
    (2 ≤ (Lib.decodeN n b0 b1 b2 b3).2 → b1 ≠ 32) ∧ (3 ≤ (Lib.decodeN n b0 b1 b2 b3).2 → b2 ≠ 32) ∧ (4 ≤ (Lib.decodeN n b0 b1 b2 b3).2 → b3 ≠ 32) := by
  unfold Lib.decodeN
  repeat' split
  all_goals refine ⟨?_, ?_, ?_, ?_, fun _ => ?_, fun _ => ?_, fun _ => ?_⟩
  all_goals simp only [] at *
  all_goals omega
def curOf (l : List UInt8) (pos : Nat) : Option Nat → List UInt8
  | none => []
  | some a => (l.take pos).drop a
theorem getB (l : List UInt8) (i : Nat) (h : i < l.length) : ((⟨l.toArray⟩ : ByteArray).get! i) = l[i] := by
  show (l.toArray).getD i _ = l[i]
  simp [h]
theorem spans_words (l : List UInt8) : ∀ (f pos : Nat) (st : Option Nat) (acc : List (Nat × Nat)), pos ≤ l.length → l.length ≤ pos + f → (∀ a, st = some a → a < pos) →
    (Lib.closeSpans ⟨l.toArray⟩ (Lib.spansFromP (fun x => x == 32) ⟨l.toArray⟩ f pos st acc)).map (fun x => (l.take x.2).drop x.1) = acc.map (fun x => (l.take x.2).drop x.1) ++ wordsB 32 (curOf l pos st) (l.drop pos)
  | f, pos, st, acc, hp, hf, hst => by
    by_cases hlt : pos < l.length
    · obtain ⟨g, rfl⟩ : ∃ g, f = g + 1 := ⟨f - 1, by omega⟩
      have hsz : (⟨l.toArray⟩ : ByteArray).size = l.length := by simp [ByteArray.size]
      have hd : l.drop pos = l[pos] :: l.drop (pos + 1) := List.drop_eq_getElem_cons hlt
      unfold Lib.spansFromP
      rw [if_pos (by rw [hsz]; exact hlt)]
      by_cases hb : l[pos] = 32
      · have hdec : Utf8.decode ⟨l.toArray⟩ pos = (32, 1) := by
          rw [Lib.decode_at, getB l pos hlt, hb]
          rfl
        rw [hdec]
        simp only [beq_self_eq_true, if_true]
        cases st with
        | none =>
          simp only []
          rw [spans_words l g (pos + 1) none acc (by omega) (by omega) (fun a h => by cases h), hd, hb]
          simp [curOf, wordsB]
        | some a =>
          simp only []
          have ha := hst a rfl
          have hne : ((l.take pos).drop a).isEmpty = false := by
            have : 0 < ((l.take pos).drop a).length := by simp; omega
            cases h : (l.take pos).drop a with
            | nil => rw [h] at this; simp at this
            | cons => rfl
          rw [spans_words l g (pos + 1) none _ (by omega) (by omega) (fun a h => by cases h), hd, hb]
          simp only [curOf, wordsB, beq_self_eq_true, if_true, hne, Bool.false_eq_true, if_false, List.map_append, List.map_cons, List.map_nil, List.append_assoc, List.cons_append, List.nil_append]
      · have hb0 : (l[pos]).toNat ≠ 32 := fun e => hb (UInt8.toNat_inj.1 e)
        have hat := Lib.decode_at ⟨l.toArray⟩ pos
        rw [getB l pos hlt, hsz] at hat
        obtain ⟨q1, q2, q3, q4, q5, q6, q7⟩ := decodeN_words (n := l.length - pos) (b1 := ((⟨l.toArray⟩ : ByteArray).get! (pos + 1)).toNat) (b2 := ((⟨l.toArray⟩ : ByteArray).get! (pos + 2)).toNat) (b3 := ((⟨l.toArray⟩ : ByteArray).get! (pos + 3)).toNat) hb0 (by omega)
        rw [← hat] at q1 q2 q3 q4 q5 q6 q7
        generalize hdk : Utf8.decode ⟨l.toArray⟩ pos = d at *
        obtain ⟨r, k⟩ := d
        simp only at q1 q2 q3 q4 q5 q6 q7 ⊢
        have hp32 : (r == 32) = false := by simpa using q1
        have hmem : ∀ b ∈ (l.drop pos).take k, b ≠ 32 := by
          intro b hb2 e
          subst e
          obtain ⟨i, hi, he⟩ := List.getElem_of_mem hb2
          have hik : i < k := by simp at hi; omega
          rw [List.getElem_take, List.getElem_drop] at he
          have hg : ∀ j, pos + j < l.length → ((⟨l.toArray⟩ : ByteArray).get! (pos + j)) = l[pos + j]! := fun j hj => by rw [getB l _ hj]; simp [hj]
          have hi4 : i = 0 ∨ i = 1 ∨ i = 2 ∨ i = 3 := by omega
          rcases hi4 with rfl | rfl | rfl | rfl
          · exact hb he
          · have := q5 (by omega); rw [getB l _ (by omega), he] at this; exact this rfl
          · have := q6 (by omega); rw [getB l _ (by omega), he] at this; exact this rfl
          · have := q7 (by omega); rw [getB l _ (by omega), he] at this; exact this rfl
        have hsplit : l.drop pos = (l.drop pos).take k ++ l.drop (pos + k) := by
          rw [← List.drop_drop, List.take_append_drop]
        simp only [hp32, Bool.false_eq_true, if_false]
        cases st with
        | none =>
          simp only []
          rw [spans_words l g (pos + k) (some pos) acc (by omega) (by omega) (fun a h => by cases h; omega)]
          conv => rhs; rw [hsplit]
          rw [wordsB_skip 32 _ _ _ hmem]
          congr 2
          simp only [curOf, List.nil_append]
          rw [List.drop_take]
          simp
        | some a =>
          have ha := hst a rfl
          simp only []
          rw [spans_words l g (pos + k) (some a) acc (by omega) (by omega) (fun b h => by cases h; omega)]
          conv => rhs; rw [hsplit]
          rw [wordsB_skip 32 _ _ _ hmem]
          congr 2
          simp only [curOf]
          rw [List.take_add, List.drop_append_of_le_length (by simp; omega)]
    · have hpe : pos = l.length := by omega
      rw [Lib.spansFromP_end _ _ _ _ _ _ (by simp [ByteArray.size]; omega)]
      subst hpe
      cases st with
      | none => simp [Lib.closeSpans, curOf, wordsB]
      | some a =>
        have ha := hst a rfl
        have hne : ((l.take l.length).drop a).isEmpty = false := by
          have : 0 < ((l.take l.length).drop a).length := by simp; omega
          cases h : (l.take l.length).drop a with
          | nil => rw [h] at this; simp at this
          | cons => rfl
        simp only [Lib.closeSpans, curOf, List.drop_length, wordsB, hne, Bool.false_eq_true, if_false, List.map_append, List.map_cons, List.map_nil]
        simp [ByteArray.size]
 termination_by f => f
theorem fields_words (l : List UInt8) : (Lib.goFieldsP (fun x => x == 32) ⟨l.toArray⟩).map (·.data.toList) = wordsB 32 [] l := by
  have h := spans_words l (⟨l.toArray⟩ : ByteArray).size 0 none [] (Nat.zero_le _) (by simp [ByteArray.size]) (fun a h => by cases h)
  unfold Lib.goFieldsP Lib.spansOfP
  rw [List.map_map]
  simp only [List.map_nil, List.nil_append, List.drop_zero, curOf] at h
  rw [← h]
  refine List.map_congr_left fun x _ => ?_
  simp only [Function.comp_def]
  rw [Lib.extract_data, List.drop_take]
theorem fields_end {w w' : World} {F : SH} {R : Nat → Prop} {Ts : List Th} (hs : Sep w F R w F Ts) (s : List UInt8) (e : TypeId) {B : Nat}
    (ho : w'.ownsRow w.heap.size e 1 (.slice (some ⟨B, 0, none⟩) (Lib.goFieldsP (fun x => x == 32) ⟨s.toArray⟩).length (Lib.goFieldsP (fun x => x == 32) ⟨s.toArray⟩).length) (Lib.goFieldsP (fun x => x == 32) ⟨s.toArray⟩).length ((Lib.goFieldsP (fun x => x == 32) ⟨s.toArray⟩).map Value.string)) (hx : Below w.heap.size w w') :
    Gives (fun u w' => ∃ (ao1 : Option Addr) (cp1 : Nat) (F' : SH), u = .slice ao1 (wordsB 32 [] s).length cp1 ∧ Sep w F R w' F' [.row e tS (.slice ao1 (wordsB 32 [] s).length cp1) (wordsB 32 [] s)])
      (.returned (.slice (some ⟨B, 0, none⟩) (Lib.goFieldsP (fun x => x == 32) ⟨s.toArray⟩).length (Lib.goFieldsP (fun x => x == 32) ⟨s.toArray⟩).length)) w' := by
  have hm := fields_words s
  have hlen : (Lib.goFieldsP (fun x => x == 32) ⟨s.toArray⟩).length = (wordsB 32 [] s).length := by rw [← hm, List.length_map]
  rw [map_strV hm, hlen] at ho
  rw [hlen]
  refine ⟨_, rfl, some ⟨B, 0, none⟩, (wordsB 32 [] s).length, F, rfl, ?_⟩
  refine (hs.newRow (e := e) (t := tS) ⟨_, ho, reps_strs _, fun k hk => ?_⟩ hx).sel [0] rfl rfl
  have hBk : B = k := by simpa [Value.ownBlock] using hk
  rcases ho.2 with ⟨h1, _⟩ | ⟨g, cap, cur, h1, hb, _⟩
  · cases h1
  · simp only [Value.slice.injEq, Option.some.injEq, Addr.mk.injEq] at h1
    exact frees hs (by omega)
theorem int_beq32 (x : Nat) : ((x : Int) == 32) = (x == 32) := by
  rw [Bool.eq_iff_iff, beq_iff_eq, beq_iff_eq]; omega
theorem pred32 {P : Program} {g : Nat} {w : World} (h : ∀ (W : World) (x : Nat), x ≤ 1114111 → Calls P g #[.int .i32 (x : Int)] W fun e w' => e = .returned (.bool (x == 32)) ∧ ∃ q, w' = W.drewN q) : Go.Proofs.PredAtRunes P g #[] (fun x => x == 32) w := fun W x hx _ => h W x hx
end Dm
