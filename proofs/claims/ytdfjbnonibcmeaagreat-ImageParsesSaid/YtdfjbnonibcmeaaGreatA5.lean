/-
  What the proof of ImageParses leans on, part 5: rules for the walks, plain facts. Conditions stand in each statement.
-/
import Derived.Test.YtdfjbnonibcmeaaGreatA4
namespace Dm
open Go
def tabYo (c : List Int) : List Sym × Int := if c.length % 24 = 0 then (tabY c, 0) else ([], 10)
def tabSo (c : List Int) : List Rel7 × Int := if c.length % 24 = 0 then (tabS c, 0) else ([], 10)
def symC (l : List Seg) (b : List Int) (s : Seg) : List Int × Int := bytesS l b (dv b s 3) (24 * dv b s 4)
def symT (l : List Seg) (b : List Int) (s : Seg) : List Sym := if dv b s 4 = 0 then [] else (tabYo (symC l b s).1).1
def symsE (l : List Seg) (b : List Int) (s : Seg) : Int :=
  if dv b s 4 > 1024 then 13 else if dv b s 4 = 0 then 0 else if (symC l b s).2 = 0 then (if chkY (symT l b s) = 0 then firstE (fun y => (atS (tabT l b s) y.1).2) (symT l b s) else 11) else (symC l b s).2
def symN (l : List Seg) (b : List Int) (s : Seg) : List (List UInt8) := (symT l b s).map fun y => (atS (tabT l b s) y.1).1
def relC (l : List Seg) (b : List Int) (s : Seg) : List Int × Int := bytesS l b (dv b s 5) (dv b s 6)
def relT (l : List Seg) (b : List Int) (s : Seg) : List Rel7 := if dv b s 6 = 0 then [] else (tabSo (relC l b s).1).1
def relsE (l : List Seg) (b : List Int) (s : Seg) (n : Int) : Int :=
  if dv b s 6 > 65536 then 13 else if dv b s 6 = 0 then 0 else if (relC l b s).2 = 0 then (if (tabSo (relC l b s).1).2 = 0 then firstE (errR n) (relT l b s) else (tabSo (relC l b s).1).2) else (relC l b s).2
def totE (l : List Seg) (b : List Int) (s : Seg) : Int := if nmdE l b s = 0 then (if symsE l b s = 0 then relsE l b s ((symT l b s).length : Int) else symsE l b s) else nmdE l b s
theorem firstE_mem {α : Type} {f : α → Int} : ∀ {l : List α}, firstE f l ≠ 0 → ∃ x ∈ l, firstE f l = f x
  | [], h => absurd rfl h
  | x :: xs, h => by
    rw [firstE] at h ⊢
    split
    · rename_i hx
      rw [if_pos hx] at h
      obtain ⟨y, h1, h2⟩ := firstE_mem h
      exact ⟨y, by simp [h1], h2⟩
    · exact ⟨x, by simp, rfl⟩
theorem chkY_cases (l : List Sym) : chkY l = 0 ∨ chkY l = 11 := by
  cases l with
  | nil => exact .inl rfl
  | cons s l =>
    by_cases hn : nilY s = true
    · have e : chkY (s :: l) = firstE errY l := by rw [chkY, if_pos hn]
      rw [e]
      by_cases h : firstE errY l = 0
      · exact .inl h
      · obtain ⟨x, _, hx⟩ := firstE_mem h
        rw [hx] at h ⊢
        unfold errY at h ⊢
        cases hm : mayY x
        · exact .inr (if_neg (by decide))
        · rw [hm] at h
          exact absurd (if_pos rfl) h
    · exact .inr (by rw [chkY, if_neg hn])
theorem symT_wf {b : List Int} (hB : Bytes b) (l : List Seg) (s : Seg) : ∀ y ∈ symT l b s, Wf06 y := by
  unfold symT tabYo
  split
  · intro y h; simp at h
  · split
    · exact wf_tabY (bytesS_bytes hB _ _ _)
    · intro y h; simp at h
theorem symT_len (l : List Seg) (b : List Int) (s : Seg) : (symT l b s).length ≤ b.length := by
  unfold symT tabYo
  split
  · simp
  · split
    · have := len_tabY (symC l b s).1
      have := bytesS_len b l (dv b s 3) (24 * dv b s 4)
      show (tabY (symC l b s).1).length ≤ _
      unfold symC at *
      omega
    · simp
theorem relT_wf {b : List Int} (hB : Bytes b) (l : List Seg) (s : Seg) : ∀ y ∈ relT l b s, Wf07 y := by
  unfold relT tabSo
  split
  · intro y h; simp at h
  · split
    · exact wf_tabS (bytesS_bytes hB _ _ _)
    · intro y h; simp at h
theorem relT_len (l : List Seg) (b : List Int) (s : Seg) : (relT l b s).length ≤ b.length := by
  unfold relT tabSo
  split
  · simp
  · split
    · have := len_tabS (relC l b s).1
      have := bytesS_len b l (dv b s 5) (dv b s 6)
      show (tabS (relC l b s).1).length ≤ _
      unfold relC at *
      omega
    · simp
theorem wf24 {n : Int} (h0 : 0 ≤ n) (h : n ≤ 1024) : InK .u64 (24 * n) := ⟨by show (0 : Int) ≤ _; omega, by show _ ≤ (18446744073709551615 : Int); omega⟩
theorem symbols_run {P : Option (Int × Rdr) → Prop} {l : List Seg} (hl : l.length ≤ 100) (hw : ∀ s ∈ l, Wf04 s) {b : List Int} (hb : b.length ≤ 65536) (hB : Bytes b) {s : Seg} (h : Int × Int × Int × Int) (so : List UInt8) (nd : List (List UInt8)) (rl : List Rel7)
    (hE : ∀ e R', e ≠ 0 → symsE l b s = e → P (some (e, R'))) (hF : symsE l b s = 0 → P (some (0, ((h, l, so, nd, symN l b s, symT l b s, rl, b), infOf (dynX b s), tabT l b s)))) :
    P (image_reader_symbols ((h, l, so, nd, [], [], rl, b), infOf (dynX b s), tabT l b s)) := by
  have hCB := segC_bytes hB s
  have hTl : (tabT l b s).length ≤ b.length := bytesS_len b l (dv b s 1) (dv b s 2)
  have hv : ∀ k, InK .u64 (dv b s k) := fun k => wf_dval hCB k
  have h4 := inK_u64 (hv 4)
  have hTw := symT_wf hB l s
  have hTn := symT_len l b s
  unfold image_reader_symbols
  refine deP (fun h1 => ?_) (fun h1 => ?_)
  · have h1 : dv b s 4 > 1024 := h1
    exact hE _ _ (by decide) (by unfold symsE; rw [if_pos h1])
  have h1 : ¬ dv b s 4 > 1024 := h1
  refine eqP (fun h2 => ?_) (fun h2 => ?_)
  · have h2 : dv b s 4 = 0 := h2
    have e : symT l b s = [] := by unfold symT; rw [if_pos h2]
    have := hF (by unfold symsE; rw [if_neg h1, if_pos h2])
    unfold symN at this
    rw [e] at this
    exact this
  have h2 : dv b s 4 ≠ 0 := h2
  have e24 : IntKind.u64.wrap (24 * dv b s 4) = 24 * dv b s 4 := u64w (by omega)
  refine bdP (x := symC l b s) (by
    show image_reader_at ((h, l, so, nd, [], [], rl, b), infOf (dynX b s), tabT l b s) (dv b s 3) (IntKind.u64.wrap (24 * dv b s 4)) = _
    rw [e24]
    exact at_eq hl hw hb (hv 3) (wf24 (by omega) (by omega)) h so nd [] [] rl _ _) ?_
  have eT : symT l b s = (tabYo (symC l b s).1).1 := by unfold symT; rw [if_neg h2]
  have hCl : (symC l b s).1.length ≤ b.length := bytesS_len b l (dv b s 3) (24 * dv b s 4)
  refine neP (fun h3 => ?_) (fun h3 => ?_)
  rotate_left
  · exact hE _ _ h3 (by unfold symsE; rw [if_neg h1, if_neg h2, if_neg h3])
  refine bdP (x := (symT l b s, (tabYo (symC l b s).1).2)) (by
    rw [eT]
    exact symbols_Table_eq (b := (symC l b s).1) (by omega) (bytesS_bytes hB _ _ _)) ?_
  refine bdP (x := chkY (symT l b s)) (symbols_Check_eq (l := symT l b s) (by omega) hTw) ?_
  refine neP (fun h5 => ?_) (fun h5 => ?_)
  rotate_left
  · rw [(chkY_cases _).resolve_left h5]
    exact hE _ _ (by decide) (by unfold symsE; rw [if_neg h1, if_neg h2, if_pos h3, if_neg h5])
  have e : symsE l b s = firstE (fun y => (atS (tabT l b s) y.1).2) (symT l b s) := by unfold symsE; rw [if_neg h1, if_neg h2, if_pos h3, if_pos h5]
  refine jnC (fun R => symsE l b s = 0 ∧ R = ((h, l, so, nd, symN l b s, symT l b s, rl, b), infOf (dynX b s), tabT l b s)) ?_ (fun kk hkk => ?_)
  · rintro _ ⟨h0, rfl⟩
    exact hF h0
  refine scan_Q (symT l b s) (by omega) (fun y => (atS (tabT l b s) y.1).2)
    (fun i => ((i : Int), ((h, l, so, nd, ((symT l b s).take i).map (fun y => (atS (tabT l b s) y.1).1), symT l b s, rl, b), infOf (dynX b s), tabT l b s)))
    (kk ((h, l, so, nd, symN l b s, symT l b s, rl, b), infOf (dynX b s), tabT l b s))
    (fun i e => some (e, ((h, l, so, nd, ((symT l b s).take i).map (fun y => (atS (tabT l b s) y.1).1), symT l b s, rl, b), infOf (dynX b s), tabT l b s))) rfl
    (fun hz => hkk _ ⟨by rw [e, hz], rfl⟩) (fun k hz => hE _ _ hz e) (fun i rec hi Q q0 q1 => ?_) (fun rec Q q => ?_)
  · have hda := inK_u32 (hTw _ (List.getElem_mem hi)).1
    have hgi : gt (symT l b s) (i : Int) = (symT l b s)[i] := gt_nat hi
    refine tP (dif_lt hi) ?_
    refine gdP (by show (0 : Int) ≤ i ∧ (i : Int) < (((symT l b s).length : Nat) : Int); omega) ?_
    refine bdP (by show names_At (tabT l b s) (IntKind.u64.wrap ((gt (symT l b s) (i : Int)).1)) = _; rw [hgi, u64w (by omega)]; exact names_At_eq (by omega) (by omega)) ?_
    refine neP (fun h6 => ?_) (fun h6 => ?_)
    · refine gdP (by show ((((symT l b s).take i).map _).length + 1) * 16 ≤ _; rw [List.length_map, List.length_take]; omega) ?_
      have q := q0 h6
      rw [← i64s (by omega), take_succ hi, List.map_append, List.map_singleton] at q
      exact q
    · exact q1 h6
  · refine fP (by show ¬ decide ((((symT l b s).length : Nat) : Int) < (((symT l b s).length : Nat) : Int)) = true; simp) ?_
    rw [List.take_length]
    exact q
theorem relocations_run {P : Option (Int × Rdr) → Prop} {l : List Seg} (hl : l.length ≤ 100) (hw : ∀ s ∈ l, Wf04 s) {b : List Int} (hb : b.length ≤ 65536) (hB : Bytes b) {s : Seg} (h : Int × Int × Int × Int) (so : List UInt8) (nd nm : List (List UInt8)) {sy : List Sym} (hsy : sy.length ≤ 1000000)
    (hE : ∀ e R', e ≠ 0 → relsE l b s (sy.length : Int) = e → P (some (e, R'))) (hF : relsE l b s (sy.length : Int) = 0 → P (some (0, ((h, l, so, nd, nm, sy, relT l b s, b), infOf (dynX b s), tabT l b s)))) :
    P (image_reader_relocations ((h, l, so, nd, nm, sy, [], b), infOf (dynX b s), tabT l b s)) := by
  have hCB := segC_bytes hB s
  have hv : ∀ k, InK .u64 (dv b s k) := fun k => wf_dval hCB k
  have hTw := relT_wf hB l s
  have hTn := relT_len l b s
  unfold image_reader_relocations
  refine deP (fun h1 => ?_) (fun h1 => ?_)
  · have h1 : dv b s 6 > 65536 := h1
    exact hE _ _ (by decide) (by unfold relsE; rw [if_pos h1])
  have h1 : ¬ dv b s 6 > 65536 := h1
  refine eqP (fun h2 => ?_) (fun h2 => ?_)
  · have h2 : dv b s 6 = 0 := h2
    have e : relT l b s = [] := by unfold relT; rw [if_pos h2]
    have := hF (by unfold relsE; rw [if_neg h1, if_pos h2])
    rw [e] at this
    exact this
  have h2 : dv b s 6 ≠ 0 := h2
  refine bdP (x := relC l b s) (at_eq hl hw hb (hv 5) (hv 6) h so nd nm sy [] _ _) ?_
  have eT : relT l b s = (tabSo (relC l b s).1).1 := by unfold relT; rw [if_neg h2]
  have hCl : (relC l b s).1.length ≤ b.length := bytesS_len b l (dv b s 5) (dv b s 6)
  refine neP (fun h3 => ?_) (fun h3 => ?_)
  rotate_left
  · exact hE _ _ h3 (by unfold relsE; rw [if_neg h1, if_neg h2, if_neg h3])
  refine bdP (x := (relT l b s, (tabSo (relC l b s).1).2)) (by
    rw [eT]
    exact rela_Table_eq (b := (relC l b s).1) (by omega) (bytesS_bytes hB _ _ _)) ?_
  refine neP (fun h4 => ?_) (fun h4 => ?_)
  rotate_left
  · exact hE _ _ h4 (by unfold relsE; rw [if_neg h1, if_neg h2, if_pos h3, if_neg h4])
  refine bdP (x := firstE (errR (sy.length : Int)) (relT l b s)) (by
    exact rela_Check_eq (l := relT l b s) (symbols := (sy.length : Int)) (by omega) hTw ⟨by show (-9223372036854775808 : Int) ≤ _; omega, by show _ ≤ (9223372036854775807 : Int); omega⟩) ?_
  have e : relsE l b s (sy.length : Int) = firstE (errR (sy.length : Int)) (relT l b s) := by unfold relsE; rw [if_neg h1, if_neg h2, if_pos h3, if_pos h4]
  by_cases hz : firstE (errR (sy.length : Int)) (relT l b s) = 0
  · rw [hz]
    exact hF (by rw [e, hz])
  · exact hE _ _ hz e
end Dm

namespace Dm
open Go
theorem gt_vals7 {v : Dvs} (hv : v.length = 7) {k : Nat} (hk : k < 7) : gt (vals7 v) (k : Int) = dval v k := by
  obtain ⟨a0, a1, a2, a3, a4, a5, a6, rfl⟩ := seven hv
  have : k = 0 ∨ k = 1 ∨ k = 2 ∨ k = 3 ∨ k = 4 ∨ k = 5 ∨ k = 6 := by omega
  rcases this with rfl | rfl | rfl | rfl | rfl | rfl | rfl <;> rfl
theorem rnamed_run {P : Option (Img × Int) → Prop} {l : List Seg} (hl : l.length ≤ 100) (hw : ∀ s ∈ l, Wf04 s) {b : List Int} (hb : b.length ≤ 65536) (hB : Bytes b) {s : Seg} (hs : Wf04 s) (h : Int × Int × Int × Int)
    (hE : ∀ e y, e ≠ 0 → totE l b s = e → P (some (y, e))) (hF : totE l b s = 0 → P (some ((h, l, soV (tabT l b s) (dv b s 0), nmdN l b s, symN l b s, symT l b s, relT l b s, b), 0))) :
    P (ref09_named (h, l, [], [], [], [], [], b) s) := by
  have hCB := segC_bytes hB s
  have hCl := segC_len b s
  have hTl : (tabT l b s).length ≤ b.length := bytesS_len b l (dv b s 1) (dv b s 2)
  have hD := wf_dynG hCB
  have hDn : (dynX b s).1.length ≤ (segC b s).length + 1 := len_dynG (segC b s)
  have hv : ∀ k, InK .u64 (dv b s k) := fun k => wf_dval hCB k
  have hv4 := inK_u64 (hv 4)
  have h7 : (dynX b s).2.length = 7 := dynF_len _ _ _ _ _ rfl
  have h7l : (vals7 (dynX b s).2).length = 7 := by unfold vals7; rw [List.length_map, h7]
  have g0 : gt (vals7 (dynX b s).2) 0 = dv b s 0 := gt_vals7 h7 (k := 0) (by omega)
  have g1 : gt (vals7 (dynX b s).2) 1 = dv b s 1 := gt_vals7 h7 (k := 1) (by omega)
  have g2 : gt (vals7 (dynX b s).2) 2 = dv b s 2 := gt_vals7 h7 (k := 2) (by omega)
  have g3 : gt (vals7 (dynX b s).2) 3 = dv b s 3 := gt_vals7 h7 (k := 3) (by omega)
  have g4 : gt (vals7 (dynX b s).2) 4 = dv b s 4 := gt_vals7 h7 (k := 4) (by omega)
  have g5 : gt (vals7 (dynX b s).2) 5 = dv b s 5 := gt_vals7 h7 (k := 5) (by omega)
  have g6 : gt (vals7 (dynX b s).2) 6 = dv b s 6 := gt_vals7 h7 (k := 6) (by omega)
  have hg : ∀ k : Int, 0 ≤ k → k < 7 → (0 : Int) ≤ k ∧ k < (((vals7 (dynX b s).2).length : Nat) : Int) := fun k a c => by rw [h7l]; omega
  have nE : ∀ e, e ≠ 0 → nmdE l b s = e → ∀ y, P (some (y, e)) := fun e h0 he y => hE e y h0 (by unfold totE; rw [he, if_neg h0])
  unfold ref09_named
  refine bdP (ref01_Cut_eq (by show b.length ≤ _; omega) (inK_u64 hs.2.2.1).1 (inK_u64 hs.2.2.2.2.1).1) ?_
  refine bdP (x := (rnfOf (dynX b s), dynE b s)) (ref05_Get_eq (b := segC b s) (by omega) hCB) ?_
  refine neP (fun h1 => ?_) (fun h1 => ?_)
  rotate_left
  · exact nE _ h1 (by unfold nmdE; rw [if_neg h1]) _
  have h1 : dynE b s = 0 := h1
  refine gdP (hg 1 (by omega) (by omega)) ?_
  refine gdP (hg 2 (by omega) (by omega)) ?_
  refine bdP (x := (tabT l b s, tabTE l b s)) (by
    show ref09_bytes (h, l, [], [], [], [], [], b) (gt (vals7 (dynX b s).2) 1) (gt (vals7 (dynX b s).2) 2) = _
    rw [g1, g2]
    exact bytes_eq hl hw hb (hv 1) (hv 2) h [] [] [] [] []) ?_
  refine neP (fun h2 => ?_) (fun h2 => ?_)
  rotate_left
  · have h2 : tabTE l b s ≠ 0 := h2
    exact nE _ h2 (by unfold nmdE; rw [if_pos h1, if_neg h2]) _
  have h2 : tabTE l b s = 0 := h2
  refine bdP (ref02_Check_eq (t := tabT l b s) (by omega)) ?_
  refine neP (fun h3 => ?_) (fun h3 => ?_)
  rotate_left
  · exact nE _ (by decide) (by unfold nmdE; rw [if_pos h1, if_pos h2, if_neg h3]) _
  refine gdP (hg 0 (by omega) (by omega)) ?_
  refine jnC (fun R => soE (tabT l b s) (dv b s 0) = 0 ∧ R = (h, l, soV (tabT l b s) (dv b s 0), [], [], [], [], b)) ?_ (fun kk hkk => ?_)
  · rintro _ ⟨hso, rfl⟩
    have e : nmdE l b s = firstE (nameE (tabT l b s)) (dynX b s).1 := by unfold nmdE; rw [if_pos h1, if_pos h2, if_pos h3, if_pos hso]
    refine jnC (fun R => nmdE l b s = 0 ∧ R = (h, l, soV (tabT l b s) (dv b s 0), nmdN l b s, [], [], [], b)) ?_ (fun kk hkk => ?_)
    · rintro _ ⟨hn0, rfl⟩
      have sE : ∀ e, e ≠ 0 → symsE l b s = e → ∀ y, P (some (y, e)) := fun e h0 he y => hE e y h0 (by unfold totE; rw [if_pos hn0, he, if_neg h0])
      have hTw := symT_wf hB l s
      have hTn := symT_len l b s
      refine gdP (hg 4 (by omega) (by omega)) ?_
      refine deP (fun c1 => ?_) (fun c1 => ?_)
      · have c1 : dv b s 4 > 1024 := by rw [← g4]; exact c1
        exact sE _ (by decide) (by unfold symsE; rw [if_pos c1]) _
      have c1 : ¬ dv b s 4 > 1024 := by rw [← g4]; exact c1
      refine gdP (hg 4 (by omega) (by omega)) ?_
      refine jnC (fun R => symsE l b s = 0 ∧ R = (h, l, soV (tabT l b s) (dv b s 0), nmdN l b s, symN l b s, symT l b s, [], b)) ?_ (fun kk hkk => ?_)
      · rintro _ ⟨hs0, rfl⟩
        have rE : ∀ e, e ≠ 0 → relsE l b s ((symT l b s).length : Int) = e → ∀ y, P (some (y, e)) := fun e h0 he y => hE e y h0 (by unfold totE; rw [if_pos hn0, if_pos hs0, he])
        have hF' : relsE l b s ((symT l b s).length : Int) = 0 → P (some ((h, l, soV (tabT l b s) (dv b s 0), nmdN l b s, symN l b s, symT l b s, relT l b s, b), 0)) := fun h0 => hF (by unfold totE; rw [if_pos hn0, if_pos hs0, h0])
        have hRw := relT_wf hB l s
        have hRn := relT_len l b s
        refine gdP (hg 6 (by omega) (by omega)) ?_
        refine deP (fun d1 => ?_) (fun d1 => ?_)
        · have d1 : dv b s 6 > 65536 := by rw [← g6]; exact d1
          exact rE _ (by decide) (by unfold relsE; rw [if_pos d1]) _
        have d1 : ¬ dv b s 6 > 65536 := by rw [← g6]; exact d1
        refine gdP (hg 6 (by omega) (by omega)) ?_
        refine deP (fun d2 => ?_) (fun d2 => ?_)
        rotate_left
        · have d2 : ¬ dv b s 6 > 0 := by rw [← g6]; exact d2
          have d2 : dv b s 6 = 0 := by have := inK_u64 (hv 6); omega
          have e : relT l b s = [] := by unfold relT; rw [if_pos d2]
          have := hF' (by unfold relsE; rw [if_neg d1, if_pos d2])
          rw [e] at this
          exact this
        have d2 : dv b s 6 > 0 := by rw [← g6]; exact d2
        have d2 : dv b s 6 ≠ 0 := by omega
        have eT : relT l b s = (tabSo (relC l b s).1).1 := by unfold relT; rw [if_neg d2]
        have hCl : (relC l b s).1.length ≤ b.length := bytesS_len b l (dv b s 5) (dv b s 6)
        refine gdP (hg 5 (by omega) (by omega)) ?_
        refine gdP (hg 6 (by omega) (by omega)) ?_
        refine bdP (x := relC l b s) (by
          show ref09_bytes (h, l, soV (tabT l b s) (dv b s 0), nmdN l b s, symN l b s, symT l b s, [], b) (gt (vals7 (dynX b s).2) 5) (gt (vals7 (dynX b s).2) 6) = _
          rw [g5, g6]
          exact bytes_eq hl hw hb (hv 5) (hv 6) h _ _ _ _ _) ?_
        refine neP (fun h3 => ?_) (fun h3 => ?_)
        rotate_left
        · exact rE _ h3 (by unfold relsE; rw [if_neg d1, if_neg d2, if_neg h3]) _
        refine bdP (x := (relT l b s, (tabSo (relC l b s).1).2)) (by
          rw [eT]
          exact ref07_Table_eq (b := (relC l b s).1) (by omega) (bytesS_bytes hB _ _ _)) ?_
        refine neP (fun h4 => ?_) (fun h4 => ?_)
        rotate_left
        · exact rE _ h4 (by unfold relsE; rw [if_neg d1, if_neg d2, if_pos h3, if_neg h4]) _
        refine bdP (x := firstE (errR ((symT l b s).length : Int)) (relT l b s)) (by
          exact ref07_Check_eq (l := relT l b s) (symbols := ((symT l b s).length : Int)) (by omega) hRw ⟨by show (-9223372036854775808 : Int) ≤ _; omega, by show _ ≤ (9223372036854775807 : Int); omega⟩) ?_
        have e : relsE l b s ((symT l b s).length : Int) = firstE (errR ((symT l b s).length : Int)) (relT l b s) := by unfold relsE; rw [if_neg d1, if_neg d2, if_pos h3, if_pos h4]
        by_cases hz : firstE (errR ((symT l b s).length : Int)) (relT l b s) = 0
        · rw [hz]
          exact hF' (by rw [e, hz])
        · exact rE _ hz e _
      refine deP (fun c2 => ?_) (fun c2 => ?_)
      rotate_left
      · have c2 : ¬ dv b s 4 > 0 := by rw [← g4]; exact c2
        have c2 : dv b s 4 = 0 := by omega
        have e : symT l b s = [] := by unfold symT; rw [if_pos c2]
        refine hkk _ ⟨by unfold symsE; rw [if_neg c1, if_pos c2], ?_⟩
        unfold symN
        rw [e]
        rfl
      have c2 : dv b s 4 > 0 := by rw [← g4]; exact c2
      have c2 : dv b s 4 ≠ 0 := by omega
      have e24 : IntKind.u64.wrap (24 * dv b s 4) = 24 * dv b s 4 := u64w (by omega)
      have eT : symT l b s = (tabYo (symC l b s).1).1 := by unfold symT; rw [if_neg c2]
      have hCl : (symC l b s).1.length ≤ b.length := bytesS_len b l (dv b s 3) (24 * dv b s 4)
      refine gdP (hg 3 (by omega) (by omega)) ?_
      refine gdP (hg 4 (by omega) (by omega)) ?_
      refine bdP (x := symC l b s) (by
        show ref09_bytes (h, l, soV (tabT l b s) (dv b s 0), nmdN l b s, [], [], [], b) (gt (vals7 (dynX b s).2) 3) (IntKind.u64.wrap (24 * gt (vals7 (dynX b s).2) 4)) = _
        rw [g3, g4, e24]
        exact bytes_eq hl hw hb (hv 3) (wf24 (by omega) (by omega)) h _ _ _ _ _) ?_
      refine neP (fun h3 => ?_) (fun h3 => ?_)
      rotate_left
      · exact sE _ h3 (by unfold symsE; rw [if_neg c1, if_neg c2, if_neg h3]) _
      refine bdP (x := (symT l b s, (tabYo (symC l b s).1).2)) (by
        rw [eT]
        exact ref06_Table_eq (b := (symC l b s).1) (by omega) (bytesS_bytes hB _ _ _)) ?_
      refine bdP (x := chkY (symT l b s)) (ref06_Check_eq (l := symT l b s) (by omega) hTw) ?_
      refine neP (fun h5 => ?_) (fun h5 => ?_)
      rotate_left
      · exact sE _ (by decide) (by unfold symsE; rw [if_neg c1, if_neg c2, if_pos h3, if_neg h5]) _
      have e : symsE l b s = firstE (fun y => (atS (tabT l b s) y.1).2) (symT l b s) := by unfold symsE; rw [if_neg c1, if_neg c2, if_pos h3, if_pos h5]
      refine jnC (fun R => symsE l b s = 0 ∧ R = (h, l, soV (tabT l b s) (dv b s 0), nmdN l b s, symN l b s, symT l b s, [], b)) ?_ (fun k4 hk4 => ?_)
      · rintro _ ⟨h0, rfl⟩
        exact hkk _ ⟨h0, rfl⟩
      refine scan_Q (symT l b s) (by omega) (fun y => (atS (tabT l b s) y.1).2)
        (fun i => ((i : Int), (h, l, soV (tabT l b s) (dv b s 0), nmdN l b s, ((symT l b s).take i).map (fun y => (atS (tabT l b s) y.1).1), symT l b s, [], b)))
        (k4 (h, l, soV (tabT l b s) (dv b s 0), nmdN l b s, symN l b s, symT l b s, [], b))
        (fun i e => some ((h, l, soV (tabT l b s) (dv b s 0), nmdN l b s, ((symT l b s).take i).map (fun y => (atS (tabT l b s) y.1).1), symT l b s, [], b), e)) rfl
        (fun hz => hk4 _ ⟨by rw [e, hz], rfl⟩) (fun k hz => sE _ hz e _) (fun i rec hi Q q0 q1 => ?_) (fun rec Q q => ?_)
      · have hda := inK_u32 (hTw _ (List.getElem_mem hi)).1
        have hgi : gt (symT l b s) (i : Int) = (symT l b s)[i] := gt_nat hi
        refine tP (dif_lt hi) ?_
        refine gdP (by show (0 : Int) ≤ i ∧ (i : Int) < (((symT l b s).length : Nat) : Int); omega) ?_
        refine bdP (by show ref02_At (tabT l b s) (IntKind.u64.wrap ((gt (symT l b s) (i : Int)).1)) = _; rw [hgi, u64w (by omega)]; exact ref02_At_eq (by omega) (by omega)) ?_
        refine neP (fun h6 => ?_) (fun h6 => ?_)
        · refine gdP (by show ((((symT l b s).take i).map _).length + 1) * 16 ≤ _; rw [List.length_map, List.length_take]; omega) ?_
          refine letP ?_
          have q := q0 h6
          rw [← i64s (by omega), take_succ hi, List.map_append, List.map_singleton] at q
          exact q
        · exact q1 h6
      · refine fP (by show ¬ decide ((((symT l b s).length : Nat) : Int) < (((symT l b s).length : Nat) : Int)) = true; simp) ?_
        rw [List.take_length]
        exact q
    refine scan_Q (dynX b s).1 (by omega) (nameE (tabT l b s))
      (fun i => ((i : Int), (h, l, soV (tabT l b s) (dv b s 0), ((dynX b s).1.take i).map (fun a => (atS (tabT l b s) a).1), [], [], [], b)))
      (kk (h, l, soV (tabT l b s) (dv b s 0), nmdN l b s, [], [], [], b))
      (fun i e => some ((h, l, soV (tabT l b s) (dv b s 0), ((dynX b s).1.take i).map (fun a => (atS (tabT l b s) a).1), [], [], [], b), e)) rfl
      (fun hz => hkk _ ⟨by rw [e, hz], rfl⟩) (fun k hz => nE _ hz e _) (fun i rec hi Q q0 q1 => ?_) (fun rec Q q => ?_)
    · have hda := hD.1 _ (List.getElem_mem hi)
      have hgi : gt (dynX b s).1 (i : Int) = (dynX b s).1[i] := gt_nat hi
      refine tP (dif_lt hi) ?_
      refine gdP (by show (0 : Int) ≤ i ∧ (i : Int) < (((dynX b s).1.length : Nat) : Int); omega) ?_
      refine bdP (by show ref02_At (tabT l b s) (gt (dynX b s).1 (i : Int)) = _; rw [hgi]; exact ref02_At_eq (by omega) (inK_u64 hda).1) ?_
      refine neP (fun h4 => ?_) (fun h4 => ?_)
      · have h4 : (atS (tabT l b s) (dynX b s).1[i]).2 = 0 := h4
        refine ifP (fun h5 => ?_) (fun h5 => ?_)
        · have h5 : (atS (tabT l b s) (dynX b s).1[i]).1 = [] := by simpa using h5
          have hE : nameE (tabT l b s) (dynX b s).1[i] = 11 := by unfold nameE; rw [if_pos h4, if_pos h5]
          rw [hE] at q1
          exact q1 (by decide)
        · have h5 : (atS (tabT l b s) (dynX b s).1[i]).1 ≠ [] := by simpa using h5
          have hE : nameE (tabT l b s) (dynX b s).1[i] = 0 := by unfold nameE; rw [if_pos h4, if_neg h5]
          refine gdP (by show ((((dynX b s).1.take i).map _).length + 1) * 16 ≤ _; rw [List.length_map, List.length_take]; omega) ?_
          refine letP ?_
          have q := q0 hE
          rw [← i64s (by omega), take_succ hi, List.map_append, List.map_singleton] at q
          exact q
      · have h4 : (atS (tabT l b s) (dynX b s).1[i]).2 ≠ 0 := h4
        have hE : nameE (tabT l b s) (dynX b s).1[i] = (atS (tabT l b s) (dynX b s).1[i]).2 := by unfold nameE; rw [if_neg h4]
        rw [hE] at q1
        exact q1 h4
    · refine fP (by show ¬ decide ((((dynX b s).1.length : Nat) : Int) < (((dynX b s).1.length : Nat) : Int)) = true; simp) ?_
      rw [List.take_length]
      exact q
  refine neP (fun h6 => ?_) (fun h6 => ?_)
  · have h6 : dv b s 0 = 0 := by rw [← g0]; exact h6
    refine hkk _ ⟨by unfold soE; rw [if_pos h6], ?_⟩
    unfold soV; rw [if_pos h6]
  · have h6 : dv b s 0 ≠ 0 := by rw [← g0]; exact h6
    refine gdP (hg 0 (by omega) (by omega)) ?_
    refine bdP (by show ref02_At (tabT l b s) (gt (vals7 (dynX b s).2) 0) = _; rw [g0]; exact ref02_At_eq (t := tabT l b s) (by omega) (inK_u64 (hv 0)).1) ?_
    refine neP (fun h7 => ?_) (fun h7 => ?_)
    · refine hkk _ ⟨by unfold soE; rw [if_neg h6]; exact h7, ?_⟩
      unfold soV; rw [if_neg h6]
    · have hso : soE (tabT l b s) (dv b s 0) = (atS (tabT l b s) (dv b s 0)).2 := by unfold soE; rw [if_neg h6]
      have h7 : (atS (tabT l b s) (dv b s 0)).2 ≠ 0 := h7
      exact nE _ h7 (by unfold nmdE; rw [if_pos h1, if_pos h2, if_pos h3, hso, if_neg h7]) _
end Dm

namespace Dm
open Go
def imgH (b : List Int) : Int × Int × Int × Int := (getHS b).1
def imgL (b : List Int) : List Seg := (tabSS b (imgH b).2.2.1 (imgH b).2.2.2).1
def imgLE (b : List Int) : Int := (tabSS b (imgH b).2.2.1 (imgH b).2.2.2).2
def imgD (b : List Int) : Option Seg := (findS (imgL b) 2).map fun k => (imgL b).getD k default
def shE (b : List Int) : Int :=
  if (getHS b).2 = 0 then (if (imgH b).1 = 4 then 11 else if imgLE b = 0 then (if checkSS (b.length : Int) (imgL b) = 0 then (if (findS (imgL b) 1).isSome then 0 else 11) else checkSS (b.length : Int) (imgL b)) else imgLE b) else (getHS b).2
def bodE (b : List Int) : Int := match imgD b with
  | none => heldS (imgL b) [] []
  | some s => if totE (imgL b) b s = 0 then heldS (imgL b) (symT (imgL b) b s) (relT (imgL b) b s) else totE (imgL b) b s
def imgE (b : List Int) : Int := if b.length > 65536 then 13 else if shE b = 0 then bodE b else shE b
def imgV (b : List Int) : Img := match imgD b with
  | none => (imgH b, imgL b, [], [], [], [], [], b)
  | some s => (imgH b, imgL b, soV (tabT (imgL b) b s) (dv b s 0), nmdN (imgL b) b s, symN (imgL b) b s, symT (imgL b) b s, relT (imgL b) b s, b)
def img0 : Img := ((0, 0, 0, 0), [], [], [], [], [], [], [])
theorem imgH_wf {b : List Int} (hB : Bytes b) : 0 ≤ (imgH b).2.2.1 ∧ InK .i64 (imgH b).2.2.2 := by
  have k1 := inK_u64 (cu8 hB 32)
  have k2 := inK_u16 (cu2 hB 56)
  unfold imgH getHS
  split
  · exact ⟨by decide, by decide⟩
  · split
    · exact ⟨k1.1, by show (-9223372036854775808 : Int) ≤ le (cu b 56 2); omega, by show le (cu b 56 2) ≤ (9223372036854775807 : Int); omega⟩
    · exact ⟨by decide, by decide⟩
theorem imgL_len (b : List Int) : (imgL b).length ≤ 100 := by have := tabSS_len b (imgH b).2.2.1 (imgH b).2.2.2; unfold imgL; omega
theorem imgL_wf {b : List Int} (hB : Bytes b) : ∀ s ∈ imgL b, Wf04 s := wf_tabSS hB _ _
theorem imgD_mem {b : List Int} {s : Seg} (h : imgD b = some s) : s ∈ imgL b ∧ s.1 = 2 := by
  unfold imgD at h
  rw [Option.map_eq_some_iff] at h
  obtain ⟨k, h1, rfl⟩ := h
  obtain ⟨h2, h3⟩ := fI_some h1
  have e : (imgL b).getD k default = (imgL b)[k] := by rw [List.getD_eq_getElem?_getD, List.getElem?_eq_getElem h2]; rfl
  rw [e]
  exact ⟨List.getElem_mem h2, by simpa using h3⟩
theorem cut_ok {b : List Int} {s : Seg} (hs : Wf04 s) (ho : oneS (b.length : Int) s = 0) (h0 : s.1 ≠ 0) : (cutP b s.2.2.1 s.2.2.2.2.1).2 = 0 := by
  have := oneS_zero ho h0
  unfold cutP
  rw [if_pos]
  unfold insB
  rw [Bool.and_eq_true, decide_eq_true_eq, decide_eq_true_eq]
  exact ⟨this.1, this.2.1⟩
theorem shape_run {P : Option (Int × Rdr) → Prop} {b : List Int} (hb : b.length ≤ 65536) (hB : Bytes b) (inf : Inf) (tb : List Int)
    (hE : ∀ e R', e ≠ 0 → shE b = e → P (some (e, R'))) (hF : shE b = 0 → P (some (0, ((imgH b, imgL b, [], [], [], [], [], b), inf, tb)))) :
    P (image_reader_shape (((0, 0, 0, 0), [], [], [], [], [], [], b), inf, tb)) := by
  have hl := imgL_len b
  have hw := imgL_wf hB
  have hh := imgH_wf hB
  unfold image_reader_shape
  refine bdP (x := (imgH b, (getHS b).2)) (head_Get_eq (by show b.length ≤ _; omega) hB) ?_
  refine neP (fun h1 => ?_) (fun h1 => ?_)
  rotate_left
  · have h1 : (getHS b).2 ≠ 0 := h1
    exact hE _ _ h1 (by unfold shE; rw [if_neg h1])
  have h1 : (getHS b).2 = 0 := h1
  refine eqP (fun h2 => ?_) (fun h2 => ?_)
  · have h2 : (imgH b).1 = 4 := h2
    exact hE _ _ (by decide) (by unfold shE; rw [if_pos h1, if_pos h2])
  have h2 : (imgH b).1 ≠ 4 := h2
  refine bdP (x := (imgL b, imgLE b)) (segs_Table_eq (by show b.length ≤ _; omega) hB hh.1 hh.2) ?_
  refine neP (fun h3 => ?_) (fun h3 => ?_)
  rotate_left
  · have h3 : imgLE b ≠ 0 := h3
    exact hE _ _ h3 (by unfold shE; rw [if_pos h1, if_neg h2, if_neg h3])
  have h3 : imgLE b = 0 := h3
  have hz : InK .u64 (b.length : Int) := ⟨by show (0 : Int) ≤ _; omega, by show _ ≤ (18446744073709551615 : Int); omega⟩
  refine bdP (x := checkSS (b.length : Int) (imgL b)) (by
    show segs_Check (imgL b) (IntKind.u64.wrap ((b.length : Nat) : Int)) = _
    rw [u64w (by omega)]
    exact segs_Check_eq (by omega) hw hz) ?_
  refine neP (fun h4 => ?_) (fun h4 => ?_)
  rotate_left
  · exact hE _ _ h4 (by unfold shE; rw [if_pos h1, if_neg h2, if_pos h3, if_neg h4])
  refine bdP (segs_Find_eq (l := imgL b) (by omega) 1) ?_
  cases hf : findS (imgL b) 1 with
  | none => exact hE _ _ (by decide) (by unfold shE; rw [if_pos h1, if_neg h2, if_pos h3, if_pos h4, hf]; rfl)
  | some k => exact hF (by unfold shE; rw [if_pos h1, if_neg h2, if_pos h3, if_pos h4, hf]; rfl)
theorem shE_good {b : List Int} (h : shE b = 0) : (∀ s ∈ imgL b, oneS (b.length : Int) s = 0) := by
  unfold shE at h
  split at h
  · split at h
    · cases h
    · split at h
      · split at h
        · rename_i hc; exact (good_of hc).one
        · rename_i hc; exact absurd h hc
      · rename_i hc; exact absurd h hc
  · rename_i hc; exact absurd h hc
theorem parse_run {P : Option (Img × Int) → Prop} {b : List Int} (hb : b.length ≤ 100000) (hB : Bytes b)
    (hE : ∀ e, e ≠ 0 → imgE b = e → P (some (img0, e))) (hF : imgE b = 0 → P (some (imgV b, 0))) : P (image_Parse b) := by
  unfold image_Parse
  refine deP (fun h1 => ?_) (fun h1 => ?_)
  · exact hE _ (by decide) (by unfold imgE; rw [if_pos (by omega)])
  have h1 : ¬ b.length > 65536 := by omega
  have hl := imgL_len b
  have hw := imgL_wf hB
  refine bdP (x := b) (by unfold slices_Clone_byte_byte; exact gd_pos (by omega)) ?_
  refine shape_run (P := fun r => P (Option.bind r _)) (by omega) hB _ _ (fun e R' h0 h2 => ?_) (fun h2 => ?_)
  · refine bdP rfl ?_
    refine neP (fun h3 => absurd h3 h0) (fun _ => ?_)
    exact hE _ h0 (by unfold imgE; rw [if_neg h1, h2, if_neg h0])
  refine bdP rfl ?_
  refine neP (fun _ => ?_) (fun h3 => absurd rfl h3)
  have hgood := shE_good h2
  have eI : imgE b = bodE b := by unfold imgE; rw [if_neg h1, if_pos h2]
  refine bdP (segs_Find_eq (l := imgL b) (by omega) 2) ?_
  cases hf : findS (imgL b) 2 with
  | none =>
    have hD : imgD b = none := by unfold imgD; rw [hf]; rfl
    have eB : bodE b = heldS (imgL b) [] [] := by unfold bodE; rw [hD]
    refine fP (by simp) ?_
    refine jnC (fun _ => imgE b = 0) ?_ (fun kk hkk => ?_)
    · intro _ h0
      have := hF h0
      unfold imgV at this
      rw [hD] at this
      exact this
    refine bdP (sound_eq (l := imgL b) (by omega) hw (sy := []) (by simp) (by simp) (rl := []) (by simp) (by simp) _ _ _ _ _ _ _) ?_
    refine neP (fun h3 => ?_) (fun h3 => ?_)
    · exact hkk _ (by rw [eI, eB, h3])
    · exact hE _ h3 (by rw [eI, eB])
  | some k =>
    have hD : imgD b = some ((imgL b).getD k default) := by unfold imgD; rw [hf]; rfl
    obtain ⟨hm, ht⟩ := imgD_mem hD
    generalize hsg : (imgL b).getD k default = s at hD hm ht
    have hs := hw s hm
    have eB : bodE b = if totE (imgL b) b s = 0 then heldS (imgL b) (symT (imgL b) b s) (relT (imgL b) b s) else totE (imgL b) b s := by unfold bodE; rw [hD]
    have hTw := symT_wf hB (imgL b) s
    have hTn := symT_len (imgL b) b s
    have hRw := relT_wf hB (imgL b) s
    have hRn := relT_len (imgL b) b s
    have tE : ∀ e, e ≠ 0 → totE (imgL b) b s = e → P (some (img0, e)) := fun e h0 he => hE e h0 (by rw [eI, eB, he, if_neg h0])
    refine tP rfl ?_
    refine jnC (fun R => imgE b = 0 ∧ R.1 = imgV b) ?_ (fun kk hkk => ?_)
    · rintro ⟨R, inf, tb⟩ ⟨h0, rfl⟩
      exact hF h0
    unfold image_Parse_1_b
    dsimp only
    rw [hsg]
    refine named_run (P := fun r => P (Option.bind (Option.bind r _) _)) (by omega) hw (by omega) hB hs (cut_ok hs (hgood s hm) (by omega)) _ _ _ _ _ _ (fun e R' h0 he => ?_) (fun he => ?_)
    · refine bdP (m := Option.bind _ _) rfl ?_
      refine neP (fun h3 => absurd h3 h0) (fun _ => ?_)
      exact tE _ h0 (by unfold totE; rw [he, if_neg h0])
    refine bdP (m := Option.bind _ _) rfl ?_
    refine neP (fun _ => ?_) (fun h3 => absurd rfl h3)
    refine symbols_run (P := fun r => P (Option.bind r _)) (by omega) hw (by omega) hB _ _ _ _ (fun e R' h0 hy => ?_) (fun hy => ?_)
    · refine bdP rfl ?_
      refine neP (fun h3 => absurd h3 h0) (fun _ => ?_)
      exact tE _ h0 (by unfold totE; rw [if_pos he, hy, if_neg h0])
    refine bdP rfl ?_
    refine neP (fun _ => ?_) (fun h3 => absurd rfl h3)
    refine relocations_run (P := fun r => P (Option.bind r _)) (by omega) hw (by omega) hB _ _ _ _ (sy := symT (imgL b) b s) (by omega) (fun e R' h0 hr => ?_) (fun hr => ?_)
    · refine bdP rfl ?_
      refine neP (fun h3 => absurd h3 h0) (fun _ => ?_)
      exact tE _ h0 (by unfold totE; rw [if_pos he, if_pos hy, hr])
    refine bdP rfl ?_
    refine neP (fun _ => ?_) (fun h3 => absurd rfl h3)
    have htot : totE (imgL b) b s = 0 := by unfold totE; rw [if_pos he, if_pos hy, hr]
    refine bdP (sound_eq (l := imgL b) (by omega) hw (sy := symT (imgL b) b s) (by omega) hTw (rl := relT (imgL b) b s) (by omega) hRw _ _ _ _ _ _ _) ?_
    refine neP (fun h3 => ?_) (fun h3 => ?_)
    · refine hkk _ ⟨by rw [eI, eB, if_pos htot, h3], ?_⟩
      unfold imgV
      rw [hD]
    · exact hE _ h3 (by rw [eI, eB, if_pos htot])
theorem rparse_run {P : Option (Img × Int) → Prop} {b : List Int} (hb : b.length ≤ 100000) (hB : Bytes b)
    (hE : ∀ e, e ≠ 0 → imgE b = e → P (some (img0, e))) (hF : imgE b = 0 → P (some (imgV b, 0))) : P (ref09_Parse b) := by
  have key : ∀ {Q : Option (Img × Int) → Prop}, (∀ e y, e ≠ 0 → imgE b = e → Q (some (y, e))) → (imgE b = 0 → Q (some (imgV b, 0))) → Q (ref09_parse b) := by
    intro Q hE hF
    unfold ref09_parse
    refine deP (fun h1 => ?_) (fun h1 => ?_)
    · exact hE _ _ (by decide) (by unfold imgE; rw [if_pos (by omega)])
    have h1 : ¬ b.length > 65536 := by omega
    have hl := imgL_len b
    have hw := imgL_wf hB
    have hh := imgH_wf hB
    have sE : ∀ e, e ≠ 0 → shE b = e → ∀ y, Q (some (y, e)) := fun e h0 he y => hE e y h0 (by unfold imgE; rw [if_neg h1, he, if_neg h0])
    refine bdP (x := (imgH b, (getHS b).2)) (ref03_Get_eq (by omega) hB) ?_
    refine neP (fun h2 => ?_) (fun h2 => ?_)
    rotate_left
    · have h2 : (getHS b).2 ≠ 0 := h2
      exact sE _ h2 (by unfold shE; rw [if_neg h2]) _
    have h2 : (getHS b).2 = 0 := h2
    refine eqP (fun h3 => ?_) (fun h3 => ?_)
    · have h3 : (imgH b).1 = 4 := h3
      exact sE _ (by decide) (by unfold shE; rw [if_pos h2, if_pos h3]) _
    have h3 : (imgH b).1 ≠ 4 := h3
    refine bdP (x := (imgL b, imgLE b)) (ref04_Table_eq (by omega) hB hh.1 hh.2) ?_
    refine neP (fun h4 => ?_) (fun h4 => ?_)
    rotate_left
    · have h4 : imgLE b ≠ 0 := h4
      exact sE _ h4 (by unfold shE; rw [if_pos h2, if_neg h3, if_neg h4]) _
    have h4 : imgLE b = 0 := h4
    have hz : InK .u64 (b.length : Int) := ⟨by show (0 : Int) ≤ _; omega, by show _ ≤ (18446744073709551615 : Int); omega⟩
    refine bdP (x := checkSS (b.length : Int) (imgL b)) (by
      show ref04_Check (imgL b) (IntKind.u64.wrap ((b.length : Nat) : Int)) = _
      rw [u64w (by omega)]
      exact ref04_Check_eq (by omega) hw hz) ?_
    refine neP (fun h5 => ?_) (fun h5 => ?_)
    rotate_left
    · exact sE _ h5 (by unfold shE; rw [if_pos h2, if_neg h3, if_pos h4, if_neg h5]) _
    refine bdP (ref04_Find_eq (l := imgL b) (by omega) 1) ?_
    refine deP (fun h6 => ?_) (fun h6 => ?_)
    · cases hf : findS (imgL b) 1 with
      | none => exact sE _ (by decide) (by unfold shE; rw [if_pos h2, if_neg h3, if_pos h4, if_pos h5, hf]; rfl) _
      | some k => rw [hf] at h6; simp [ixN] at h6; omega
    have hsh : shE b = 0 := by
      cases hf : findS (imgL b) 1 with
      | none => rw [hf] at h6; exact absurd (by decide) h6
      | some k => unfold shE; rw [if_pos h2, if_neg h3, if_pos h4, if_pos h5, hf]; rfl
    have hgood := shE_good hsh
    have hok : ∀ s ∈ imgL b, okS s := fun s hs => okS_of (hgood s hs)
    have eI : imgE b = bodE b := by unfold imgE; rw [if_neg h1, if_pos hsh]
    refine bdP (ref04_Find_eq (l := imgL b) (by omega) 2) ?_
    cases hf : findS (imgL b) 2 with
    | none =>
      have hD : imgD b = none := by unfold imgD; rw [hf]; rfl
      have eB : bodE b = heldS (imgL b) [] [] := by unfold bodE; rw [hD]
      refine jnC (fun R => R = (imgH b, imgL b, [], [], [], [], [], b)) ?_ (fun kk hkk => ?_)
      · rintro _ rfl
        refine bdP (held_eq (l := imgL b) (by omega) hw hok (sy := []) (by simp) (by simp) (rl := []) (by simp) (by simp) _ _ _ _ _) ?_
        by_cases h0 : heldS (imgL b) [] [] = 0
        · have := hF (by rw [eI, eB, h0])
          unfold imgV at this
          rw [hD] at this
          rw [h0]
          exact this
        · exact hE _ _ h0 (by rw [eI, eB])
      exact hkk _ rfl
    | some k =>
      have hk := (fI_some hf).1
      have hD : imgD b = some ((imgL b).getD k default) := by unfold imgD; rw [hf]; rfl
      obtain ⟨hm, ht⟩ := imgD_mem hD
      have hix : ixN 0 (some k) = (k : Int) := by simp [ixN]
      have hgt : gt (imgL b) (ixN 0 (some k)) = (imgL b).getD k default := by rw [hix]; rfl
      generalize hsg : (imgL b).getD k default = s at hD hm ht hgt
      have hs := hw s hm
      have eB : bodE b = if totE (imgL b) b s = 0 then heldS (imgL b) (symT (imgL b) b s) (relT (imgL b) b s) else totE (imgL b) b s := by unfold bodE; rw [hD]
      have hTw := symT_wf hB (imgL b) s
      have hTn := symT_len (imgL b) b s
      have hRw := relT_wf hB (imgL b) s
      have hRn := relT_len (imgL b) b s
      refine jnC (fun R => totE (imgL b) b s = 0 ∧ R = imgV b) ?_ (fun kk hkk => ?_)
      · rintro _ ⟨ht0, rfl⟩
        have eV : imgV b = (imgH b, imgL b, soV (tabT (imgL b) b s) (dv b s 0), nmdN (imgL b) b s, symN (imgL b) b s, symT (imgL b) b s, relT (imgL b) b s, b) := by unfold imgV; rw [hD]
        rw [eV]
        refine bdP (held_eq (l := imgL b) (by omega) hw hok (sy := symT (imgL b) b s) (by omega) hTw (rl := relT (imgL b) b s) (by omega) hRw _ _ _ _ _) ?_
        by_cases h0 : heldS (imgL b) (symT (imgL b) b s) (relT (imgL b) b s) = 0
        · have := hF (by rw [eI, eB, if_pos ht0, h0])
          rw [eV] at this
          rw [h0]
          exact this
        · exact hE _ _ h0 (by rw [eI, eB, if_pos ht0])
      refine deP (fun _ => ?_) (fun h7 => absurd (by rw [hix]; omega) h7)
      refine jnC (fun R => totE (imgL b) b s = R.1 ∧ (R.1 = 0 → R.2 = imgV b)) ?_ (fun kk2 hk2 => ?_)
      · rintro ⟨e, R⟩ ⟨q1, q2⟩
        refine neP (fun h0 => ?_) (fun h0 => ?_)
        · have h0 : e = 0 := h0
          exact hkk R ⟨by rw [q1]; exact h0, q2 h0⟩
        · exact hE _ _ h0 (by rw [eI, eB, q1, if_neg h0])
      refine gdP (by rw [hix]; show (0 : Int) ≤ (k : Int) ∧ (k : Int) < (((imgL b).length : Nat) : Int); omega) ?_
      rw [hgt]
      refine rnamed_run (P := fun r => Q (Option.bind r _)) (by omega) hw (by omega) hB hs _ (fun e y h0 he => ?_) (fun he => ?_)
      · refine bdP rfl ?_
        exact hk2 _ ⟨he, fun h => absurd h h0⟩
      · refine bdP rfl ?_
        refine hk2 _ ⟨he, fun _ => ?_⟩
        unfold imgV
        rw [hD]
  unfold ref09_Parse
  refine key (Q := fun r => P (Option.bind r _)) (fun e y h0 he => ?_) (fun he => ?_)
  · refine bdP rfl ?_
    refine neP (fun h3 => absurd h3 h0) (fun _ => ?_)
    exact hE _ h0 he
  · refine bdP rfl ?_
    refine neP (fun _ => ?_) (fun h3 => absurd rfl h3)
    exact hF he
def parseS (b : List Int) : Img × Int := if imgE b = 0 then (imgV b, 0) else (img0, imgE b)
theorem image_Parse_eq {b : List Int} (hb : b.length ≤ 100000) (hB : Bytes b) : image_Parse b = some (parseS b) := by
  refine parse_run (P := fun r => r = some (parseS b)) hb hB (fun e h0 he => ?_) (fun he => ?_)
  · unfold parseS; rw [he, if_neg h0]
  · unfold parseS; rw [if_pos he]
theorem ref09_Parse_eq {b : List Int} (hb : b.length ≤ 100000) (hB : Bytes b) : ref09_Parse b = some (parseS b) := by
  refine rparse_run (P := fun r => r = some (parseS b)) hb hB (fun e h0 he => ?_) (fun he => ?_)
  · unfold parseS; rw [he, if_neg h0]
  · unfold parseS; rw [if_pos he]
end Dm

namespace Dm
open Go
theorem strings_self {l : List (List UInt8)} (hl : l.length ≤ 1000000) : ref09_strings l l = some true := by
  unfold ref09_strings
  refine fP (P := fun r => r = some true) (by simp) ?_
  refine jnP (P := fun r => r = some true) ?_
  refine scan_Q (P := fun r => r = some true) l (by omega) (fun _ => 0) (fun i => (i : Int)) (some true) (fun _ _ => none) rfl (fun _ => rfl) (fun _ h => absurd (firstE_zero _ _ fun _ _ => rfl) h) (fun i rec hi Q q0 _ => ?_) (fun rec Q q => ?_)
  · refine tP (dif_lt hi) ?_
    refine gdP (by omega) ?_
    refine gdP (by omega) ?_
    refine fP (by simp) ?_
    refine letP ?_
    rw [i64s (by omega)]
    exact q0 rfl
  · refine fP (by rw [dif_ge (Nat.le_refl _)]; simp) ?_
    exact q
theorem Same_self {h : Int × Int × Int × Int} {l : List Seg} {so : List UInt8} {nd nm : List (List UInt8)} {sy : List Sym} {rl : List Rel7} {b : List Int} (h1 : l.length ≤ 1000000) (h2 : nd.length ≤ 1000000) (h3 : nm.length ≤ 1000000) (h4 : sy.length ≤ 1000000) (h5 : rl.length ≤ 1000000) :
    ref09_Same (h, l, so, nd, nm, sy, rl, b) (h, l, so, nd, nm, sy, rl, b) = some true := by
  unfold ref09_Same
  dsimp only
  refine jnC (P := fun r => r = some true) (fun c => c = false) ?_ (fun kk hkk => ?_)
  · rintro _ rfl
    refine fP (P := fun r => r = some true) (by decide) ?_
    refine jnC (P := fun r => r = some true) (fun _ => True) ?_ (fun k2 hk2 => ?_)
    · intro _ _
      refine jnC (P := fun r => r = some true) (fun _ => True) ?_ (fun k3 hk3 => ?_)
      · intro _ _
        refine jnC (P := fun r => r = some true) (fun _ => True) ?_ (fun k4 hk4 => ?_)
        · intro _ _
          refine jnP (P := fun r => r = some true) ?_
          refine bdP (P := fun r => r = some true) (strings_self h2) ?_
          refine tP (P := fun r => r = some true) rfl ?_
          exact bdP (P := fun r => r = some true) (strings_self h3) rfl
        refine scan_Q (P := fun r => r = some true) rl (by omega) (fun _ => 0) (fun i => (i : Int)) (k4 ()) (fun _ _ => none) rfl (fun _ => hk4 () trivial) (fun _ h => absurd (firstE_zero _ _ fun _ _ => rfl) h) (fun i rec hi Q q0 _ => ?_) (fun rec Q q => ?_)
        · refine tP (dif_lt hi) ?_
          refine gdP (by omega) ?_
          refine gdP (by omega) ?_
          refine fP (by simp) ?_
          refine letP ?_
          rw [i64s (by omega)]
          exact q0 rfl
        · refine fP (by rw [dif_ge (Nat.le_refl _)]; simp) ?_
          exact q
      refine scan_Q (P := fun r => r = some true) sy (by omega) (fun _ => 0) (fun i => (i : Int)) (k3 ()) (fun _ _ => none) rfl (fun _ => hk3 () trivial) (fun _ h => absurd (firstE_zero _ _ fun _ _ => rfl) h) (fun i rec hi Q q0 _ => ?_) (fun rec Q q => ?_)
      · refine tP (dif_lt hi) ?_
        refine gdP (by omega) ?_
        refine gdP (by omega) ?_
        refine fP (by simp) ?_
        refine letP ?_
        rw [i64s (by omega)]
        exact q0 rfl
      · refine fP (by rw [dif_ge (Nat.le_refl _)]; simp) ?_
        exact q
    refine scan_Q (P := fun r => r = some true) l (by omega) (fun _ => 0) (fun i => (i : Int)) (k2 ()) (fun _ _ => none) rfl (fun _ => hk2 () trivial) (fun _ h => absurd (firstE_zero _ _ fun _ _ => rfl) h) (fun i rec hi Q q0 _ => ?_) (fun rec Q q => ?_)
    · refine tP (dif_lt hi) ?_
      refine gdP (by omega) ?_
      refine gdP (by omega) ?_
      refine fP (by simp) ?_
      refine letP ?_
      rw [i64s (by omega)]
      exact q0 rfl
    · refine fP (by rw [dif_ge (Nat.le_refl _)]; simp) ?_
      exact q
  refine fP (P := fun r => r = some true) (by simp) ?_
  refine fP (P := fun r => r = some true) (by simp) ?_
  refine fP (P := fun r => r = some true) (by simp) ?_
  refine fP (P := fun r => r = some true) (by simp) ?_
  refine fP (P := fun r => r = some true) (by simp) ?_
  exact hkk _ (by simp)
theorem parseS_same {b : List Int} (hb : b.length ≤ 100000) (hB : Bytes b) : ref09_Same (parseS b).1 (parseS b).1 = some true := by
  unfold parseS
  split
  · rename_i h0
    have hb2 : b.length ≤ 65536 := by
      unfold imgE at h0
      split at h0
      · cases h0
      · omega
    have hl := imgL_len b
    show ref09_Same (imgV b) (imgV b) = some true
    unfold imgV
    cases hD : imgD b with
    | none => exact Same_self (by omega) (by simp) (by simp) (by simp) (by simp)
    | some s =>
      have hTn := symT_len (imgL b) b s
      have hRn := relT_len (imgL b) b s
      have hDn : (dynX b s).1.length ≤ (segC b s).length + 1 := len_dynG (segC b s)
      have hCl := segC_len b s
      refine Same_self (by omega) ?_ ?_ (by omega) (by omega)
      · unfold nmdN; rw [List.length_map]; omega
      · unfold symN; rw [List.length_map]; omega
  · exact Same_self (by simp) (by simp) (by simp) (by simp) (by simp)
theorem ImageParses_of {b : List Int} (_ : b.length ≤ 9223372036854775807) (hw : ∀ y ∈ b, InK .u8 y) (haw : law09_awake = some true) : law09_ImageParses b = some true := by
  unfold law09_ImageParses
  refine bdP (P := fun r => r = some true) haw ?_
  refine fP (P := fun r => r = some true) (by decide) ?_
  refine deP (P := fun r => r = some true) (fun _ => rfl) (fun h => ?_)
  have hb : b.length ≤ 100000 := by omega
  have hB := bytes_of hw
  refine bdP (P := fun r => r = some true) (image_Parse_eq hb hB) ?_
  refine bdP (P := fun r => r = some true) (ref09_Parse_eq hb hB) ?_
  refine jnP (P := fun r => r = some true) ?_
  refine tP (P := fun r => r = some true) (by simp) ?_
  refine bdP (P := fun r => r = some true) (x := (parseS b).1) rfl ?_
  exact bdP (P := fun r => r = some true) (parseS_same hb hB) rfl
end Dm

namespace Dm
open Go
theorem awake09 : law09_awake = some true := by kernel_rfl
end Dm

namespace Dm
open Go
theorem ImageParses_true {b : List Int} (hb : b.length ≤ 9223372036854775807) (hw : ∀ y ∈ b, InK .u8 y) : law09_ImageParses b = some true := ImageParses_of hb hw awake09
end Dm
