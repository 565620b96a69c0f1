/-
  What the proof of ImageTables leans on, part 5: rules for the walks, plain facts. Conditions stand in each statement.
-/
import Derived.Test.YtdfjbnonibcmeaaGreatU4
namespace Dm
open Go
open IntKind (u64 i64 u8 u32)
def ent (t v : Int) : List Int := leB 8 t ++ leB 8 v
theorem ent_len (t v : Int) : (ent t v).length = 16 := by unfold ent; rw [List.length_append, leB_length, leB_length]
theorem ent_bytes (t v : Int) : Bytes (ent t v) := (leB_bytes _ _).append (leB_bytes _ _)
def dpart (x : Inf) : Nat -> List Int
 | 0 => if x.2.1 = 0 then [] else ent 14 x.2.1
 | 1 => ent 5 x.2.2.1
 | 2 => ent 10 x.2.2.2.1
 | 3 => if x.2.2.2.2.2.1 = 0 then [] else ent 6 x.2.2.2.2.1
 | 4 => if x.2.2.2.2.2.1 = 0 then [] else ent 1610612749 x.2.2.2.2.2.1
 | 5 => if x.2.2.2.2.2.2.2 = 0 then [] else ent 7 x.2.2.2.2.2.2.1
 | 6 => if x.2.2.2.2.2.2.2 = 0 then [] else ent 8 x.2.2.2.2.2.2.2
 | _ => []
def dneed (x : Inf) : List Int := (x.1.map (ent 1)).flatten
def dacc (x : Inf) (i : Nat) : List Int := dneed x ++ ((List.range i).map (dpart x)).flatten
def dput (x : Inf) : List Int := dacc x 7 ++ ent 0 0
theorem dacc_succ (x : Inf) (i : Nat) : dacc x (i + 1) = dacc x i ++ dpart x i := by
 unfold dacc
 rw [List.range_succ, List.map_append, List.flatten_append, List.append_assoc]
 simp
theorem dpart_len (x : Inf) (i : Nat) : (dpart x i).length <= 16 := by
 unfold dpart
 split <;> (try split) <;> simp [ent_len]
theorem dneed_len (x : Inf) : (dneed x).length = 16 * x.1.length := by
 unfold dneed
 generalize x.1 = l
 induction l with
 | nil => rfl
 | cons a l ih => rw [List.map_cons, List.flatten_cons, List.length_append, ent_len, ih, List.length_cons]; omega
theorem dacc_len (x : Inf) : ∀ i, (dacc x i).length <= 16 * x.1.length + 16 * i
 | 0 => by have := dneed_len x; unfold dacc; simp; omega
 | i + 1 => by have := dacc_len x i; have := dpart_len x i; rw [dacc_succ, List.length_append]; omega
theorem dput_len (x : Inf) : (dput x).length <= 16 * x.1.length + 128 := by have := dacc_len x 7; unfold dput; rw [List.length_append, ent_len]; omega
theorem Bytes.nil : Bytes [] := fun x h => by simp at h
theorem dpart_bytes (x : Inf) (i : Nat) : Bytes (dpart x i) := by
 unfold dpart
 split <;> (try split) <;> first | exact Bytes.nil | exact ent_bytes _ _
theorem dneed_bytes (x : Inf) : Bytes (dneed x) := by
 unfold dneed
 generalize x.1 = l
 induction l with
 | nil => exact Bytes.nil
 | cons a l ih => rw [List.map_cons, List.flatten_cons]; exact (ent_bytes _ _).append ih
theorem dacc_bytes (x : Inf) : ∀ i, Bytes (dacc x i)
 | 0 => by unfold dacc; simpa using dneed_bytes x
 | i + 1 => by rw [dacc_succ]; exact (dacc_bytes x i).append (dpart_bytes x i)
theorem dput_bytes (x : Inf) : Bytes (dput x) := (dacc_bytes x 7).append (ent_bytes _ _)
theorem put1_eq (t v : Int) {q : List Int} (hq : q.length <= 1000000) : dynamic_Put_1 t v q = some (q ++ ent t v) := by
 unfold dynamic_Put_1
 rw [jn_eq]
 refine loop_at (fun i => ((i : Int), if i = 0 then q else if i = 1 then q ++ leB 8 t else q ++ ent t v)) 2 rfl (by omega) ?_
 intro i rec hi hrec
 have : i = 0 \/ i = 1 \/ i = 2 := by omega
 rcases this with rfl | rfl | rfl
 · have hr := hrec (by omega)
   refine tP (P := fun r => r = some (q ++ ent t v)) rfl ?_
   refine gdP (P := fun r => r = some (q ++ ent t v)) ⟨by simp, by simp⟩ ?_
   refine letP (P := fun r => r = some (q ++ ent t v)) ?_
   refine gdP (P := fun r => r = some (q ++ ent t v)) (by decide) ?_
   refine bdP (P := fun r => r = some (q ++ ent t v)) (set8 t) ?_
   refine gdP (P := fun r => r = some (q ++ ent t v)) (by show (q.length + (leB 8 t).length) * 1 <= _; rw [leB_length]; omega) ?_
   exact hr
 · have hr := hrec (by omega)
   refine tP (P := fun r => r = some (q ++ ent t v)) rfl ?_
   refine gdP (P := fun r => r = some (q ++ ent t v)) ⟨by simp, by simp⟩ ?_
   refine letP (P := fun r => r = some (q ++ ent t v)) ?_
   refine gdP (P := fun r => r = some (q ++ ent t v)) (by decide) ?_
   refine bdP (P := fun r => r = some (q ++ ent t v)) (set8 v) ?_
   refine gdP (P := fun r => r = some (q ++ ent t v)) (by show ((q ++ leB 8 t).length + (leB 8 v).length) * 1 <= _; rw [List.length_append, leB_length, leB_length]; omega) ?_
   have e : q ++ ent t v = (q ++ leB 8 t) ++ leB 8 v := by unfold ent; rw [List.append_assoc]
   have hr : rec (((1 + 1 : Nat) : Int), q ++ ent t v) = some (q ++ ent t v) := hr
   rw [e] at hr ⊢
   exact hr
 · exact fP (P := fun r => r = some (q ++ ent t v)) (fun h => by cases h) rfl
theorem dynamic_Put_eq {x : Inf} (hx : x.1.length <= 1000) : dynamic_Put x = some (dput x) := by
 obtain ⟨nd, so, st, sz, sy, sn, rl, rz⟩ := x
 have hx : nd.length <= 1000 := hx
 have hl := dacc_len (nd, so, st, sz, sy, sn, rl, rz)
 have hl' : ∀ i, i <= 7 -> (dacc (nd, so, st, sz, sy, sn, rl, rz) i).length <= 20000 := fun i hi => by have : (dacc (nd, so, st, sz, sy, sn, rl, rz) i).length <= 16 * nd.length + 16 * i := hl i; omega
 have hs := dacc_succ (nd, so, st, sz, sy, sn, rl, rz)
 generalize hR : some (dput (nd, so, st, sz, sy, sn, rl, rz)) = R
 unfold dynamic_Put
 refine jnC (P := (· = R)) (fun c => c = dacc (nd, so, st, sz, sy, sn, rl, rz) 0) ?_ (fun kk hkk => ?_)
 · rintro _ rfl
   refine jnC (P := (· = R)) (fun c => c = dacc (nd, so, st, sz, sy, sn, rl, rz) 1) ?_ (fun kk hkk => ?_)
   · rintro _ rfl
     have e1 : dacc (nd, so, st, sz, sy, sn, rl, rz) 2 = dacc (nd, so, st, sz, sy, sn, rl, rz) 1 ++ ent 5 st := hs 1
     have e2 : dacc (nd, so, st, sz, sy, sn, rl, rz) 3 = dacc (nd, so, st, sz, sy, sn, rl, rz) 2 ++ ent 10 sz := hs 2
     refine bdP (P := (· = R)) (x := dacc (nd, so, st, sz, sy, sn, rl, rz) 2) (by rw [e1]; exact put1_eq _ _ (by have := hl' 1 (by omega); omega)) ?_
     refine bdP (P := (· = R)) (x := dacc (nd, so, st, sz, sy, sn, rl, rz) 3) (by rw [e2]; exact put1_eq _ _ (by have := hl' 2 (by omega); omega)) ?_
     refine jnC (P := (· = R)) (fun c => c = dacc (nd, so, st, sz, sy, sn, rl, rz) 5) ?_ (fun kk hkk => ?_)
     · rintro _ rfl
       refine jnC (P := (· = R)) (fun c => c = dacc (nd, so, st, sz, sy, sn, rl, rz) 7) ?_ (fun kk hkk => ?_)
       · rintro _ rfl
         exact bdP (P := (· = R)) (put1_eq 0 0 (by have := hl' 7 (by omega); omega)) hR
       have h5 := hs 5
       have h6 := hs 6
       refine neP (P := (· = R)) (fun h => ?_) (fun h => ?_)
       · have h : rz = 0 := h
         refine hkk _ ?_
         have p5 : dpart (nd, so, st, sz, sy, sn, rl, rz) 5 = [] := if_pos h
         have p6 : dpart (nd, so, st, sz, sy, sn, rl, rz) 6 = [] := if_pos h
         rw [h6, h5, p5, p6, List.append_nil, List.append_nil]
       · have h : rz ≠ 0 := h
         have p5 : dpart (nd, so, st, sz, sy, sn, rl, rz) 5 = ent 7 rl := if_neg h
         have p6 : dpart (nd, so, st, sz, sy, sn, rl, rz) 6 = ent 8 rz := if_neg h
         rw [p5] at h5
         rw [p6] at h6
         refine bdP (P := (· = R)) (x := dacc (nd, so, st, sz, sy, sn, rl, rz) 6) (by rw [h5]; exact put1_eq _ _ (by have := hl' 5 (by omega); omega)) ?_
         refine bdP (P := (· = R)) (x := dacc (nd, so, st, sz, sy, sn, rl, rz) 7) (by rw [h6]; exact put1_eq _ _ (by have := hl' 6 (by omega); omega)) ?_
         exact hkk _ rfl
     have h3 := hs 3
     have h4 := hs 4
     refine neP (P := (· = R)) (fun h => ?_) (fun h => ?_)
     · have h : sn = 0 := h
       refine hkk _ ?_
       have p3 : dpart (nd, so, st, sz, sy, sn, rl, rz) 3 = [] := if_pos h
       have p4 : dpart (nd, so, st, sz, sy, sn, rl, rz) 4 = [] := if_pos h
       rw [h4, h3, p3, p4, List.append_nil, List.append_nil]
     · have h : sn ≠ 0 := h
       have p3 : dpart (nd, so, st, sz, sy, sn, rl, rz) 3 = ent 6 sy := if_neg h
       have p4 : dpart (nd, so, st, sz, sy, sn, rl, rz) 4 = ent 1610612749 sn := if_neg h
       rw [p3] at h3
       rw [p4] at h4
       refine bdP (P := (· = R)) (x := dacc (nd, so, st, sz, sy, sn, rl, rz) 4) (by rw [h3]; exact put1_eq _ _ (by have := hl' 3 (by omega); omega)) ?_
       refine bdP (P := (· = R)) (x := dacc (nd, so, st, sz, sy, sn, rl, rz) 5) (by rw [h4]; exact put1_eq _ _ (by have := hl' 4 (by omega); omega)) ?_
       exact hkk _ rfl
   have h0 := hs 0
   refine neP (P := (· = R)) (fun h => ?_) (fun h => ?_)
   · have h : so = 0 := h
     refine hkk _ ?_
     have p0 : dpart (nd, so, st, sz, sy, sn, rl, rz) 0 = [] := if_pos h
     rw [h0, p0, List.append_nil]
   · have h : so ≠ 0 := h
     have p0 : dpart (nd, so, st, sz, sy, sn, rl, rz) 0 = ent 14 so := if_neg h
     rw [p0] at h0
     refine bdP (P := (· = R)) (x := dacc (nd, so, st, sz, sy, sn, rl, rz) 1) (by rw [h0]; exact put1_eq _ _ (by have := hl' 0 (by omega); omega)) ?_
     exact hkk _ rfl
 refine scan_Q (P := (· = R)) nd (by omega) (fun _ => 0) (fun i => ((i : Int), ((nd.take i).map (ent 1)).flatten)) (kk (dacc (nd, so, st, sz, sy, sn, rl, rz) 0)) (fun _ _ => none) rfl (fun _ => hkk _ rfl) (fun _ h => absurd (firstE_zero _ _ fun _ _ => rfl) h) (fun i rec hi Q q0 _ => ?_) (fun rec Q q => ?_)
 · have hgi : gt nd (i : Int) = nd[i] := gt_nat hi
   refine tP (dif_lt hi) ?_
   refine gdP (by show (0 : Int) <= i /\ (i : Int) < ((nd.length : Nat) : Int); omega) ?_
   refine letP ?_
   have hln : (((nd.take i).map (ent 1)).flatten).length <= 100000 := by
    have := dneed_len (nd.take i, so, st, sz, sy, sn, rl, rz)
    have h2 : (((nd.take i).map (ent 1)).flatten).length = 16 * (nd.take i).length := this
    rw [List.length_take] at h2
    omega
   refine bdP (put1_eq 1 (gt nd (i : Int)) (q := ((nd.take i).map (ent 1)).flatten) (by omega)) ?_
   have q := q0 rfl
   rw [<- i64s (by omega), take_succ hi, List.map_append, List.flatten_append, List.map_singleton, List.flatten_singleton, <- hgi] at q
   exact q
 · refine fP (by show ¬ decide (((nd.length : Nat) : Int) < ((nd.length : Nat) : Int)) = true; simp) ?_
   rw [List.take_length]
   have e : dacc (nd, so, st, sz, sy, sn, rl, rz) 0 = (nd.map (ent 1)).flatten := by unfold dacc dneed; simp
   rw [e] at q
   exact q
theorem eightP {ρ : Type} {P : Option ρ -> Prop} {b : List Int} (hb : b.length <= 1000000) {x : Int} (hx : 0 <= x) (hx1 : x <= 18446744073709551615) {kk : List Int -> Option ρ} (hk : P (kk (b ++ leB 8 x))) :
    P (loopK (fun (s2 : (List Int) × Int × Int) rec1 =>
     (if (decide (s2.2.2 < 8)) = true then
      gd ((s2.1.length + ([u8.wrap (Int.tmod s2.2.1 256)] : List Int).length) * 1 <= 140737488355328) <|
      let1 (u64.wrap (Int.tdiv s2.2.1 256)) fun x_1 =>
      let1 (i64.wrap (s2.2.2 + 1)) fun i_1 =>
      rec1 ((s2.1 ++ ([u8.wrap (Int.tmod s2.2.1 256)] : List Int)), x_1, i_1)
     else
      kk s2.1)) bigF (b, x, 0)) := by
 have key : ∀ R, kk (b ++ leB 8 x) = R -> loopK (fun (s2 : (List Int) × Int × Int) rec1 =>
     (if (decide (s2.2.2 < 8)) = true then
      gd ((s2.1.length + ([u8.wrap (Int.tmod s2.2.1 256)] : List Int).length) * 1 <= 140737488355328) <|
      let1 (u64.wrap (Int.tdiv s2.2.1 256)) fun x_1 =>
      let1 (i64.wrap (s2.2.2 + 1)) fun i_1 =>
      rec1 ((s2.1 ++ ([u8.wrap (Int.tmod s2.2.1 256)] : List Int)), x_1, i_1)
     else
      kk s2.1)) bigF (b, x, 0) = R := by
  intro R hR
  refine loop_at (fun i => (b ++ leB i x, x / 256 ^ i, (i : Int))) 8 (by simp [leB]) (by omega) ?_
  intro i rec hi hrec
  by_cases hlt : i < 8
  · have hc : decide ((i : Int) < 8) = true := by simp; omega
    simp only [hc, if_true, let1_eq]
    have h0 : 0 <= x / 256 ^ i := Int.ediv_nonneg hx (Int.pow_nonneg (by omega))
    have h1 : x / 256 ^ i <= x := Int.ediv_le_self _ hx
    generalize hy : x / 256 ^ i = y at h0 h1
    have e7 : Int.tdiv y 256 = y / 256 := Int.tdiv_eq_ediv_of_nonneg h0
    have e8 : Int.tmod y 256 = y % 256 := Int.tmod_eq_emod_of_nonneg h0
    have e9 : u64.wrap (y / 256) = y / 256 := u64w (by omega)
    have e10 : u8.wrap (y % 256) = y % 256 := u8w (by omega)
    rw [gd_pos (by simp only [List.length_append, leB_length, List.length_cons, List.length_nil]; omega), e7, e8, e9, e10, i64s (by omega)]
    have := hrec hlt
    rw [leB_snoc, Int.pow_succ, <- Int.ediv_ediv_of_nonneg (Int.pow_nonneg (by omega)), hy] at this
    rw [List.append_assoc]; exact this
  · obtain rfl : i = 8 := by omega
    simpa using hR
 rw [key _ rfl]
 exact hk
theorem entry_eq {b : List Int} (hb : b.length <= 900000) {t v : Int} (ht : 0 <= t) (ht1 : t <= 18446744073709551615) (hv : 0 <= v) (hv1 : v <= 18446744073709551615) : ref05_entry b t v = some (b ++ ent t v) := by
 unfold ref05_entry
 refine jnC (P := fun r => r = some (b ++ ent t v)) (fun c => c = b ++ leB 8 t) ?_ (fun kk hkk => ?_)
 · rintro _ rfl
   refine jnC (P := fun r => r = some (b ++ ent t v)) (fun c => c = b ++ ent t v) ?_ (fun kk hkk => ?_)
   · rintro _ rfl; rfl
   refine eightP (P := fun r => r = some (b ++ ent t v)) (by rw [List.length_append, leB_length]; omega) hv hv1 (hkk _ ?_)
   unfold ent; rw [List.append_assoc]
 exact eightP (P := fun r => r = some (b ++ ent t v)) (by omega) ht ht1 (hkk _ rfl)
theorem ref05_Put_eq {nd : List Int} (hn : nd.length <= 1000) (hnd : ∀ a ∈ nd, InK .u64 a) {so st sz sy sn rl rz : Int} (h0 : InK .u64 so) (h1 : InK .u64 st) (h2 : InK .u64 sz) (h3 : InK .u64 sy) (h4 : InK .u64 sn) (h5 : InK .u64 rl) (h6 : InK .u64 rz) :
    ref05_Put (nd, [so, st, sz, sy, sn, rl, rz]) = some (dput (nd, so, st, sz, sy, sn, rl, rz)) := by
 have h0 := inK_u64 h0
 have h1 := inK_u64 h1
 have h2 := inK_u64 h2
 have h3 := inK_u64 h3
 have h4 := inK_u64 h4
 have h5 := inK_u64 h5
 have h6 := inK_u64 h6
 have hl := dacc_len (nd, so, st, sz, sy, sn, rl, rz)
 have hl' : ∀ i, i <= 7 -> (dacc (nd, so, st, sz, sy, sn, rl, rz) i).length <= 20000 := fun i hi => by have : (dacc (nd, so, st, sz, sy, sn, rl, rz) i).length <= 16 * nd.length + 16 * i := hl i; omega
 have hs := dacc_succ (nd, so, st, sz, sy, sn, rl, rz)
 generalize hR : some (dput (nd, so, st, sz, sy, sn, rl, rz)) = R
 unfold ref05_Put
 refine jnC (P := (· = R)) (fun c => c = dacc (nd, so, st, sz, sy, sn, rl, rz) 0) ?_ (fun kk hkk => ?_)
 · rintro _ rfl
   refine jnC (P := (· = R)) (fun c => c = dacc (nd, so, st, sz, sy, sn, rl, rz) 7) ?_ (fun kk hkk => ?_)
   · rintro _ rfl
     exact bdP (P := (· = R)) (entry_eq (by have := hl' 7 (by omega); omega) (by omega) (by omega) (by omega) (by omega)) hR
   refine loop_at (fun i => (dacc (nd, so, st, sz, sy, sn, rl, rz) i, (i : Int))) 7 rfl (by omega) ?_
   intro i rec hi hrec
   by_cases hlt : i < 7
   · have hr := hrec hlt
     refine tP (P := (· = R)) (by show decide ((i : Int) < 7) = true; simp; omega) ?_
     refine jnC (P := (· = R)) (fun c => c = dacc (nd, so, st, sz, sy, sn, rl, rz) (i + 1)) ?_ (fun k3 hk3 => ?_)
     · rintro _ rfl
       refine letP (P := (· = R)) ?_
       rw [<- i64s (by omega)] at hr
       exact hr
     have : i = 0 \/ i = 1 \/ i = 2 \/ i = 3 \/ i = 4 \/ i = 5 \/ i = 6 := by omega
     rcases this with rfl | rfl | rfl | rfl | rfl | rfl | rfl
     -- 0
     · refine gdP (P := (· = R)) (by constructor <;> simp) ?_
       refine letP (P := (· = R)) ?_
       refine jnC (P := (· = R)) (fun c => c = decide (so = 0)) ?_ (fun k4 hk4 => ?_)
       · rintro _ rfl
         refine deP (P := (· = R)) (fun h => ?_) (fun h => ?_)
         · refine hk3 _ ?_
           have p : dpart (nd, so, st, sz, sy, sn, rl, rz) 0 = [] := if_pos h
           show dacc (nd, so, st, sz, sy, sn, rl, rz) 0 = dacc (nd, so, st, sz, sy, sn, rl, rz) (0 + 1)
           rw [hs 0, p, List.append_nil]
         · refine bdP (P := (· = R)) (x := ([14, 5, 10, 6, 1610612749, 7, 8] : List Int)) rfl ?_
           refine gdP (P := (· = R)) (by constructor <;> simp) ?_
           have p : dpart (nd, so, st, sz, sy, sn, rl, rz) 0 = ent 14 so := if_neg h
           refine bdP (P := (· = R)) (entry_eq (b := dacc (nd, so, st, sz, sy, sn, rl, rz) 0) (t := 14) (v := so) (by have := hl' 0 (by omega); omega) (by omega) (by omega) (by omega) (by omega)) ?_
           exact hk3 _ (by rw [hs 0, p])
       refine tP (P := (· = R)) rfl ?_
       refine eqP (P := (· = R)) (fun h => ?_) (fun h => ?_)
       · have h : so = 0 := h
         exact hk4 _ (by rw [decide_eq_true h])
       · have h : so ≠ 0 := h
         refine fP (P := (· = R)) (fun h => by cases h) ?_
         refine fP (P := (· = R)) (fun h => by cases h) ?_
         refine fP (P := (· = R)) (fun h => by cases h) ?_
         exact hk4 _ (by rw [decide_eq_false h])
     -- 1
     · refine gdP (P := (· = R)) (by constructor <;> simp) ?_
       refine letP (P := (· = R)) ?_
       refine jnP (P := (· = R)) ?_
       refine fP (P := (· = R)) (fun h => by cases h) ?_
       refine fP (P := (· = R)) (fun h => by cases h) ?_
       refine fP (P := (· = R)) (fun h => by cases h) ?_
       refine fP (P := (· = R)) (fun h => by cases h) ?_
       refine fP (P := (· = R)) (fun h => by cases h) ?_
       refine bdP (P := (· = R)) (x := ([14, 5, 10, 6, 1610612749, 7, 8] : List Int)) rfl ?_
       refine gdP (P := (· = R)) (by constructor <;> simp) ?_
       refine bdP (P := (· = R)) (entry_eq (b := dacc (nd, so, st, sz, sy, sn, rl, rz) 1) (t := 5) (v := st) (by have := hl' 1 (by omega); omega) (by omega) (by omega) (by omega) (by omega)) ?_
       exact hk3 _ (hs 1).symm
     -- 2
     · refine gdP (P := (· = R)) (by constructor <;> simp) ?_
       refine letP (P := (· = R)) ?_
       refine jnP (P := (· = R)) ?_
       refine fP (P := (· = R)) (fun h => by cases h) ?_
       refine fP (P := (· = R)) (fun h => by cases h) ?_
       refine fP (P := (· = R)) (fun h => by cases h) ?_
       refine fP (P := (· = R)) (fun h => by cases h) ?_
       refine fP (P := (· = R)) (fun h => by cases h) ?_
       refine bdP (P := (· = R)) (x := ([14, 5, 10, 6, 1610612749, 7, 8] : List Int)) rfl ?_
       refine gdP (P := (· = R)) (by constructor <;> simp) ?_
       refine bdP (P := (· = R)) (entry_eq (b := dacc (nd, so, st, sz, sy, sn, rl, rz) 2) (t := 10) (v := sz) (by have := hl' 2 (by omega); omega) (by omega) (by omega) (by omega) (by omega)) ?_
       exact hk3 _ (hs 2).symm
     -- 3
     · refine gdP (P := (· = R)) (by constructor <;> simp) ?_
       refine letP (P := (· = R)) ?_
       refine jnC (P := (· = R)) (fun c => c = decide (sn = 0)) ?_ (fun k4 hk4 => ?_)
       · rintro _ rfl
         refine deP (P := (· = R)) (fun h => ?_) (fun h => ?_)
         · refine hk3 _ ?_
           have p : dpart (nd, so, st, sz, sy, sn, rl, rz) 3 = [] := if_pos h
           show dacc (nd, so, st, sz, sy, sn, rl, rz) 3 = dacc (nd, so, st, sz, sy, sn, rl, rz) (3 + 1)
           rw [hs 3, p, List.append_nil]
         · refine bdP (P := (· = R)) (x := ([14, 5, 10, 6, 1610612749, 7, 8] : List Int)) rfl ?_
           refine gdP (P := (· = R)) (by constructor <;> simp) ?_
           have p : dpart (nd, so, st, sz, sy, sn, rl, rz) 3 = ent 6 sy := if_neg h
           refine bdP (P := (· = R)) (entry_eq (b := dacc (nd, so, st, sz, sy, sn, rl, rz) 3) (t := 6) (v := sy) (by have := hl' 3 (by omega); omega) (by omega) (by omega) (by omega) (by omega)) ?_
           exact hk3 _ (by rw [hs 3, p])
       refine fP (P := (· = R)) (fun h => by cases h) ?_
       refine tP (P := (· = R)) rfl ?_
       refine gdP (P := (· = R)) (by constructor <;> simp) ?_
       refine eqP (P := (· = R)) (fun h => ?_) (fun h => ?_)
       · have h : sn = 0 := h
         exact hk4 _ (by rw [decide_eq_true h])
       · have h : sn ≠ 0 := h
         refine fP (P := (· = R)) (fun h => by cases h) ?_
         exact hk4 _ (by rw [decide_eq_false h])
     -- 4
     · refine gdP (P := (· = R)) (by constructor <;> simp) ?_
       refine letP (P := (· = R)) ?_
       refine jnC (P := (· = R)) (fun c => c = decide (sn = 0)) ?_ (fun k4 hk4 => ?_)
       · rintro _ rfl
         refine deP (P := (· = R)) (fun h => ?_) (fun h => ?_)
         · refine hk3 _ ?_
           have p : dpart (nd, so, st, sz, sy, sn, rl, rz) 4 = [] := if_pos h
           show dacc (nd, so, st, sz, sy, sn, rl, rz) 4 = dacc (nd, so, st, sz, sy, sn, rl, rz) (4 + 1)
           rw [hs 4, p, List.append_nil]
         · refine bdP (P := (· = R)) (x := ([14, 5, 10, 6, 1610612749, 7, 8] : List Int)) rfl ?_
           refine gdP (P := (· = R)) (by constructor <;> simp) ?_
           have p : dpart (nd, so, st, sz, sy, sn, rl, rz) 4 = ent 1610612749 sn := if_neg h
           refine bdP (P := (· = R)) (entry_eq (b := dacc (nd, so, st, sz, sy, sn, rl, rz) 4) (t := 1610612749) (v := sn) (by have := hl' 4 (by omega); omega) (by omega) (by omega) (by omega) (by omega)) ?_
           exact hk3 _ (by rw [hs 4, p])
       refine fP (P := (· = R)) (fun h => by cases h) ?_
       refine fP (P := (· = R)) (fun h => by cases h) ?_
       refine tP (P := (· = R)) rfl ?_
       refine gdP (P := (· = R)) (by constructor <;> simp) ?_
       refine eqP (P := (· = R)) (fun h => ?_) (fun h => ?_)
       · have h : sn = 0 := h
         exact hk4 _ (by rw [decide_eq_true h])
       · have h : sn ≠ 0 := h
         refine fP (P := (· = R)) (fun h => by cases h) ?_
         exact hk4 _ (by rw [decide_eq_false h])
     -- 5
     · refine gdP (P := (· = R)) (by constructor <;> simp) ?_
       refine letP (P := (· = R)) ?_
       refine jnC (P := (· = R)) (fun c => c = decide (rz = 0)) ?_ (fun k4 hk4 => ?_)
       · rintro _ rfl
         refine deP (P := (· = R)) (fun h => ?_) (fun h => ?_)
         · refine hk3 _ ?_
           have p : dpart (nd, so, st, sz, sy, sn, rl, rz) 5 = [] := if_pos h
           show dacc (nd, so, st, sz, sy, sn, rl, rz) 5 = dacc (nd, so, st, sz, sy, sn, rl, rz) (5 + 1)
           rw [hs 5, p, List.append_nil]
         · refine bdP (P := (· = R)) (x := ([14, 5, 10, 6, 1610612749, 7, 8] : List Int)) rfl ?_
           refine gdP (P := (· = R)) (by constructor <;> simp) ?_
           have p : dpart (nd, so, st, sz, sy, sn, rl, rz) 5 = ent 7 rl := if_neg h
           refine bdP (P := (· = R)) (entry_eq (b := dacc (nd, so, st, sz, sy, sn, rl, rz) 5) (t := 7) (v := rl) (by have := hl' 5 (by omega); omega) (by omega) (by omega) (by omega) (by omega)) ?_
           exact hk3 _ (by rw [hs 5, p])
       refine fP (P := (· = R)) (fun h => by cases h) ?_
       refine fP (P := (· = R)) (fun h => by cases h) ?_
       refine fP (P := (· = R)) (fun h => by cases h) ?_
       refine tP (P := (· = R)) rfl ?_
       refine gdP (P := (· = R)) (by constructor <;> simp) ?_
       exact hk4 _ rfl
     -- 6
     · refine gdP (P := (· = R)) (by constructor <;> simp) ?_
       refine letP (P := (· = R)) ?_
       refine jnC (P := (· = R)) (fun c => c = decide (rz = 0)) ?_ (fun k4 hk4 => ?_)
       · rintro _ rfl
         refine deP (P := (· = R)) (fun h => ?_) (fun h => ?_)
         · refine hk3 _ ?_
           have p : dpart (nd, so, st, sz, sy, sn, rl, rz) 6 = [] := if_pos h
           show dacc (nd, so, st, sz, sy, sn, rl, rz) 6 = dacc (nd, so, st, sz, sy, sn, rl, rz) (6 + 1)
           rw [hs 6, p, List.append_nil]
         · refine bdP (P := (· = R)) (x := ([14, 5, 10, 6, 1610612749, 7, 8] : List Int)) rfl ?_
           refine gdP (P := (· = R)) (by constructor <;> simp) ?_
           have p : dpart (nd, so, st, sz, sy, sn, rl, rz) 6 = ent 8 rz := if_neg h
           refine bdP (P := (· = R)) (entry_eq (b := dacc (nd, so, st, sz, sy, sn, rl, rz) 6) (t := 8) (v := rz) (by have := hl' 6 (by omega); omega) (by omega) (by omega) (by omega) (by omega)) ?_
           exact hk3 _ (by rw [hs 6, p])
       refine fP (P := (· = R)) (fun h => by cases h) ?_
       refine fP (P := (· = R)) (fun h => by cases h) ?_
       refine fP (P := (· = R)) (fun h => by cases h) ?_
       refine tP (P := (· = R)) rfl ?_
       refine gdP (P := (· = R)) (by constructor <;> simp) ?_
       exact hk4 _ rfl
   · obtain rfl : i = 7 := by omega
     exact fP (P := (· = R)) (fun h => by cases h) (hkk _ rfl)
 refine scan_Q (P := (· = R)) nd (by omega) (fun _ => 0) (fun i => (((nd.take i).map (ent 1)).flatten, (i : Int))) (kk (dacc (nd, so, st, sz, sy, sn, rl, rz) 0)) (fun _ _ => none) rfl (fun _ => hkk _ rfl) (fun _ h => absurd (firstE_zero _ _ fun _ _ => rfl) h) (fun i rec hi Q q0 _ => ?_) (fun rec Q q => ?_)
 · have hgi : gt nd (i : Int) = nd[i] := gt_nat hi
   have hk := inK_u64 (hnd _ (List.getElem_mem hi))
   refine tP (dif_lt hi) ?_
   refine gdP (by show (0 : Int) <= i /\ (i : Int) < ((nd.length : Nat) : Int); omega) ?_
   have hln : (((nd.take i).map (ent 1)).flatten).length <= 100000 := by
    have := dneed_len (nd.take i, so, st, sz, sy, sn, rl, rz)
    have h2 : (((nd.take i).map (ent 1)).flatten).length = 16 * (nd.take i).length := this
    rw [List.length_take] at h2
    omega
   refine bdP (entry_eq (t := 1) (v := gt nd (i : Int)) (by show (((nd.take i).map (ent 1)).flatten).length <= 900000; omega) (by omega) (by omega) (by rw [hgi]; omega) (by rw [hgi]; omega)) ?_
   refine letP ?_
   have q := q0 rfl
   rw [<- i64s (by omega), take_succ hi, List.map_append, List.flatten_append, List.map_singleton, List.flatten_singleton, <- hgi] at q
   exact q
 · refine fP (by show ¬ decide (((nd.length : Nat) : Int) < ((nd.length : Nat) : Int)) = true; simp) ?_
   rw [List.take_length]
   have e : dacc (nd, so, st, sz, sy, sn, rl, rz) 0 = (nd.map (ent 1)).flatten := by unfold dacc dneed; simp
   rw [e] at q
   exact q
end Dm

namespace Dm
open Go
open IntKind (u64 i64 u8 u32)
def tabYo (c : List Int) : List Sym × Int := if c.length % 24 = 0 then (tabY c, 0) else ([], 10)
def tabSo (c : List Int) : List Rel7 × Int := if c.length % 24 = 0 then (tabS c, 0) else ([], 10)
def symC (l : List Seg) (b : List Int) (s : Seg) : List Int × Int := bytesS l b (dv b s 3) (24 * dv b s 4)
def symT (l : List Seg) (b : List Int) (s : Seg) : List Sym := if dv b s 4 = 0 then [] else (tabYo (symC l b s).1).1
def symsE (l : List Seg) (b : List Int) (s : Seg) : Int :=
 if dv b s 4 > 1024 then 13 else if dv b s 4 = 0 then 0 else if (symC l b s).2 = 0 then (if chkY (symT l b s) = 0 then firstE (fun y => (atS (tabT l b s) y.1).2) (symT l b s) else 11) else (symC l b s).2
def symN (l : List Seg) (b : List Int) (s : Seg) : List (List UInt8) := (symT l b s).map fun y => (atS (tabT l b s) y.1).1
def relC (l : List Seg) (b : List Int) (s : Seg) : List Int × Int := bytesS l b (dv b s 5) (dv b s 6)
def relT (l : List Seg) (b : List Int) (s : Seg) : List Rel7 := if dv b s 6 = 0 then [] else (tabSo (relC l b s).1).1
def relsE (l : List Seg) (b : List Int) (s : Seg) (n : Int) : Int :=
 if dv b s 6 > 65536 then 13 else if dv b s 6 = 0 then 0 else if (relC l b s).2 = 0 then (if (tabSo (relC l b s).1).2 = 0 then firstE (errR n) (relT l b s) else (tabSo (relC l b s).1).2) else (relC l b s).2
def totE (l : List Seg) (b : List Int) (s : Seg) : Int := if nmdE l b s = 0 then (if symsE l b s = 0 then relsE l b s ((symT l b s).length : Int) else symsE l b s) else nmdE l b s
theorem firstE_mem {α : Type} {f : α -> Int} : ∀ {l : List α}, firstE f l ≠ 0 -> ∃ x ∈ l, firstE f l = f x
 | [], h => absurd rfl h
 | x :: xs, h => by
  rw [firstE] at h ⊢
  split
  · rename_i hx
    rw [if_pos hx] at h
    obtain ⟨y, h1, h2⟩ := firstE_mem h
    exact ⟨y, by simp [h1], h2⟩
  · exact ⟨x, by simp, rfl⟩
theorem chkY_cases (l : List Sym) : chkY l = 0 \/ chkY l = 11 := by
 cases l with
 | nil => exact .inl rfl
 | cons s l =>
  by_cases hn : nilY s = true
  · have e : chkY (s :: l) = firstE errY l := by rw [chkY, if_pos hn]
    rw [e]
    by_cases h : firstE errY l = 0
    · exact .inl h
    · obtain ⟨x, _, hx⟩ := firstE_mem h
      rw [hx] at h ⊢
      unfold errY at h ⊢
      cases hm : mayY x
      · exact .inr (if_neg (by decide))
      · rw [hm] at h
        exact absurd (if_pos rfl) h
  · exact .inr (by rw [chkY, if_neg hn])
theorem symT_wf {b : List Int} (hB : Bytes b) (l : List Seg) (s : Seg) : ∀ y ∈ symT l b s, Wf06 y := by
 unfold symT tabYo
 split
 · intro y h; simp at h
 · split
   · exact wf_tabY (bytesS_bytes hB _ _ _)
   · intro y h; simp at h
theorem symT_len (l : List Seg) (b : List Int) (s : Seg) : (symT l b s).length <= b.length := by
 unfold symT tabYo
 split
 · simp
 · split
   · have := len_tabY (symC l b s).1
     have := bytesS_len b l (dv b s 3) (24 * dv b s 4)
     show (tabY (symC l b s).1).length <= _
     unfold symC at *
     omega
   · simp
theorem relT_wf {b : List Int} (hB : Bytes b) (l : List Seg) (s : Seg) : ∀ y ∈ relT l b s, Wf07 y := by
 unfold relT tabSo
 split
 · intro y h; simp at h
 · split
   · exact wf_tabS (bytesS_bytes hB _ _ _)
   · intro y h; simp at h
theorem relT_len (l : List Seg) (b : List Int) (s : Seg) : (relT l b s).length <= b.length := by
 unfold relT tabSo
 split
 · simp
 · split
   · have := len_tabS (relC l b s).1
     have := bytesS_len b l (dv b s 5) (dv b s 6)
     show (tabS (relC l b s).1).length <= _
     unfold relC at *
     omega
   · simp
theorem wf24 {n : Int} (h0 : 0 <= n) (h : n <= 1024) : InK .u64 (24 * n) := ⟨by show (0 : Int) <= _; omega, by show _ <= (18446744073709551615 : Int); omega⟩
theorem symbols_run {P : Option (Int × Rdr) -> Prop} {l : List Seg} (hl : l.length <= 100) (hw : ∀ s ∈ l, Wf04 s) {b : List Int} (hb : b.length <= 65536) (hB : Bytes b) {s : Seg} (h : Int × Int × Int × Int) (so : List UInt8) (nd : List (List UInt8)) (rl : List Rel7)
    (hE : ∀ e R', e ≠ 0 -> symsE l b s = e -> P (some (e, R'))) (hF : symsE l b s = 0 -> P (some (0, ((h, l, so, nd, symN l b s, symT l b s, rl, b), infOf (dynX b s), tabT l b s)))) :
    P (image_reader_symbols ((h, l, so, nd, [], [], rl, b), infOf (dynX b s), tabT l b s)) := by
 have hCB := segC_bytes hB s
 have hTl : (tabT l b s).length <= b.length := bytesS_len b l (dv b s 1) (dv b s 2)
 have hv : ∀ k, InK .u64 (dv b s k) := fun k => wf_dval hCB k
 have h4 := inK_u64 (hv 4)
 have hTw := symT_wf hB l s
 have hTn := symT_len l b s
 unfold image_reader_symbols
 refine deP (fun h1 => ?_) (fun h1 => ?_)
 · have h1 : dv b s 4 > 1024 := h1
   exact hE _ _ (by decide) (by unfold symsE; rw [if_pos h1])
 have h1 : ¬ dv b s 4 > 1024 := h1
 refine eqP (fun h2 => ?_) (fun h2 => ?_)
 · have h2 : dv b s 4 = 0 := h2
   have e : symT l b s = [] := by unfold symT; rw [if_pos h2]
   have := hF (by unfold symsE; rw [if_neg h1, if_pos h2])
   unfold symN at this
   rw [e] at this
   exact this
 have h2 : dv b s 4 ≠ 0 := h2
 have e24 : u64.wrap (24 * dv b s 4) = 24 * dv b s 4 := u64w (by omega)
 refine bdP (x := symC l b s) (by
  show image_reader_at ((h, l, so, nd, [], [], rl, b), infOf (dynX b s), tabT l b s) (dv b s 3) (u64.wrap (24 * dv b s 4)) = _
  rw [e24]
  exact at_eq hl hw hb (hv 3) (wf24 (by omega) (by omega)) h so nd [] [] rl _ _) ?_
 have eT : symT l b s = (tabYo (symC l b s).1).1 := by unfold symT; rw [if_neg h2]
 have hCl : (symC l b s).1.length <= b.length := bytesS_len b l (dv b s 3) (24 * dv b s 4)
 refine neP (fun h3 => ?_) (fun h3 => ?_)
 rotate_left
 · exact hE _ _ h3 (by unfold symsE; rw [if_neg h1, if_neg h2, if_neg h3])
 refine bdP (x := (symT l b s, (tabYo (symC l b s).1).2)) (by
  rw [eT]
  exact symbols_Table_eq (b := (symC l b s).1) (by omega) (bytesS_bytes hB _ _ _)) ?_
 refine bdP (x := chkY (symT l b s)) (symbols_Check_eq (l := symT l b s) (by omega) hTw) ?_
 refine neP (fun h5 => ?_) (fun h5 => ?_)
 rotate_left
 · rw [(chkY_cases _).resolve_left h5]
   exact hE _ _ (by decide) (by unfold symsE; rw [if_neg h1, if_neg h2, if_pos h3, if_neg h5])
 have e : symsE l b s = firstE (fun y => (atS (tabT l b s) y.1).2) (symT l b s) := by unfold symsE; rw [if_neg h1, if_neg h2, if_pos h3, if_pos h5]
 refine jnC (fun R => symsE l b s = 0 /\ R = ((h, l, so, nd, symN l b s, symT l b s, rl, b), infOf (dynX b s), tabT l b s)) ?_ (fun kk hkk => ?_)
 · rintro _ ⟨h0, rfl⟩
   exact hF h0
 refine scan_Q (symT l b s) (by omega) (fun y => (atS (tabT l b s) y.1).2)
  (fun i => ((i : Int), ((h, l, so, nd, ((symT l b s).take i).map (fun y => (atS (tabT l b s) y.1).1), symT l b s, rl, b), infOf (dynX b s), tabT l b s)))
  (kk ((h, l, so, nd, symN l b s, symT l b s, rl, b), infOf (dynX b s), tabT l b s))
  (fun i e => some (e, ((h, l, so, nd, ((symT l b s).take i).map (fun y => (atS (tabT l b s) y.1).1), symT l b s, rl, b), infOf (dynX b s), tabT l b s))) rfl
  (fun hz => hkk _ ⟨by rw [e, hz], rfl⟩) (fun k hz => hE _ _ hz e) (fun i rec hi Q q0 q1 => ?_) (fun rec Q q => ?_)
 · have hda := inK_u32 (hTw _ (List.getElem_mem hi)).1
   have hgi : gt (symT l b s) (i : Int) = (symT l b s)[i] := gt_nat hi
   refine tP (dif_lt hi) ?_
   refine gdP (by show (0 : Int) <= i /\ (i : Int) < (((symT l b s).length : Nat) : Int); omega) ?_
   refine bdP (by show names_At (tabT l b s) (u64.wrap ((gt (symT l b s) (i : Int)).1)) = _; rw [hgi, u64w (by omega)]; exact names_At_eq (by omega) (by omega)) ?_
   refine neP (fun h6 => ?_) (fun h6 => ?_)
   · refine gdP (by show ((((symT l b s).take i).map _).length + 1) * 16 <= _; rw [List.length_map, List.length_take]; omega) ?_
     have q := q0 h6
     rw [<- i64s (by omega), take_succ hi, List.map_append, List.map_singleton] at q
     exact q
   · exact q1 h6
 · refine fP (by show ¬ decide ((((symT l b s).length : Nat) : Int) < (((symT l b s).length : Nat) : Int)) = true; simp) ?_
   rw [List.take_length]
   exact q
theorem relocations_run {P : Option (Int × Rdr) -> Prop} {l : List Seg} (hl : l.length <= 100) (hw : ∀ s ∈ l, Wf04 s) {b : List Int} (hb : b.length <= 65536) (hB : Bytes b) {s : Seg} (h : Int × Int × Int × Int) (so : List UInt8) (nd nm : List (List UInt8)) {sy : List Sym} (hsy : sy.length <= 1000000)
    (hE : ∀ e R', e ≠ 0 -> relsE l b s (sy.length : Int) = e -> P (some (e, R'))) (hF : relsE l b s (sy.length : Int) = 0 -> P (some (0, ((h, l, so, nd, nm, sy, relT l b s, b), infOf (dynX b s), tabT l b s)))) :
    P (image_reader_relocations ((h, l, so, nd, nm, sy, [], b), infOf (dynX b s), tabT l b s)) := by
 have hCB := segC_bytes hB s
 have hv : ∀ k, InK .u64 (dv b s k) := fun k => wf_dval hCB k
 have hTw := relT_wf hB l s
 have hTn := relT_len l b s
 unfold image_reader_relocations
 refine deP (fun h1 => ?_) (fun h1 => ?_)
 · have h1 : dv b s 6 > 65536 := h1
   exact hE _ _ (by decide) (by unfold relsE; rw [if_pos h1])
 have h1 : ¬ dv b s 6 > 65536 := h1
 refine eqP (fun h2 => ?_) (fun h2 => ?_)
 · have h2 : dv b s 6 = 0 := h2
   have e : relT l b s = [] := by unfold relT; rw [if_pos h2]
   have := hF (by unfold relsE; rw [if_neg h1, if_pos h2])
   rw [e] at this
   exact this
 have h2 : dv b s 6 ≠ 0 := h2
 refine bdP (x := relC l b s) (at_eq hl hw hb (hv 5) (hv 6) h so nd nm sy [] _ _) ?_
 have eT : relT l b s = (tabSo (relC l b s).1).1 := by unfold relT; rw [if_neg h2]
 have hCl : (relC l b s).1.length <= b.length := bytesS_len b l (dv b s 5) (dv b s 6)
 refine neP (fun h3 => ?_) (fun h3 => ?_)
 rotate_left
 · exact hE _ _ h3 (by unfold relsE; rw [if_neg h1, if_neg h2, if_neg h3])
 refine bdP (x := (relT l b s, (tabSo (relC l b s).1).2)) (by
  rw [eT]
  exact rela_Table_eq (b := (relC l b s).1) (by omega) (bytesS_bytes hB _ _ _)) ?_
 refine neP (fun h4 => ?_) (fun h4 => ?_)
 rotate_left
 · exact hE _ _ h4 (by unfold relsE; rw [if_neg h1, if_neg h2, if_pos h3, if_neg h4])
 refine bdP (x := firstE (errR (sy.length : Int)) (relT l b s)) (by
  exact rela_Check_eq (l := relT l b s) (symbols := (sy.length : Int)) (by omega) hTw ⟨by show (-9223372036854775808 : Int) <= _; omega, by show _ <= (9223372036854775807 : Int); omega⟩) ?_
 have e : relsE l b s (sy.length : Int) = firstE (errR (sy.length : Int)) (relT l b s) := by unfold relsE; rw [if_neg h1, if_neg h2, if_pos h3, if_pos h4]
 by_cases hz : firstE (errR (sy.length : Int)) (relT l b s) = 0
 · rw [hz]
   exact hF (by rw [e, hz])
 · exact hE _ _ hz e
end Dm

namespace Dm
open Go
open IntKind (u64 i64 u8 u32)
abbrev Def9 := List UInt8 × Int × Int × Bool
abbrev Fix9 := Int × Int × Int × Int × Int
abbrev Spec9 := Int × List UInt8 × List (List UInt8) × Int × List Int × List Int × Int × List Int × Int × List Def9 × List Fix9
abbrev WfS (x : Spec9) : Prop := InK .i64 x.1 /\ x.2.1.length <= 9223372036854775807 /\ (x.2.2.1.length <= 9223372036854775807 /\ ∀ y0 ∈ x.2.2.1, y0.length <= 9223372036854775807) /\ InK .u64 x.2.2.2.1 /\ (x.2.2.2.2.1.length <= 9223372036854775807 /\ ∀ y0 ∈ x.2.2.2.2.1, InK .u8 y0) /\ (x.2.2.2.2.2.1.length <= 9223372036854775807 /\ ∀ y0 ∈ x.2.2.2.2.2.1, InK .u8 y0) /\ InK .u64 x.2.2.2.2.2.2.1 /\ (x.2.2.2.2.2.2.2.1.length <= 9223372036854775807 /\ ∀ y0 ∈ x.2.2.2.2.2.2.2.1, InK .u8 y0) /\ InK .u64 x.2.2.2.2.2.2.2.2.1 /\ (x.2.2.2.2.2.2.2.2.2.1.length <= 9223372036854775807 /\ ∀ y0 ∈ x.2.2.2.2.2.2.2.2.2.1, (y0.1.length <= 9223372036854775807 /\ InK .i64 y0.2.1 /\ InK .u64 y0.2.2.1 /\ True)) /\ (x.2.2.2.2.2.2.2.2.2.2.length <= 9223372036854775807 /\ ∀ y0 ∈ x.2.2.2.2.2.2.2.2.2.2, (InK .i64 y0.1 /\ InK .u64 y0.2.1 /\ InK .u32 y0.2.2.1 /\ InK .i64 y0.2.2.2.1 /\ InK .i64 y0.2.2.2.2))
structure Few (so : List UInt8) (nd : List (List UInt8)) (code data tls : List Int) (defs : List Def9) (fixes : List Fix9) : Prop where
 c1 : code.length <= 3000
 c2 : data.length <= 3000
 c3 : tls.length <= 3000
 c4 : defs.length <= 30
 c5 : fixes.length <= 30
 c6 : nd.length <= 20
 c7 : so.length <= 300
 dn : ∀ d ∈ defs, d.1.length <= 300
 nn : ∀ n ∈ nd, n.length <= 300
theorem firstE_all {α : Type} {f : α -> Int} : ∀ {l : List α}, firstE f l = 0 -> ∀ x ∈ l, f x = 0
 | [], _, x, h => by simp at h
 | y :: l, e, x, h => by
  rw [firstE] at e
  split at e
  · rename_i hy
    rw [List.mem_cons] at h
    rcases h with rfl | h
    · exact hy
    · exact firstE_all e x h
  · rename_i hy; exact absurd e hy
theorem few_run {P : Option Bool -> Prop} {kind : Int} {so : List UInt8} {nd : List (List UInt8)} {en : Int} {code data : List Int} {bss : Int} {tls : List Int} {tb : Int} {defs : List Def9} {fixes : List Fix9}
    (h0 : P (some false)) (h1 : Few so nd code data tls defs fixes -> P (some true)) : P (law09_few (kind, so, nd, en, code, data, bss, tls, tb, defs, fixes)) := by
 unfold law09_few
 refine jnC (fun c => c = false -> code.length <= 3000 /\ data.length <= 3000 /\ tls.length <= 3000 /\ defs.length <= 30 /\ fixes.length <= 30 /\ nd.length <= 20 /\ so.length <= 300) ?_ (fun kk hkk => ?_)
 · intro c hc
   refine ifP (fun _ => h0) (fun h => ?_)
   obtain ⟨a1, a2, a3, a4, a5, a6, a7⟩ := hc (by simpa using h)
   refine jnC (fun _ => ∀ d ∈ defs, d.1.length <= 300) ?_ (fun k2 hk2 => ?_)
   · intro _ dn
     refine jnC (fun _ => ∀ d ∈ nd, d.length <= 300) ?_ (fun k2 hk2 => ?_)
     · intro _ nn
       exact h1 ⟨a1, a2, a3, a4, a5, a6, a7, dn, nn⟩
     refine scan_Q nd (by omega) (fun d => if d.length > 300 then 1 else 0) (fun i => (i : Int)) (k2 ()) (fun _ _ => some false) rfl (fun hz => hk2 _ fun d hd => ?_) (fun _ _ => h0) (fun i rec hi Q q0 q1 => ?_) (fun rec Q q => ?_)
     · have := firstE_all hz d hd
       split at this
       · cases this
       · omega
     · refine tP (dif_lt hi) ?_
       refine gdP (by show (0 : Int) <= i /\ (i : Int) < ((nd.length : Nat) : Int); omega) ?_
       refine deP (fun h => ?_) (fun h => ?_)
       · have h : ((nd[i].length : Nat) : Int) > 300 := by rw [<- gt_nat hi]; exact h
         rw [if_pos (by omega)] at q1
         exact q1 (by decide)
       · have h : ¬ ((nd[i].length : Nat) : Int) > 300 := by rw [<- gt_nat hi]; exact h
         refine letP ?_
         have q := q0 (if_neg (by omega))
         rw [<- i64s (by omega)] at q
         exact q
     · exact fP (by show ¬ decide (((nd.length : Nat) : Int) < ((nd.length : Nat) : Int)) = true; simp) q
   refine scan_Q defs (by omega) (fun d => if d.1.length > 300 then 1 else 0) (fun i => (i : Int)) (k2 ()) (fun _ _ => some false) rfl (fun hz => hk2 _ fun d hd => ?_) (fun _ _ => h0) (fun i rec hi Q q0 q1 => ?_) (fun rec Q q => ?_)
   · have := firstE_all hz d hd
     split at this
     · cases this
     · omega
   · refine tP (dif_lt hi) ?_
     refine gdP (by show (0 : Int) <= i /\ (i : Int) < ((defs.length : Nat) : Int); omega) ?_
     refine deP (fun h => ?_) (fun h => ?_)
     · have h : ((defs[i].1.length : Nat) : Int) > 300 := by rw [<- gt_nat hi]; exact h
       rw [if_pos (by omega)] at q1
       exact q1 (by decide)
     · have h : ¬ ((defs[i].1.length : Nat) : Int) > 300 := by rw [<- gt_nat hi]; exact h
       refine letP ?_
       have q := q0 (if_neg (by omega))
       rw [<- i64s (by omega)] at q
       exact q
   · exact fP (by show ¬ decide (((defs.length : Nat) : Int) < ((defs.length : Nat) : Int)) = true; simp) q
 refine deP (fun c1 => hkk _ (fun h => by cases h)) (fun c1 => ?_)
 refine deP (fun c2 => hkk _ (fun h => by cases h)) (fun c2 => ?_)
 refine deP (fun c3 => hkk _ (fun h => by cases h)) (fun c3 => ?_)
 refine deP (fun c4 => hkk _ (fun h => by cases h)) (fun c4 => ?_)
 refine deP (fun c5 => hkk _ (fun h => by cases h)) (fun c5 => ?_)
 refine deP (fun c6 => hkk _ (fun h => by cases h)) (fun c6 => ?_)
 refine hkk _ (fun h => ?_)
 have c1 : ¬ ((code.length : Nat) : Int) > 3000 := c1
 have c2 : ¬ ((data.length : Nat) : Int) > 3000 := c2
 have c3 : ¬ ((tls.length : Nat) : Int) > 3000 := c3
 have c4 : ¬ ((defs.length : Nat) : Int) > 30 := c4
 have c5 : ¬ ((fixes.length : Nat) : Int) > 30 := c5
 have c6 : ¬ ((nd.length : Nat) : Int) > 20 := c6
 have c7 : ¬ ((so.length : Nat) : Int) > 300 := of_decide_eq_false h
 omega
theorem spec_eq (s : Spec9) (h1 : s.2.2.2.2.2.2.2.2.2.1.length <= 1000) (h2 : s.2.2.2.2.2.2.2.2.2.2.length <= 1000) : law09_spec s = some s := by
 obtain ⟨kind, so, nd, en, code, data, bss, tls, tb, defs, fixes⟩ := s
 have h1 : defs.length <= 1000 := h1
 have h2 : fixes.length <= 1000 := h2
 generalize hR : (some (kind, so, nd, en, code, data, bss, tls, tb, defs, fixes) : Option Spec9) = R
 unfold law09_spec
 refine jnC (P := (· = R)) (fun c => c = (kind, so, nd, en, code, data, bss, tls, tb, defs, [])) ?_ (fun kk hkk => ?_)
 · rintro _ rfl
   refine jnC (P := (· = R)) (fun c => c = (kind, so, nd, en, code, data, bss, tls, tb, defs, fixes)) ?_ (fun kk hkk => ?_)
   · rintro _ rfl
     exact hR
   refine scan_Q (P := (· = R)) fixes (by omega) (fun _ => 0) (fun i => ((i : Int), (kind, so, nd, en, code, data, bss, tls, tb, defs, fixes.take i))) (kk (kind, so, nd, en, code, data, bss, tls, tb, defs, fixes)) (fun _ _ => none) rfl (fun _ => hkk _ rfl) (fun _ h => absurd (firstE_zero _ _ fun _ _ => rfl) h) (fun i rec hi Q q0 _ => ?_) (fun rec Q q => ?_)
   · have hgi : gt fixes (i : Int) = fixes[i] := gt_nat hi
     have hg : (0 : Int) <= i /\ (i : Int) < ((fixes.length : Nat) : Int) := by omega
     refine tP (dif_lt hi) ?_
     refine gdP hg ?_
     refine gdP hg ?_
     refine gdP hg ?_
     refine gdP hg ?_
     refine gdP hg ?_
     refine gdP (by show ((fixes.take i).length + 1) * 40 <= _; rw [List.length_take]; omega) ?_
     refine letP ?_
     have q := q0 rfl
     rw [<- i64s (by omega), take_succ hi, <- hgi] at q
     exact q
   · refine fP (by show ¬ decide (((fixes.length : Nat) : Int) < ((fixes.length : Nat) : Int)) = true; simp) ?_
     rw [List.take_length]
     exact q
 refine scan_Q (P := (· = R)) defs (by omega) (fun _ => 0) (fun i => ((i : Int), (kind, so, nd, en, code, data, bss, tls, tb, defs.take i, []))) (kk (kind, so, nd, en, code, data, bss, tls, tb, defs, [])) (fun _ _ => none) rfl (fun _ => hkk _ rfl) (fun _ h => absurd (firstE_zero _ _ fun _ _ => rfl) h) (fun i rec hi Q q0 _ => ?_) (fun rec Q q => ?_)
 · have hgi : gt defs (i : Int) = defs[i] := gt_nat hi
   have hg : (0 : Int) <= i /\ (i : Int) < ((defs.length : Nat) : Int) := by omega
   refine tP (dif_lt hi) ?_
   refine gdP hg ?_
   refine gdP hg ?_
   refine gdP hg ?_
   refine gdP hg ?_
   refine gdP (by show ((defs.take i).length + 1) * 40 <= _; rw [List.length_take]; omega) ?_
   refine letP ?_
   have q := q0 rfl
   rw [<- i64s (by omega), take_succ hi, <- hgi] at q
   exact q
 · refine fP (by show ¬ decide (((defs.length : Nat) : Int) < ((defs.length : Nat) : Int)) = true; simp) ?_
   rw [List.take_length]
   exact q
def badD (d : Def9) : Bool := decide (d.2.1 < 0) || decide (d.2.1 > 3)
def badF (n : Nat) (f : Fix9) : Bool := (f.1 != 1 && f.1 != 2) || decide (f.2.2.2.1 >= (n : Int))
def badK (k : Int) : Bool := k != 2 && k != 3
def bigS (code data tls : List Int) (bss tb : Int) : Bool := decide (bss > 1048576) || (decide (tb > 1048576) || decide (((code.length + data.length + tls.length : Nat) : Int) > 65536))
def mayS (k : Int) (code data tls : List Int) (bss tb : Int) (defs : List Def9) (fixes : List Fix9) : Int :=
 if (badK k || (defs.any badD || fixes.any (badF defs.length))) = true then 1 else if bigS code data tls bss tb = true then 13 else 0
theorem may1_eq (d : Def9) : image_may_1 d = some (badD d) := by
 unfold image_may_1 badD
 rw [jn_eq]
 by_cases h : d.2.1 < 0
 · rw [if_pos (by simpa using h), decide_eq_true h]; rfl
 · rw [if_neg (by simpa using h), decide_eq_false h]; rfl
theorem may2_eq (f : Fix9) (q : Spec9) : image_may_2 f q = some (badF q.2.2.2.2.2.2.2.2.2.1.length f) := by
 unfold image_may_2 badF
 rw [jn_eq]
 by_cases h1 : f.1 = 1
 · rw [if_neg (by simpa using h1), show (f.1 != 1) = false by simpa using h1]; rfl
 · rw [if_pos (by simpa using h1), show (f.1 != 1) = true by simpa using h1]
   by_cases h2 : f.1 = 2
   · rw [if_neg (by simpa using h2), show (f.1 != 2) = false by simpa using h2]; rfl
   · rw [if_pos (by simpa using h2), show (f.1 != 2) = true by simpa using h2]; rfl
theorem may_big {ρ : Type} {P : Option ρ -> Prop} {code data tls : List Int} {bss tb : Int} (h : code.length + data.length + tls.length <= 1000000) {k : Bool -> Option ρ} (hk : P (k (bigS code data tls bss tb))) :
    P (if (decide (bss > 1048576)) = true then k true else (if (decide (tb > 1048576)) = true then k true else k (decide ((i64.wrap ((i64.wrap (((code.length : Nat) : Int) + ((data.length : Nat) : Int))) + ((tls.length : Nat) : Int))) > 65536)))) := by
 unfold bigS at hk
 refine deP (fun c => ?_) (fun c => ?_)
 · rw [decide_eq_true c] at hk; exact hk
 · rw [decide_eq_false c] at hk
   refine deP (fun d => ?_) (fun d => ?_)
   · rw [decide_eq_true d] at hk; exact hk
   · rw [decide_eq_false d] at hk
     have e1 : i64.wrap (((code.length : Nat) : Int) + ((data.length : Nat) : Int)) = ((code.length : Nat) : Int) + ((data.length : Nat) : Int) := i64w (by omega)
     rw [e1, i64w (by omega), show ((code.length : Nat) : Int) + ((data.length : Nat) : Int) + ((tls.length : Nat) : Int) = ((code.length + data.length + tls.length : Nat) : Int) by omega]
     exact hk
theorem image_may_eq {kind : Int} {so : List UInt8} {nd : List (List UInt8)} {en : Int} {code data : List Int} {bss : Int} {tls : List Int} {tb : Int} {defs : List Def9} {fixes : List Fix9} (hd : defs.length <= 1000) (hf : fixes.length <= 1000) (h : code.length + data.length + tls.length <= 1000000) :
    image_may (kind, so, nd, en, code, data, bss, tls, tb, defs, fixes) = some (mayS kind code data tls bss tb defs fixes) := by
 have hI1 : slices_IndexFunc_image_Def_image_Def_may_1 defs = some (ixN 0 (fI badD defs)) := by
  unfold slices_IndexFunc_image_Def_image_Def_may_1
  rw [jn_eq]
  refine scan_ix defs (by omega) _ ?_ ?_
  · intro i rec hi
    rw [dif_lt hi, if_pos rfl, gd_pos (by omega), gt_nat hi, bd_eq (may1_eq _), i64s (by omega)]
  · intro rec
    rw [dif_ge (Nat.le_refl _), if_neg (by simp)]
 have hI2 : slices_IndexFunc_image_Fix_image_Fix_may_2 fixes (kind, so, nd, en, code, data, bss, tls, tb, defs, fixes) = some (ixN 0 (fI (badF defs.length) fixes)) := by
  unfold slices_IndexFunc_image_Fix_image_Fix_may_2
  rw [jn_eq]
  refine scan_ix fixes (by omega) _ ?_ ?_
  · intro i rec hi
    rw [dif_lt hi, if_pos rfl, gd_pos (by omega), gt_nat hi, bd_eq (may2_eq _ _), i64s (by omega)]
  · intro rec
    rw [dif_ge (Nat.le_refl _), if_neg (by simp)]
 have hC1 : slices_ContainsFunc_image_Def_image_Def_may_1 defs = some (defs.any badD) := by
  unfold slices_ContainsFunc_image_Def_image_Def_may_1
  rw [bd_eq hI1, ixN_ge, fI_isSome]
 have hC2 : slices_ContainsFunc_image_Fix_image_Fix_may_2 fixes (kind, so, nd, en, code, data, bss, tls, tb, defs, fixes) = some (fixes.any (badF defs.length)) := by
  unfold slices_ContainsFunc_image_Fix_image_Fix_may_2
  rw [bd_eq hI2, ixN_ge, fI_isSome]
 generalize hR : some (mayS kind code data tls bss tb defs fixes) = R
 unfold mayS at hR
 unfold image_may
 refine jnC (P := (· = R)) (fun c => c = (defs.any badD || fixes.any (badF defs.length))) ?_ (fun kk hkk => ?_)
 · rintro _ rfl
   refine jnC (P := (· = R)) (fun c => c = (badK kind || (defs.any badD || fixes.any (badF defs.length)))) ?_ (fun kk hkk => ?_)
   · rintro _ rfl
     refine ifP (P := (· = R)) (fun c => ?_) (fun c => ?_)
     · rw [if_pos c] at hR; exact hR
     · rw [if_neg c] at hR
       refine jnC (P := (· = R)) (fun c => c = bigS code data tls bss tb) ?_ (fun kk hkk => ?_)
       · rintro _ rfl
         refine ifP (P := (· = R)) (fun c => ?_) (fun c => ?_)
         · rw [if_pos c] at hR; exact hR
         · rw [if_neg c] at hR; exact hR
       exact may_big (P := (· = R)) h (hkk _ rfl)
   refine neP (P := (· = R)) (fun c => ?_) (fun c => ?_)
   · have c : kind = 2 := c
     refine hkk _ ?_
     unfold badK; rw [c]; rfl
   · have c : kind ≠ 2 := c
     refine neP (P := (· = R)) (fun d => ?_) (fun d => ?_)
     · have d : kind = 3 := d
       refine hkk _ ?_
       unfold badK; rw [d]; rfl
     · have d : kind ≠ 3 := d
       refine hkk _ ?_
       unfold badK
       rw [show (kind != 2) = true by simpa using c, show (kind != 3) = true by simpa using d]; rfl
 refine bdP (P := (· = R)) hC1 ?_
 refine ifP (P := (· = R)) (fun c => ?_) (fun c => ?_)
 · exact hkk _ (by rw [c]; rfl)
 · have c : defs.any badD = false := by simpa using c
   refine bdP (P := (· = R)) hC2 ?_
   exact hkk _ (by rw [c]; rfl)
theorem any_firstE {α : Type} (p : α -> Bool) (l : List α) (e : Int) (he : e ≠ 0) : (firstE (fun x => if p x then e else 0) l = 0 ↔ l.any p = false) /\ (firstE (fun x => if p x then e else 0) l ≠ 0 -> firstE (fun x => if p x then e else 0) l = e) := by
 induction l with
 | nil => simp [firstE]
 | cons x xs ih =>
  rw [firstE, List.any_cons]
  cases hx : p x
  · simpa using ih
  · simp [he]
theorem ref09_may_eq {kind : Int} {so : List UInt8} {nd : List (List UInt8)} {en : Int} {code data : List Int} {bss : Int} {tls : List Int} {tb : Int} {defs : List Def9} {fixes : List Fix9} (hd : defs.length <= 1000) (hf : fixes.length <= 1000) (h : code.length + data.length + tls.length <= 1000000) :
    ref09_may (kind, so, nd, en, code, data, bss, tls, tb, defs, fixes) = some (mayS kind code data tls bss tb defs fixes) := by
 generalize hR : some (mayS kind code data tls bss tb defs fixes) = R
 unfold mayS at hR
 have a1 := any_firstE badD defs 1 (by decide)
 have a2 := any_firstE (badF defs.length) fixes 1 (by decide)
 unfold ref09_may
 refine jnC (P := (· = R)) (fun c => c = badK kind) ?_ (fun kk hkk => ?_)
 · rintro _ rfl
   refine ifP (P := (· = R)) (fun c => ?_) (fun c => ?_)
   · rw [c] at hR; exact hR
   have c : badK kind = false := by simpa using c
   rw [c, Bool.false_or] at hR
   refine jnC (P := (· = R)) (fun _ => defs.any badD = false) ?_ (fun k2 hk2 => ?_)
   · intro _ d1
     rw [d1, Bool.false_or] at hR
     refine jnC (P := (· = R)) (fun _ => fixes.any (badF defs.length) = false) ?_ (fun k2 hk2 => ?_)
     · intro _ d2
       rw [d2, if_neg (by decide)] at hR
       refine jnC (P := (· = R)) (fun c => c = bigS code data tls bss tb) ?_ (fun kk hkk => ?_)
       · rintro _ rfl
         refine ifP (P := (· = R)) (fun c => ?_) (fun c => ?_)
         · rw [if_pos c] at hR; exact hR
         · rw [if_neg c] at hR; exact hR
       exact may_big (P := (· = R)) h (hkk _ rfl)
     refine scan_Q (P := (· = R)) fixes (by omega) (fun x => if badF defs.length x then 1 else 0) (fun i => (i : Int)) (k2 ()) (fun _ e => some e) rfl (fun hz => hk2 _ (a2.1.1 hz)) (fun k hz => ?_) (fun i rec hi Q q0 q1 => ?_) (fun rec Q q => ?_)
     · have : fixes.any (badF defs.length) = true := by cases e : fixes.any (badF defs.length); exact absurd (a2.1.2 e) hz; rfl
       rw [this, if_pos rfl] at hR
       rw [a2.2 hz]; exact hR
     · have hg : (0 : Int) <= i /\ (i : Int) < ((fixes.length : Nat) : Int) := by omega
       have hgi : gt fixes (i : Int) = fixes[i] := gt_nat hi
       refine tP (dif_lt hi) ?_
       refine jnC (fun c => c = badF defs.length fixes[i]) ?_ (fun k3 hk3 => ?_)
       · rintro _ rfl
         refine ifP (fun c => ?_) (fun c => ?_)
         · rw [if_pos c] at q1; exact q1 (by decide)
         · refine letP ?_
           have q := q0 (if_neg c)
           rw [<- i64s (by omega)] at q
           exact q
       refine gdP hg ?_
       rw [hgi]
       refine neP (fun c => ?_) (fun c => ?_)
       · have c : fixes[i].1 = 1 := c
         refine gdP hg ?_
         refine hk3 _ ?_
         unfold badF; rw [show (fixes[i].1 != 1) = false by simpa using c]; rfl
       · have c : fixes[i].1 ≠ 1 := c
         refine gdP hg ?_
         refine neP (fun d => ?_) (fun d => ?_)
         · have d : fixes[i].1 = 2 := d
           refine gdP hg ?_
           refine hk3 _ ?_
           unfold badF; rw [show (fixes[i].1 != 2) = false by simpa using d, Bool.and_false]; rfl
         · have d : fixes[i].1 ≠ 2 := d
           refine hk3 _ ?_
           unfold badF; rw [show (fixes[i].1 != 1) = true by simpa using c, show (fixes[i].1 != 2) = true by simpa using d]; rfl
     · exact fP (by show ¬ decide (((fixes.length : Nat) : Int) < ((fixes.length : Nat) : Int)) = true; simp) q
   refine scan_Q (P := (· = R)) defs (by omega) (fun x => if badD x then 1 else 0) (fun i => (i : Int)) (k2 ()) (fun _ e => some e) rfl (fun hz => hk2 _ (a1.1.1 hz)) (fun k hz => ?_) (fun i rec hi Q q0 q1 => ?_) (fun rec Q q => ?_)
   · have : defs.any badD = true := by cases e : defs.any badD; exact absurd (a1.1.2 e) hz; rfl
     rw [this, Bool.true_or, if_pos rfl] at hR
     rw [a1.2 hz]; exact hR
   · have hg : (0 : Int) <= i /\ (i : Int) < ((defs.length : Nat) : Int) := by omega
     have hgi : gt defs (i : Int) = defs[i] := gt_nat hi
     refine tP (dif_lt hi) ?_
     refine jnC (fun c => c = badD defs[i]) ?_ (fun k3 hk3 => ?_)
     · rintro _ rfl
       refine ifP (fun c => ?_) (fun c => ?_)
       · rw [if_pos c] at q1; exact q1 (by decide)
       · refine letP ?_
         have q := q0 (if_neg c)
         rw [<- i64s (by omega)] at q
         exact q
     refine gdP hg ?_
     rw [hgi]
     refine deP (fun c => ?_) (fun c => ?_)
     · have c : defs[i].2.1 < 0 := c
       refine hk3 _ ?_
       unfold badD; rw [decide_eq_true c]; rfl
     · have c : ¬ defs[i].2.1 < 0 := c
       refine gdP hg ?_
       refine hk3 _ ?_
       unfold badD; rw [decide_eq_false c]; rfl
   · exact fP (by show ¬ decide (((defs.length : Nat) : Int) < ((defs.length : Nat) : Int)) = true; simp) q
 refine neP (P := (· = R)) (fun c => ?_) (fun c => ?_)
 · have c : kind = 2 := c
   refine hkk _ ?_
   unfold badK; rw [c]; rfl
 · have c : kind ≠ 2 := c
   refine hkk _ ?_
   unfold badK
   rw [show (kind != 2) = true by simpa using c]; rfl
end Dm

namespace Dm
open Go
open IntKind (u64 i64 u8 u32)
def hasD9 (data tls : List Int) (bss : Int) : Bool := decide (((data.length : Nat) : Int) > 0) || (decide (((tls.length : Nat) : Int) > 0) || decide (bss > 0))
def hasT9 (tls : List Int) (tb : Int) : Bool := decide (((tls.length : Nat) : Int) > 0) || decide (tb > 0)
def nD9 (pa pt : Int) (data tls : List Int) : Int := if tls.length = 0 then (data.length : Int) else u64.wrap (u64.wrap (pt + (tls.length : Int)) - pa)
def segA (pe : Int) : Seg := (1, 4, 0, 0, pe, pe, 256)
def segB (pc : Int) (code : List Int) : Seg := (1, 5, pc, pc, (code.length : Int), (code.length : Int), 256)
def segD (pa pt : Int) (data tls : List Int) (bss : Int) : Seg := (1, 6, if nD9 pa pt data tls = 0 then 0 else pa, pa, nD9 pa pt data tls, u64.wrap (nD9 pa pt data tls + bss), 256)
def segY (pd dyn : Int) : Seg := (2, 4, pd, pd, dyn, dyn, 8)
def segT (pt : Int) (tls : List Int) (tb : Int) : Seg := (7, 4, if tls.length = 0 then 0 else pt, if tls.length = 0 then 0 else pt, (tls.length : Int), u64.wrap ((tls.length : Int) + tb), 8)
def sgB (pc : Int) (code : List Int) : List Seg := if code.length = 0 then [] else [segB pc code]
def sgD (pa pt : Int) (data tls : List Int) (bss : Int) : List Seg := if hasD9 data tls bss = true then [segD pa pt data tls bss] else []
def sgT (pt : Int) (tls : List Int) (tb : Int) : List Seg := if hasT9 tls tb = true then [segT pt tls tb] else []
def segG (pd pc pa pt pe dyn : Int) (code data : List Int) (bss : Int) (tls : List Int) (tb : Int) : List Seg :=
 ((([segA pe] ++ sgB pc code) ++ sgD pa pt data tls bss) ++ [segY pd dyn]) ++ sgT pt tls tb
def cnt9 (code data : List Int) (bss : Int) (tls : List Int) (tb : Int) : Nat := 2 + (if code.length = 0 then 0 else 1) + (if hasD9 data tls bss = true then 1 else 0) + (if hasT9 tls tb = true then 1 else 0)
theorem segG_len (pd pc pa pt pe dyn : Int) (code data : List Int) (bss : Int) (tls : List Int) (tb : Int) : (segG pd pc pa pt pe dyn code data bss tls tb).length = cnt9 code data bss tls tb := by
 unfold segG cnt9 sgB sgD sgT
 simp only [List.length_append, List.length_singleton]
 split <;> split <;> split <;> simp
def kindv (w : Int) : Int := if w = 0 then 0 else if w = 1 then 2 else if w = 2 then 1 else 6
def placev (pc pa w : Int) : Int := if w = 1 then pc else if w = 2 then pa else 0
def symOf (pc pa a : Int) (d : Def9) : Sym := (u32.wrap a, (if d.2.2.2 = true then 32 else 16) + kindv d.2.1, 0, if d.2.1 = 0 then 0 else 1, if d.2.1 = 0 then 0 else u64.wrap (placev pc pa d.2.1 + d.2.2.1), 0)
def symsI (pc pa : Int) (ats : List Int) (defs : List Def9) (i : Nat) : List Int := yput (0, 0, 0, 0, 0, 0) ++ ((List.range i).map fun (k : Nat) => yput (symOf pc pa (gt ats (k : Int)) (gt defs (k : Int)))).flatten
def symsG (pc pa : Int) (ats : List Int) (defs : List Def9) : List Int := if defs.length = 0 then [] else symsI pc pa ats defs defs.length
theorem symsI_succ (pc pa : Int) (ats : List Int) (defs : List Def9) (i : Nat) : symsI pc pa ats defs (i + 1) = symsI pc pa ats defs i ++ yput (symOf pc pa (gt ats (i : Int)) (gt defs (i : Int))) := by
 unfold symsI
 rw [List.range_succ, List.map_append, List.flatten_append, List.append_assoc]
 simp
theorem symsI_zero (pc pa : Int) (ats : List Int) (defs : List Def9) : symsI pc pa ats defs 0 = yput (0, 0, 0, 0, 0, 0) := by unfold symsI; simp
theorem symsI_len (pc pa : Int) (ats : List Int) (defs : List Def9) : ∀ i, (symsI pc pa ats defs i).length = 24 + 24 * i
 | 0 => by unfold symsI; rw [List.length_append, yput_length]; rfl
 | i + 1 => by rw [symsI_succ, List.length_append, yput_length, symsI_len pc pa ats defs i]; omega
theorem symsI_bytes (pc pa : Int) (ats : List Int) (defs : List Def9) : ∀ i, Bytes (symsI pc pa ats defs i)
 | 0 => by rw [symsI_zero]; exact yput_bytes _
 | i + 1 => by rw [symsI_succ]; exact (symsI_bytes pc pa ats defs i).append (yput_bytes _)
theorem symsG_bytes (pc pa : Int) (ats : List Int) (defs : List Def9) : Bytes (symsG pc pa ats defs) := by
 unfold symsG; split
 · exact Bytes.nil
 · exact symsI_bytes _ _ _ _ _
theorem u32k (a : Int) : InK .u32 (u32.wrap a) := ⟨by show (0 : Int) <= _; rw [wrap_u32]; omega, by show _ <= (4294967295 : Int); rw [wrap_u32]; omega⟩
theorem u64k (a : Int) : InK .u64 (u64.wrap a) := ⟨by show (0 : Int) <= _; rw [wrap_u64]; omega, by show _ <= (18446744073709551615 : Int); rw [wrap_u64]; omega⟩
theorem symOf_wf (pc pa a : Int) (d : Def9) : Wf06 (symOf pc pa a d) := by
 refine ⟨u32k _, ?_, by show InK .u8 (0 : Int); decide, ?_, ?_, by show InK .u64 (0 : Int); decide⟩
 · show InK .u8 ((if d.2.2.2 = true then 32 else 16) + kindv d.2.1)
   unfold kindv
   split <;> split <;> (try split) <;> (try split) <;> decide
 · show InK .u16 (if d.2.1 = 0 then 0 else 1)
   split <;> decide
 · show InK .u64 (if d.2.1 = 0 then 0 else u64.wrap (placev pc pa d.2.1 + d.2.2.1))
   split
   · decide
   · exact u64k _
def OkD (d : Def9) : Prop := 0 <= d.2.1 /\ d.2.1 <= 3 /\ InK .u64 d.2.2.1
def symnF (f : Fix9) : Int := if f.2.2.2.1 >= 0 then u32.wrap (i64.wrap (f.2.2.2.1 + 1)) else 0
def relOf (pc pa : Int) (f : Fix9) : Rel7 := (u64.wrap (placev pc pa f.1 + f.2.1), f.2.2.1, symnF f, f.2.2.2.2)
def relsG (pc pa : Int) (fixes : List Fix9) : List Int := (fixes.map fun f => rput (relOf pc pa f)).flatten
theorem relsG_len (pc pa : Int) : ∀ fixes : List Fix9, (relsG pc pa fixes).length = 24 * fixes.length
 | [] => rfl
 | f :: l => by
  have := relsG_len pc pa l
  unfold relsG at this ⊢
  rw [List.map_cons, List.flatten_cons, List.length_append, rput_length, this, List.length_cons]; omega
theorem relsG_bytes (pc pa : Int) : ∀ fixes : List Fix9, Bytes (relsG pc pa fixes)
 | [] => Bytes.nil
 | f :: l => by
  have := relsG_bytes pc pa l
  unfold relsG at this ⊢
  rw [List.map_cons, List.flatten_cons]
  exact (rput_bytes _).append this
def OkF (f : Fix9) : Prop := (f.1 = 1 \/ f.1 = 2) /\ InK .u64 f.2.1 /\ InK .u32 f.2.2.1 /\ InK .i64 f.2.2.2.1 /\ f.2.2.2.1 <= 100000 /\ InK .i64 f.2.2.2.2
theorem relOf_wf {pc pa : Int} {f : Fix9} (h : OkF f) : Wf07 (relOf pc pa f) := by
 refine ⟨u64k _, h.2.2.1, ?_, h.2.2.2.2.2⟩
 show InK .u32 (symnF f)
 unfold symnF
 split
 · exact u32k _
 · decide
def padTo (o : List Int) (n : Nat) : List Int := o ++ List.replicate (n - o.length) 0
def putIf (o b : List Int) (n : Nat) : List Int := if b.length = 0 then o else padTo o n ++ b
theorem padTo_len (o : List Int) (n : Nat) : (padTo o n).length = max o.length n := by unfold padTo; rw [List.length_append, List.length_replicate]; omega
theorem padTo_self {o : List Int} {n : Nat} (h : n <= o.length) : padTo o n = o := by unfold padTo; rw [show n - o.length = 0 by omega]; simp
theorem zeros_bytes (n : Nat) : Bytes (List.replicate n 0) := fun x hx => by rw [List.mem_replicate] at hx; obtain ⟨_, rfl⟩ := hx; decide
theorem padTo_bytes {o : List Int} (h : Bytes o) (n : Nat) : Bytes (padTo o n) := h.append (zeros_bytes _)
theorem putIf_bytes {o b : List Int} (h : Bytes o) (hb : Bytes b) (n : Nat) : Bytes (putIf o b n) := by
 unfold putIf; split
 · exact h
 · exact (padTo_bytes h n).append hb
def upN (x n : Nat) : Nat := (x + n - 1) / n * n
theorem rup_eq {x n : Nat} (hx : x <= 10000000) (hn : 1 <= n) (hn2 : n <= 256) : ref09_up (x : Int) (n : Int) = some ((upN x n : Nat) : Int) := by
 unfold ref09_up upN
 have h1 : (x + n - 1) / n * n <= x + n - 1 := Nat.div_mul_le_self _ _
 have h2 : (x + n - 1) / n <= x + n - 1 := Nat.div_le_self _ _
 rw [gd_pos (by omega), u64w (show (0 : Int) <= (x : Int) + (n : Int) /\ (x : Int) + (n : Int) < 18446744073709551616 by omega), u64w (show (0 : Int) <= (x : Int) + (n : Int) - 1 /\ (x : Int) + (n : Int) - 1 < 18446744073709551616 by omega)]
 have e1 : (x : Int) + (n : Int) - 1 = ((x + n - 1 : Nat) : Int) := by omega
 have e2 : Int.tdiv ((x + n - 1 : Nat) : Int) (n : Int) = (((x + n - 1) / n : Nat) : Int) := by rw [Int.tdiv_eq_ediv_of_nonneg (by omega)]; rfl
 have e3 : (((x + n - 1) / n : Nat) : Int) * (n : Int) = (((x + n - 1) / n * n : Nat) : Int) := (Int.natCast_mul _ _).symm
 rw [e1, e2]
 generalize (x + n - 1) / n = q at h1 h2 e3
 have e4 : u64.wrap (q : Int) = (q : Int) := u64w (by omega)
 generalize hm : q * n = m at h1 e3
 rw [e4, e3, u64w (by omega)]
theorem upN_ge (x : Nat) {n : Nat} (hn : n = 8 \/ n = 256) : x <= upN x n /\ upN x n < x + n := by
 unfold upN
 rcases hn with rfl | rfl <;> omega
theorem fill_eq {b : List Int} (hb : b.length <= 1000000) {n : Nat} (hn : n = 8 \/ n = 256) : ref09_fill b (n : Int) = some (padTo b (upN b.length n)) := by
 have hu := upN_ge b.length hn
 unfold ref09_fill
 rw [jn_eq]
 have hm : upN b.length n % n = 0 := by unfold upN; exact Nat.mul_mod_left _ _
 refine loop_at (fun i => b ++ List.replicate i 0) (upN b.length n - b.length) (by simp) (by omega) ?_
 intro i rec hi hrec
 refine (gd_pos (by omega)).trans ?_
 have hl : (b ++ List.replicate i (0 : Int)).length = b.length + i := by rw [List.length_append, List.length_replicate]
 rw [hl]
 have em : Int.tmod ((b.length + i : Nat) : Int) (n : Int) = (((b.length + i) % n : Nat) : Int) := by rw [Int.tmod_eq_emod_of_nonneg (by omega)]; rfl
 rw [em]
 by_cases hz : (b.length + i) % n = 0
 · have : i = upN b.length n - b.length := by
    rcases hn with rfl | rfl <;> omega
   rw [if_neg (by rw [hz]; decide)]
   unfold padTo
   rw [this]
 · have hlt : i < upN b.length n - b.length := by
    rcases Nat.lt_or_ge i (upN b.length n - b.length) with h | h
    · exact h
    · have : i = upN b.length n - b.length := by omega
      rw [this, show b.length + (upN b.length n - b.length) = upN b.length n by omega] at hz
      exact absurd hm hz
   rw [if_pos (by rw [bne_iff_ne]; exact fun h => hz (Int.ofNat_eq_zero.1 h))]
   refine (gd_pos (by rw [List.length_singleton]; omega)).trans ?_
   have := hrec hlt
   rw [List.replicate_succ', <- List.append_assoc] at this
   exact this
end Dm

namespace Dm
open Go
open IntKind (u64 i64 u8 u32)
abbrev K9 (s : Spec9) := s.1
abbrev So9 (s : Spec9) := s.2.1
abbrev Nd9 (s : Spec9) := s.2.2.1
abbrev En9 (s : Spec9) := s.2.2.2.1
abbrev Co9 (s : Spec9) := s.2.2.2.2.1
abbrev Da9 (s : Spec9) := s.2.2.2.2.2.1
abbrev Bs9 (s : Spec9) := s.2.2.2.2.2.2.1
abbrev Tl9 (s : Spec9) := s.2.2.2.2.2.2.2.1
abbrev Tb9 (s : Spec9) := s.2.2.2.2.2.2.2.2.1
abbrev De9 (s : Spec9) := s.2.2.2.2.2.2.2.2.2.1
abbrev Fi9 (s : Spec9) := s.2.2.2.2.2.2.2.2.2.2
def l9 (s : Spec9) : List (List UInt8) := ([So9 s] ++ Nd9 s) ++ (De9 s).map (·.1)
def tb9 (s : Spec9) : List Int := (bfold (l9 s)).1
def at9 (s : Spec9) : List Int := (bfold (l9 s)).2.1
def nm9 (s : Spec9) : List Int := cutL (at9 s) 1 (((1 + (Nd9 s).length : Nat)) : Int)
def so9 (s : Spec9) : Int := gt (at9 s) 0
def sn9 (s : Spec9) : Nat := if (De9 s).length = 0 then 0 else (De9 s).length + 1
def rz9 (s : Spec9) : Nat := 24 * (Fi9 s).length
def inf9 (s : Spec9) (a b c : Int) : Inf := (nm9 s, so9 s, a, ((tb9 s).length : Int), b, (sn9 s : Int), c, (rz9 s : Int))
def dn9 (s : Spec9) : Nat := (dput (inf9 s 0 0 0)).length
def ct9 (s : Spec9) : Nat := cnt9 (Co9 s) (Da9 s) (Bs9 s) (Tl9 s) (Tb9 s)
def pd9 (s : Spec9) : Nat := 64 + 56 * ct9 s
def pt9 (s : Spec9) : Nat := pd9 s + dn9 s
def ps9 (s : Spec9) : Nat := upN (pt9 s + (tb9 s).length) 8
def pr9 (s : Spec9) : Nat := ps9 s + 24 * sn9 s
def pe9 (s : Spec9) : Nat := pr9 s + rz9 s
def pc9 (s : Spec9) : Nat := upN (pe9 s) 256
def pa9 (s : Spec9) : Nat := upN (pc9 s + (Co9 s).length) 256
def pl9 (s : Spec9) : Nat := upN (pa9 s + (Da9 s).length) 8
def en9 (s : Spec9) : Int := if (Co9 s).length = 0 then 0 else u64.wrap ((pc9 s : Int) + En9 s)
def sg9 (s : Spec9) : List Seg := segG (pd9 s) (pc9 s) (pa9 s) (pl9 s) (pe9 s) (dn9 s) (Co9 s) (Da9 s) (Bs9 s) (Tl9 s) (Tb9 s)
def hd9 (s : Spec9) : List Int := hput (K9 s, en9 s, 64, (ct9 s : Int))
def dp9 (s : Spec9) : List Int := dput (inf9 s (pt9 s) (ps9 s) (pr9 s))
def oh9 (s : Spec9) : List Int := hd9 s ++ ((sg9 s).map sput).flatten
def oa9 (s : Spec9) : List Int := (oh9 s ++ dp9 s) ++ tb9 s
def ob9 (s : Spec9) : List Int := padTo (oa9 s) (ps9 s)
def sy9 (s : Spec9) : List Int := symsG (pc9 s) (pa9 s) ((at9 s).drop (1 + (Nd9 s).length)) (De9 s)
def rl9 (s : Spec9) : List Int := relsG (pc9 s) (pa9 s) (Fi9 s)
def oc9 (s : Spec9) : List Int := putIf (ob9 s) (sy9 s) (ps9 s)
def od9 (s : Spec9) : List Int := putIf (oc9 s) (rl9 s) (pr9 s)
def oe9 (s : Spec9) : List Int := putIf (od9 s) (Co9 s) (pc9 s)
def of9 (s : Spec9) : List Int := putIf (oe9 s) (Da9 s) (pa9 s)
def og9 (s : Spec9) : List Int := putIf (of9 s) (Tl9 s) (pl9 s)
def may9 (s : Spec9) : Int := mayS (K9 s) (Co9 s) (Da9 s) (Tl9 s) (Bs9 s) (Tb9 s) (De9 s) (Fi9 s)
def BuildS (s : Spec9) : List Int × Int :=
 if may9 s = 0 then (if (buildS (l9 s)).2.2 = 0 then (if (og9 s).length > 65536 then ([], 13) else (og9 s, 0)) else ([], (buildS (l9 s)).2.2)) else ([], may9 s)
abbrev FewS (s : Spec9) : Prop := Few (So9 s) (Nd9 s) (Co9 s) (Da9 s) (Tl9 s) (De9 s) (Fi9 s)
structure Bd (s : Spec9) : Prop where
 tot : tot (l9 s) <= 16000
 tb : 1 <= (tb9 s).length /\ (tb9 s).length <= 16001
 at_ : (at9 s).length = 1 + (Nd9 s).length + (De9 s).length
 val : ∀ a ∈ at9 s, 0 <= a /\ a < (tb9 s).length
 nm : (nm9 s).length = (Nd9 s).length
 nmv : ∀ a ∈ nm9 s, 0 <= a /\ a < (tb9 s).length
 sov : 0 <= so9 s /\ so9 s < (tb9 s).length
 ct : 2 <= ct9 s /\ ct9 s <= 5
 dn : dn9 s <= 448
 dp : ∀ a b c, (dput (inf9 s a b c)).length = dn9 s
 sn : sn9 s <= 31
 rz : rz9 s <= 720
 ps : pt9 s + (tb9 s).length <= ps9 s /\ ps9 s < pt9 s + (tb9 s).length + 8
 pc : pe9 s <= pc9 s /\ pc9 s < pe9 s + 256
 pa : pc9 s + (Co9 s).length <= pa9 s /\ pa9 s < pc9 s + (Co9 s).length + 256
 pl : pa9 s + (Da9 s).length <= pl9 s /\ pl9 s < pa9 s + (Da9 s).length + 8
theorem tot_le {l : List (List UInt8)} {m : Nat} (h : ∀ x ∈ l, x.length <= m) : tot l <= (m + 1) * l.length := by
 induction l with
 | nil => simp [tot]
 | cons x xs ih =>
  have h1 := ih fun y hy => h y (by simp [hy])
  have h2 := h x (by simp)
  have e : tot (x :: xs) = x.length + 1 + tot xs := by unfold tot; rw [List.map_cons, List.sum_cons]
  rw [e, List.length_cons, Nat.mul_add]
  omega
theorem dput_len_eq {x y : Inf} (h0 : x.1 = y.1) (h1 : x.2.1 = y.2.1) (h2 : x.2.2.2.2.2.1 = y.2.2.2.2.2.1) (h3 : x.2.2.2.2.2.2.2 = y.2.2.2.2.2.2.2) : (dput x).length = (dput y).length := by
 have hp : ∀ i, (dpart x i).length = (dpart y i).length := by
  intro i
  unfold dpart
  rw [h1, h2, h3]
  split <;> (try split) <;> simp [ent_len]
 have ha : ∀ i, (dacc x i).length = (dacc y i).length := by
  intro i
  induction i with
  | zero => unfold dacc dneed; rw [h0]; rfl
  | succ i ih => rw [dacc_succ, dacc_succ, List.length_append, List.length_append, ih, hp]
 unfold dput
 rw [List.length_append, List.length_append, ha]
theorem zip_mem {α β : Type} : ∀ {l : List α} {m : List β}, m.length = l.length -> ∀ b ∈ m, ∃ a, (a, b) ∈ l.zip m
 | [], [], _, b, h => by simp at h
 | x :: l, y :: m, h, b, hb => by
  rw [List.mem_cons] at hb
  rcases hb with rfl | hb
  · exact ⟨x, by simp⟩
  · obtain ⟨a, ha⟩ := zip_mem (l := l) (m := m) (by simpa using h) b hb
    exact ⟨a, by rw [List.zip_cons_cons, List.mem_cons]; exact .inr ha⟩
 | [], _ :: _, h, _, _ => by simp at h
 | _ :: _, [], h, _, _ => by simp at h
theorem cutL_mem {α : Type} {xs : List α} {a b : Int} {x : α} (h : x ∈ cutL xs a b) : x ∈ xs := by
 unfold cutL at h
 exact List.mem_of_mem_take (List.mem_of_mem_drop h)
theorem bd9 {s : Spec9} (hf : FewS s) : Bd s := by
 have hl : (l9 s).length = 1 + (Nd9 s).length + (De9 s).length := by unfold l9; rw [List.length_append, List.length_append, List.length_map, List.length_singleton]
 have hB := BI.all (l9 s)
 have ht : tot (l9 s) <= 16000 := by
  have h1 := tot_le (l := l9 s) (m := 300) (fun x hx => by
   unfold l9 at hx
   rw [List.mem_append, List.mem_append, List.mem_singleton, List.mem_map] at hx
   rcases hx with (rfl | hx) | ⟨d, hd, rfl⟩
   · exact hf.c7
   · exact hf.nn x hx
   · exact hf.dn d hd)
  have := hf.c6
  have := hf.c4
  have h2 : (300 + 1) * (l9 s).length <= (300 + 1) * 51 := Nat.mul_le_mul_left _ (by omega)
  omega
 have hlen : (at9 s).length = 1 + (Nd9 s).length + (De9 s).length := by rw [<- hl]; exact hB.len
 have htb : 1 <= (tb9 s).length /\ (tb9 s).length <= 16001 := ⟨hB.pos, by have := hB.top; unfold tb9; omega⟩
 have hval : ∀ a ∈ at9 s, 0 <= a /\ a < (tb9 s).length := fun a ha => by
  obtain ⟨x, hx⟩ := zip_mem (l := l9 s) (m := at9 s) hB.len a ha
  exact hB.val x a (hB.own x a hx)
 have hnm : (nm9 s).length = (Nd9 s).length := by
  unfold nm9 cutL
  rw [List.length_drop, List.length_take]
  have := hf.c6
  simp only [Int.toNat_natCast]
  have : Int.toNat 1 = 1 := rfl
  omega
 have hct : 2 <= ct9 s /\ ct9 s <= 5 := by
  unfold ct9 cnt9
  split <;> split <;> split <;> omega
 have hdn : dn9 s <= 448 := by
  have := dput_len (inf9 s 0 0 0)
  have e : (inf9 s 0 0 0).1.length = (Nd9 s).length := hnm
  have := hf.c6
  unfold dn9; omega
 have hps := upN_ge (pt9 s + (tb9 s).length) (n := 8) (.inl rfl)
 have hpc := upN_ge (pe9 s) (n := 256) (.inr rfl)
 have hpa := upN_ge (pc9 s + (Co9 s).length) (n := 256) (.inr rfl)
 have hpl := upN_ge (pa9 s + (Da9 s).length) (n := 8) (.inl rfl)
 refine ⟨ht, htb, hlen, hval, hnm, fun a ha => hval a (cutL_mem ha), ?_, hct, hdn, fun a b c => dput_len_eq rfl rfl rfl rfl, ?_, ?_, hps, hpc, hpa, hpl⟩
 · have h0 : 0 < (at9 s).length := by omega
   have e : so9 s = (at9 s)[0] := gt_nat (i := 0) h0
   rw [e]
   exact hval _ (List.getElem_mem h0)
 · have := hf.c4
   unfold sn9; split <;> omega
 · have := hf.c5
   unfold rz9; omega
theorem k64 {n : Nat} (h : n <= 1000000000) : InK .u64 (n : Int) := ⟨by show (0 : Int) <= _; omega, by show _ <= (18446744073709551615 : Int); omega⟩
structure Pl (s : Spec9) : Prop where
 pd : pd9 s <= 344
 pt : pt9 s <= 800
 ps : ps9 s <= 17000
 pr : pr9 s <= 18000
 pe : pe9 s <= 19000
 pc : pc9 s <= 20000
 pa : pa9 s <= 24000
 pl : pl9 s <= 28000
theorem pl9_le {s : Spec9} (hf : FewS s) : Pl s := by
 have b := bd9 hf
 have h1 : pd9 s <= 344 := by have := b.ct; unfold pd9; omega
 have h2 : pt9 s <= 800 := by have := b.dn; unfold pt9; omega
 have h3 : ps9 s <= 17000 := by have := b.ps; have := b.tb; omega
 have h4 : pr9 s <= 18000 := by have := b.sn; unfold pr9; omega
 have h5 : pe9 s <= 19000 := by have := b.rz; unfold pe9; omega
 have h6 : pc9 s <= 20000 := by have := b.pc; omega
 have h7 : pa9 s <= 24000 := by have := b.pa; have := hf.c1; omega
 have h8 : pl9 s <= 28000 := by have := b.pl; have := hf.c2; omega
 exact ⟨h1, h2, h3, h4, h5, h6, h7, h8⟩
theorem sg9_wf {s : Spec9} (hf : FewS s) : ∀ y ∈ sg9 s, Wf04 y := by
 have p := pl9_le hf
 have b := bd9 hf
 have kd := k64 (n := pd9 s) (by have := p.pd; omega)
 have kc := k64 (n := pc9 s) (by have := p.pc; omega)
 have ka := k64 (n := pa9 s) (by have := p.pa; omega)
 have kl := k64 (n := pl9 s) (by have := p.pl; omega)
 have ke := k64 (n := pe9 s) (by have := p.pe; omega)
 have kn := k64 (n := dn9 s) (by have := b.dn; omega)
 have kco := k64 (n := (Co9 s).length) (by have := hf.c1; omega)
 have kda := k64 (n := (Da9 s).length) (by have := hf.c2; omega)
 have ktl := k64 (n := (Tl9 s).length) (by have := hf.c3; omega)
 have z : InK .u64 (0 : Int) := by decide
 have knd : InK .u64 (nD9 (pa9 s) (pl9 s) (Da9 s) (Tl9 s)) := by
  unfold nD9
  split
  · exact kda
  · exact u64k _
 intro y hy
 unfold sg9 segG at hy
 simp only [List.mem_append, List.mem_singleton] at hy
 rcases hy with (((rfl | hy) | hy) | rfl) | hy
 · exact ⟨by show InK .u32 (1 : Int); decide, by show InK .u32 (4 : Int); decide, z, z, ke, ke, by show InK .u64 (256 : Int); decide⟩
 · unfold sgB at hy
   split at hy
   · simp at hy
   · have : y = segB (pc9 s) (Co9 s) := by simpa using hy
     subst this
     exact ⟨by show InK .u32 (1 : Int); decide, by show InK .u32 (5 : Int); decide, kc, kc, kco, kco, by show InK .u64 (256 : Int); decide⟩
 · unfold sgD at hy
   split at hy
   · have : y = segD (pa9 s) (pl9 s) (Da9 s) (Tl9 s) (Bs9 s) := by simpa using hy
     subst this
     refine ⟨by show InK .u32 (1 : Int); decide, by show InK .u32 (6 : Int); decide, ?_, ka, knd, u64k _, by show InK .u64 (256 : Int); decide⟩
     show InK .u64 (if nD9 (pa9 s) (pl9 s) (Da9 s) (Tl9 s) = 0 then 0 else ((pa9 s : Nat) : Int))
     split
     · exact z
     · exact ka
   · simp at hy
 · exact ⟨by show InK .u32 (2 : Int); decide, by show InK .u32 (4 : Int); decide, kd, kd, kn, kn, by show InK .u64 (8 : Int); decide⟩
 · unfold sgT at hy
   split at hy
   · have : y = segT (pl9 s) (Tl9 s) (Tb9 s) := by simpa using hy
     subst this
     have kp : InK .u64 (if (Tl9 s).length = 0 then 0 else ((pl9 s : Nat) : Int)) := by
      split
      · exact z
      · exact kl
     exact ⟨by show InK .u32 (7 : Int); decide, by show InK .u32 (4 : Int); decide, kp, kp, ktl, u64k _, by show InK .u64 (8 : Int); decide⟩
   · simp at hy
theorem oh9_len (s : Spec9) : (oh9 s).length = pd9 s := by
 unfold oh9 hd9 pd9
 rw [List.length_append, hput_length, sputs_len]
 unfold sg9
 rw [segG_len]
 rfl
theorem oa9_len {s : Spec9} (hf : FewS s) : (oa9 s).length = pt9 s + (tb9 s).length := by
 have b := bd9 hf
 unfold oa9 dp9
 rw [List.length_append, List.length_append, oh9_len, b.dp]
 rfl
theorem ob9_len {s : Spec9} (hf : FewS s) : (ob9 s).length = ps9 s := by
 have b := bd9 hf
 unfold ob9
 rw [padTo_len, oa9_len hf]
 have := b.ps; omega
theorem sy9_len (s : Spec9) : (sy9 s).length = 24 * sn9 s := by
 unfold sy9 symsG sn9
 split
 · rfl
 · rw [symsI_len]; omega
theorem oc9_len {s : Spec9} (hf : FewS s) : (oc9 s).length = pr9 s := by
 have hs := sy9_len s
 unfold oc9 putIf
 split
 · rename_i h
   rw [ob9_len hf]
   unfold pr9; omega
 · rw [List.length_append, padTo_len, ob9_len hf, hs]
   unfold pr9; omega
theorem rl9_len (s : Spec9) : (rl9 s).length = rz9 s := relsG_len _ _ _
theorem od9_len {s : Spec9} (hf : FewS s) : (od9 s).length = pe9 s := by
 have hs := rl9_len s
 unfold od9 putIf
 split
 · rename_i h
   rw [oc9_len hf]
   unfold pe9; omega
 · rw [List.length_append, padTo_len, oc9_len hf, hs]
   unfold pe9; omega
theorem oe9_len {s : Spec9} (hf : FewS s) : (oe9 s).length = if (Co9 s).length = 0 then pe9 s else pc9 s + (Co9 s).length := by
 have b := bd9 hf
 have := b.pc
 unfold oe9 putIf
 split
 · exact od9_len hf
 · rw [List.length_append, padTo_len, od9_len hf]; omega
theorem of9_len {s : Spec9} (hf : FewS s) : (of9 s).length = if (Da9 s).length = 0 then (oe9 s).length else pa9 s + (Da9 s).length := by
 have b := bd9 hf
 have h1 := b.pc
 have h2 := b.pa
 have h3 := oe9_len hf
 unfold of9 putIf
 split
 · rfl
 · rw [List.length_append, padTo_len]
   split at h3 <;> omega
theorem oe9_le {s : Spec9} (hf : FewS s) : (oe9 s).length <= pa9 s := by
 have b := bd9 hf
 have h3 := oe9_len hf
 have := b.pc
 have := b.pa
 split at h3 <;> omega
theorem of9_le {s : Spec9} (hf : FewS s) : (of9 s).length <= pl9 s := by
 have b := bd9 hf
 have h3 := of9_len hf
 have := oe9_le hf
 have := b.pl
 split at h3 <;> omega
theorem may9_ok {s : Spec9} (h : may9 s = 0) : (K9 s = 2 \/ K9 s = 3) /\ (∀ d ∈ De9 s, 0 <= d.2.1 /\ d.2.1 <= 3) /\ ∀ f ∈ Fi9 s, (f.1 = 1 \/ f.1 = 2) /\ f.2.2.2.1 < ((De9 s).length : Int) := by
 unfold may9 mayS at h
 split at h
 · cases h
 · rename_i hb
   simp only [Bool.or_eq_true, not_or] at hb
   obtain ⟨h1, h2, h3⟩ := hb
   refine ⟨?_, fun d hd => ?_, fun f hf => ?_⟩
   · unfold badK at h1
     simp only [Bool.and_eq_true, bne_iff_ne, not_and, Decidable.not_not] at h1
     by_cases hk : K9 s = 2
     · exact .inl hk
     · exact .inr (h1 hk)
   · have : badD d = false := by
      cases e : badD d
      · rfl
      · exact absurd (List.any_eq_true.2 ⟨d, hd, e⟩) h2
     unfold badD at this
     rw [Bool.or_eq_false_iff, decide_eq_false_iff_not, decide_eq_false_iff_not] at this
     omega
   · have : badF (De9 s).length f = false := by
      cases e : badF (De9 s).length f
      · rfl
      · exact absurd (List.any_eq_true.2 ⟨f, hf, e⟩) h3
     unfold badF at this
     rw [Bool.or_eq_false_iff, decide_eq_false_iff_not, Bool.and_eq_false_iff] at this
     refine ⟨?_, by omega⟩
     rcases this.1 with h | h
     · exact .inl (by simpa using h)
     · exact .inr (by simpa using h)
theorem buildS_cases (l : List (List UInt8)) : ((buildS l).2.2 ≠ 0 /\ buildS l = ([], [], (buildS l).2.2)) \/ buildS l = ((bfold l).1, (bfold l).2.1, 0) := by
 unfold buildS
 split
 · exact .inl ⟨by decide, rfl⟩
 · split
   · exact .inl ⟨by decide, rfl⟩
   · exact .inr rfl
end Dm

namespace Dm
open Go
theorem okD_of {s : Spec9} (hw : WfS s) (hm : may9 s = 0) : ∀ d ∈ De9 s, OkD d := fun d hd => ⟨((may9_ok hm).2.1 d hd).1, ((may9_ok hm).2.1 d hd).2, (hw.2.2.2.2.2.2.2.2.2.1.2 d hd).2.2.1⟩
theorem okF_of {s : Spec9} (hw : WfS s) (hf : FewS s) (hm : may9 s = 0) : ∀ f ∈ Fi9 s, OkF f := fun f hd => by
 obtain ⟨h1, h2⟩ := (may9_ok hm).2.2 f hd
 obtain ⟨k1, k2, k3, k4, k5⟩ := hw.2.2.2.2.2.2.2.2.2.2.2 f hd
 have := hf.c4
 exact ⟨h1, k2, k3, k4, by omega, k5⟩
theorem en9_k {s : Spec9} : InK .u64 (en9 s) := by
 unfold en9
 split
 · decide
 · exact u64k _
theorem headS_ok {s : Spec9} (hf : FewS s) (hm : may9 s = 0) : headS (K9 s, en9 s, 64, (ct9 s : Int)) = (hd9 s, 0) := by
 have b := bd9 hf
 have := (may9_ok hm).1
 unfold headS hd9
 rw [if_neg]
 unfold badH
 simp only [Bool.or_eq_true, decide_eq_true_eq]
 have := b.ct
 omega
end Dm

namespace Dm
open Go
open IntKind (u64 i64 u8 u32)
theorem names_loop2 {ρ : Type} {P : Option ρ -> Prop} {b0 : List (List UInt8)} {defs : List Def9} (hd : defs.length <= 1000) (hb : b0.length <= 1000) {kk : List (List UInt8) -> Option ρ} (hk : P (kk (b0 ++ defs.map (·.1)))) :
    P (loopK (fun (s2 : (List (List UInt8)) × Int) rec1 =>
        (if (decide (s2.2 < ((defs.length : Nat) : Int))) = true then
         gd ((0 : Int) <= s2.2 /\ s2.2 < ((defs.length : Nat) : Int)) <|
         gd ((s2.1.length + ([(gt defs s2.2).1] : List (List UInt8)).length) * 16 <= 140737488355328) <|
         let1 (i64.wrap (s2.2 + 1)) fun i_1 =>
         rec1 ((s2.1 ++ ([(gt defs s2.2).1] : List (List UInt8))), i_1)
        else
         kk s2.1)) bigF (b0, 0)) := by
 refine scan_Q (P := P) defs (by omega) (fun _ => 0) (fun i => (b0 ++ (defs.take i).map (·.1), (i : Int))) (kk (b0 ++ defs.map (·.1))) (fun _ _ => none) (by simp) (fun _ => hk) (fun _ h => absurd (firstE_zero _ _ fun _ _ => rfl) h) (fun i rec hi Q q0 _ => ?_) (fun rec Q q => ?_)
 · have hgi : gt defs (i : Int) = defs[i] := gt_nat hi
   refine tP (dif_lt hi) ?_
   refine gdP (by show (0 : Int) <= i /\ (i : Int) < ((defs.length : Nat) : Int); omega) ?_
   refine gdP (by show ((b0 ++ (defs.take i).map (·.1)).length + 1) * 16 <= _; rw [List.length_append, List.length_map, List.length_take]; omega) ?_
   refine letP ?_
   have q := q0 rfl
   rw [<- i64s (by omega), take_succ hi, List.map_append, List.map_singleton, <- List.append_assoc, <- hgi] at q
   exact q
 · refine fP (by show ¬ decide (((defs.length : Nat) : Int) < ((defs.length : Nat) : Int)) = true; simp) ?_
   rw [List.take_length]
   exact q
theorem pad_loop {ρ : Type} {P : Option ρ -> Prop} {o : List Int} {n : Nat} (ho : o.length <= n) (hn : n <= 10000000) {kk : List Int -> Option ρ} (hk : P (kk (padTo o n))) :
    P (loopK (fun (s34 : List Int) rec4 =>
     (if (decide ((u64.wrap ((s34.length : Nat) : Int)) < ((n : Nat) : Int))) = true then
      gd ((s34.length + ([0] : List Int).length) * 1 <= 140737488355328) <|
      rec4 (s34 ++ ([0] : List Int))
     else
      kk s34)) bigF o) := by
 have key : loopK (fun (s34 : List Int) rec4 =>
     (if (decide ((u64.wrap ((s34.length : Nat) : Int)) < ((n : Nat) : Int))) = true then
      gd ((s34.length + ([0] : List Int).length) * 1 <= 140737488355328) <|
      rec4 (s34 ++ ([0] : List Int))
     else
      kk s34)) bigF o = kk (padTo o n) := by
  refine loop_at (fun i => o ++ List.replicate i 0) (n - o.length) (by simp) (by omega) ?_
  intro i rec hi hrec
  have hl : (o ++ List.replicate i (0 : Int)).length = o.length + i := by rw [List.length_append, List.length_replicate]
  rw [hl, u64w (by omega)]
  by_cases hlt : i < n - o.length
  · rw [if_pos (by rw [decide_eq_true_eq]; omega)]
    refine (gd_pos (by rw [List.length_singleton]; omega)).trans ?_
    have := hrec hlt
    rw [List.replicate_succ', <- List.append_assoc] at this
    exact this
  · rw [if_neg (by rw [decide_eq_true_eq]; omega)]
    unfold padTo
    rw [show n - o.length = i by omega]
 rw [key]
 exact hk
theorem gt_drop {xs : List Int} {k i : Nat} : gt (xs.drop k) (i : Int) = gt xs ((k + i : Nat) : Int) := by
 show (xs.drop k).getD i default = xs.getD (k + i) default
 rw [List.getD_eq_getElem?_getD, List.getD_eq_getElem?_getD, List.getElem?_drop]
theorem oc9_eq {s : Spec9} (hf : FewS s) : oc9 s = ob9 s ++ sy9 s := by
 unfold oc9 putIf
 split
 · rename_i h
   rw [List.length_eq_zero_iff.1 h, List.append_nil]
 · rw [padTo_self (by rw [ob9_len hf]; omega)]
theorem od9_eq {s : Spec9} (hf : FewS s) : od9 s = oc9 s ++ rl9 s := by
 unfold od9 putIf
 split
 · rename_i h
   rw [List.length_eq_zero_iff.1 h, List.append_nil]
 · rw [padTo_self (by rw [oc9_len hf]; omega)]
theorem yput0 : yput (0, 0, 0, 0, 0, 0) = List.replicate 24 (0 : Int) := by rfl
theorem rbuild_run {P : Option (List Int × Int) -> Prop} {s : Spec9} (hw : WfS s) (hf : FewS s) (hP : P (some (BuildS s))) : P (ref09_Build s) := by
 have b := bd9 hf
 have p := pl9_le hf
 have f1 : (Co9 s).length <= 3000 := hf.c1
 have f2 : (Da9 s).length <= 3000 := hf.c2
 have f3 : (Tl9 s).length <= 3000 := hf.c3
 have f4 : (De9 s).length <= 30 := hf.c4
 have f5 : (Fi9 s).length <= 30 := hf.c5
 have f6 : (Nd9 s).length <= 20 := hf.c6
 unfold BuildS at hP
 unfold ref09_Build
 refine bdP (ref09_may_eq (kind := K9 s) (so := So9 s) (nd := Nd9 s) (en := En9 s) (code := Co9 s) (data := Da9 s) (bss := Bs9 s) (tls := Tl9 s) (tb := Tb9 s) (defs := De9 s) (fixes := Fi9 s) (by omega) (by omega) (by omega)) ?_
 refine neP (fun hm => ?_) (fun hm => ?_)
 rotate_left
 · have hm : may9 s ≠ 0 := hm
   rw [if_neg hm] at hP; exact hP
 have hm : may9 s = 0 := hm
 rw [if_pos hm] at hP
 refine gdP (by show (1 + (Nd9 s).length) * 16 <= _; omega) ?_
 refine jnC (fun c => c = l9 s) ?_ (fun kk hkk => ?_)
 rotate_left
 · refine names_loop2 (P := P) (by show (De9 s).length <= 1000; omega) (by show ([So9 s] ++ Nd9 s).length <= 1000; rw [List.length_append, List.length_singleton]; omega) ?_
   exact hkk _ rfl
 rintro _ rfl
 refine bdP (ref02_Build_eq (by have := b.tot; omega)) ?_
 rcases buildS_cases (l9 s) with ⟨he, hB⟩ | hB
 · rw [if_neg he] at hP
   refine neP (fun h => absurd h he) (fun _ => hP)
 have hB : buildS (l9 s) = (tb9 s, at9 s, 0) := hB
 rw [hB] at hP ⊢
 rw [if_pos rfl] at hP
 refine neP (fun _ => ?_) (fun h => absurd rfl h)
 refine letP ?_
 have w1 : i64.wrap (1 + (((Nd9 s).length : Nat) : Int)) = ((1 + (Nd9 s).length : Nat) : Int) := by rw [i64w (by omega)]; omega
 have ha := b.at_
 have htb := b.tb
 have hct := b.ct
 refine jnC (fun c => c = ((2 + (if (Co9 s).length = 0 then 0 else 1) : Nat) : Int)) ?_ (fun kk hkk => ?_)
 rotate_left
 · refine deP (fun c => ?_) (fun c => ?_)
   · have c : (((Co9 s).length : Nat) : Int) > 0 := c
     refine letP (hkk _ ?_)
     rw [if_neg (by omega)]; decide
   · have c : ¬ (((Co9 s).length : Nat) : Int) > 0 := c
     refine hkk _ ?_
     rw [if_pos (by omega)]; rfl
 rintro _ rfl
 refine jnC (fun c => c = hasD9 (Da9 s) (Tl9 s) (Bs9 s)) ?_ (fun kk hkk => ?_)
 rotate_left
 · refine ifP (fun c => hkk _ ?_) (fun c => ?_)
   · have c : decide ((((Da9 s).length : Nat) : Int) > 0) = true := c
     unfold hasD9; rw [c]; rfl
   · have c : decide ((((Da9 s).length : Nat) : Int) > 0) = false := by simpa using c
     refine ifP (fun d => hkk _ ?_) (fun d => ?_)
     · have d : decide ((((Tl9 s).length : Nat) : Int) > 0) = true := d
       unfold hasD9; rw [c, d]; rfl
     · have d : decide ((((Tl9 s).length : Nat) : Int) > 0) = false := by simpa using d
       refine letP (hkk _ ?_)
       unfold hasD9; rw [c, d]; rfl
 rintro _ rfl
 refine jnC (fun c => c = ((2 + (if (Co9 s).length = 0 then 0 else 1) + (if hasD9 (Da9 s) (Tl9 s) (Bs9 s) = true then 1 else 0) : Nat) : Int)) ?_ (fun kk hkk => ?_)
 rotate_left
 · refine ifP (fun c => ?_) (fun c => ?_)
   · refine letP (hkk _ ?_)
     rw [if_pos c, i64w (by split <;> omega)]; omega
   · refine hkk _ ?_
     rw [if_neg c]; rfl
 rintro _ rfl
 refine jnC (fun c => c = hasT9 (Tl9 s) (Tb9 s)) ?_ (fun kk hkk => ?_)
 rotate_left
 · refine ifP (fun c => hkk _ ?_) (fun c => ?_)
   · have c : decide ((((Tl9 s).length : Nat) : Int) > 0) = true := c
     unfold hasT9; rw [c]; rfl
   · have c : decide ((((Tl9 s).length : Nat) : Int) > 0) = false := by simpa using c
     refine letP (hkk _ ?_)
     unfold hasT9; rw [c]; rfl
 rintro _ rfl
 refine jnC (fun c => c = ((ct9 s : Nat) : Int)) ?_ (fun kk hkk => ?_)
 rotate_left
 · refine ifP (fun c => ?_) (fun c => ?_)
   · refine letP (hkk _ ?_)
     unfold ct9 cnt9
     rw [if_pos c, i64w (by split <;> split <;> omega)]; omega
   · refine hkk _ ?_
     unfold ct9 cnt9
     rw [if_neg c]; rfl
 rintro _ rfl
 refine gdP (by
  show (0 : Int) <= 1 /\ (1 : Int) <= i64.wrap (1 + (((Nd9 s).length : Nat) : Int)) /\ i64.wrap (1 + (((Nd9 s).length : Nat) : Int)) <= (((at9 s).length : Nat) : Int)
  rw [w1]; omega) ?_
 refine gdP (by show (0 : Int) <= 0 /\ (0 : Int) < (((at9 s).length : Nat) : Int); omega) ?_
 have hdn := b.dn
 have hsn := b.sn
 have hrz := b.rz
 have hp1 := p.pd
 have hp2 := p.pt
 have hp3 := p.ps
 have hp4 := p.pr
 have hp5 := p.pe
 have hp6 := p.pc
 have hp7 := p.pa
 have hp8 := p.pl
 refine jnC (fun c => c = (nm9 s, [so9 s, 0, (((tb9 s).length : Nat) : Int), 0, ((sn9 s : Nat) : Int), 0, ((rz9 s : Nat) : Int)])) ?_ (fun kk hkk => ?_)
 rotate_left
 · have e1 : u64.wrap (((tb9 s).length : Nat) : Int) = (((tb9 s).length : Nat) : Int) := u64w (by omega)
   have e2 : u64.wrap (i64.wrap (24 * (((Fi9 s).length : Nat) : Int))) = ((rz9 s : Nat) : Int) := by
    have : 24 * (((Fi9 s).length : Nat) : Int) = ((rz9 s : Nat) : Int) := by unfold rz9; omega
    rw [this, i64w (by omega), u64w (by omega)]
   refine deP (fun c => ?_) (fun c => ?_)
   · have c : (((De9 s).length : Nat) : Int) > 0 := c
     have e3 : u64.wrap (i64.wrap ((((De9 s).length : Nat) : Int) + 1)) = ((sn9 s : Nat) : Int) := by
      have : (((De9 s).length : Nat) : Int) + 1 = ((sn9 s : Nat) : Int) := by unfold sn9; rw [if_neg (by omega)]; omega
      rw [this, i64w (by omega), u64w (by omega)]
     refine gdP (by constructor <;> simp) ?_
     refine hkk _ ?_
     show ((cutL (at9 s) 1 (i64.wrap (1 + (((Nd9 s).length : Nat) : Int)))), [gt (at9 s) 0, (0 : Int), u64.wrap (((tb9 s).length : Nat) : Int), (0 : Int), u64.wrap (i64.wrap ((((De9 s).length : Nat) : Int) + 1)), (0 : Int), u64.wrap (i64.wrap (24 * (((Fi9 s).length : Nat) : Int)))]) = _
     rw [w1, e1, e2, e3]
     rfl
   · have c : ¬ (((De9 s).length : Nat) : Int) > 0 := c
     have e3 : (0 : Int) = ((sn9 s : Nat) : Int) := by unfold sn9; rw [if_pos (by omega)]; rfl
     refine hkk _ ?_
     show ((cutL (at9 s) 1 (i64.wrap (1 + (((Nd9 s).length : Nat) : Int)))), [gt (at9 s) 0, (0 : Int), u64.wrap (((tb9 s).length : Nat) : Int), (0 : Int), (0 : Int), (0 : Int), u64.wrap (i64.wrap (24 * (((Fi9 s).length : Nat) : Int)))]) = (nm9 s, [so9 s, (0 : Int), (((tb9 s).length : Nat) : Int), (0 : Int), ((sn9 s : Nat) : Int), (0 : Int), ((rz9 s : Nat) : Int)])
     rw [w1, e1, e2, <- e3]
     rfl
 rintro _ rfl
 have hnm : (nm9 s).length <= 1000 := by rw [b.nm]; omega
 have hnv : ∀ a ∈ nm9 s, InK .u64 a := fun a hh => ⟨(b.nmv a hh).1, by have := (b.nmv a hh).2; show a <= (18446744073709551615 : Int); omega⟩
 have hsv : InK .u64 (so9 s) := ⟨b.sov.1, by have := b.sov.2; show so9 s <= (18446744073709551615 : Int); omega⟩
 have z : InK .u64 (0 : Int) := by decide
 have ktb := k64 (n := (tb9 s).length) (by omega)
 have ksn := k64 (n := sn9 s) (by omega)
 have krz := k64 (n := rz9 s) (by omega)
 have hpd : u64.wrap (i64.wrap (64 + i64.wrap (56 * ((ct9 s : Nat) : Int)))) = ((pd9 s : Nat) : Int) := by
  have : 64 + 56 * ((ct9 s : Nat) : Int) = ((pd9 s : Nat) : Int) := by unfold pd9; omega
  rw [i64w (n := 56 * ((ct9 s : Nat) : Int)) (by omega), this, i64w (by omega), u64w (by omega)]
 refine letP ?_
 rw [hpd]
 refine bdP (ref05_Put_eq hnm hnv hsv z ktb z ksn z krz) ?_
 refine letP ?_
 rw [show u64.wrap (((dput (nm9 s, so9 s, (0 : Int), (((tb9 s).length : Nat) : Int), (0 : Int), ((sn9 s : Nat) : Int), (0 : Int), ((rz9 s : Nat) : Int))).length : Nat) : Int) = ((dn9 s : Nat) : Int) from u64w (by show (0 : Int) <= ((dn9 s : Nat) : Int) /\ ((dn9 s : Nat) : Int) < _; omega)]
 have v2 : u64.wrap (((pd9 s : Nat) : Int) + ((dn9 s : Nat) : Int)) = ((pt9 s : Nat) : Int) := by
  have : ((pt9 s : Nat) : Int) = ((pd9 s : Nat) : Int) + ((dn9 s : Nat) : Int) := by unfold pt9; omega
  rw [<- this, u64w (by omega)]
 have v3 : u64.wrap (((pt9 s : Nat) : Int) + (((tb9 s).length : Nat) : Int)) = ((pt9 s + (tb9 s).length : Nat) : Int) := by rw [u64w (by omega)]; omega
 have v4 : u64.wrap (((ps9 s : Nat) : Int) + u64.wrap (24 * ((sn9 s : Nat) : Int))) = ((pr9 s : Nat) : Int) := by
  have : ((pr9 s : Nat) : Int) = ((ps9 s : Nat) : Int) + 24 * ((sn9 s : Nat) : Int) := by unfold pr9; omega
  rw [u64w (n := 24 * ((sn9 s : Nat) : Int)) (by omega), <- this, u64w (by omega)]
 have v5 : u64.wrap (((pr9 s : Nat) : Int) + ((rz9 s : Nat) : Int)) = ((pe9 s : Nat) : Int) := by
  have : ((pe9 s : Nat) : Int) = ((pr9 s : Nat) : Int) + ((rz9 s : Nat) : Int) := by unfold pe9; omega
  rw [<- this, u64w (by omega)]
 have v6 : u64.wrap (((pc9 s : Nat) : Int) + u64.wrap (((Co9 s).length : Nat) : Int)) = ((pc9 s + (Co9 s).length : Nat) : Int) := by
  rw [u64w (n := (((Co9 s).length : Nat) : Int)) (by omega), u64w (by omega)]; omega
 have v7 : u64.wrap (((pa9 s : Nat) : Int) + u64.wrap (((Da9 s).length : Nat) : Int)) = ((pa9 s + (Da9 s).length : Nat) : Int) := by
  rw [u64w (n := (((Da9 s).length : Nat) : Int)) (by omega), u64w (by omega)]; omega
 dsimp only
 rw [v2]
 have S1 : List.set [so9 s, 0, (((tb9 s).length : Nat) : Int), 0, ((sn9 s : Nat) : Int), 0, ((rz9 s : Nat) : Int)] (Int.toNat 1) ((pt9 s : Nat) : Int) = [so9 s, ((pt9 s : Nat) : Int), (((tb9 s).length : Nat) : Int), 0, ((sn9 s : Nat) : Int), 0, ((rz9 s : Nat) : Int)] := rfl
 rw [S1]
 refine gdP (by constructor <;> simp) ?_
 refine gdP (by constructor <;> simp) ?_
 refine gdP (by constructor <;> simp) ?_
 refine bdP (x := ((ps9 s : Nat) : Int)) (by
  show ref09_up (u64.wrap (((pt9 s : Nat) : Int) + (((tb9 s).length : Nat) : Int))) 8 = _
  rw [v3]
  exact rup_eq (n := 8) (by omega) (by omega) (by omega)) ?_
 have S2 : List.set [so9 s, ((pt9 s : Nat) : Int), (((tb9 s).length : Nat) : Int), 0, ((sn9 s : Nat) : Int), 0, ((rz9 s : Nat) : Int)] (Int.toNat 3) ((ps9 s : Nat) : Int) = [so9 s, ((pt9 s : Nat) : Int), (((tb9 s).length : Nat) : Int), ((ps9 s : Nat) : Int), ((sn9 s : Nat) : Int), 0, ((rz9 s : Nat) : Int)] := rfl
 rw [S2]
 refine gdP (by constructor <;> simp) ?_
 refine gdP (by constructor <;> simp) ?_
 refine gdP (by constructor <;> simp) ?_
 refine gdP (by constructor <;> simp) ?_
 have G3 : gt [so9 s, ((pt9 s : Nat) : Int), (((tb9 s).length : Nat) : Int), ((ps9 s : Nat) : Int), ((sn9 s : Nat) : Int), 0, ((rz9 s : Nat) : Int)] 3 = ((ps9 s : Nat) : Int) := rfl
 have G4 : gt [so9 s, ((pt9 s : Nat) : Int), (((tb9 s).length : Nat) : Int), ((ps9 s : Nat) : Int), ((sn9 s : Nat) : Int), 0, ((rz9 s : Nat) : Int)] 4 = ((sn9 s : Nat) : Int) := rfl
 rw [G3, G4, v4]
 have S3 : List.set [so9 s, ((pt9 s : Nat) : Int), (((tb9 s).length : Nat) : Int), ((ps9 s : Nat) : Int), ((sn9 s : Nat) : Int), 0, ((rz9 s : Nat) : Int)] (Int.toNat 5) ((pr9 s : Nat) : Int) = [so9 s, ((pt9 s : Nat) : Int), (((tb9 s).length : Nat) : Int), ((ps9 s : Nat) : Int), ((sn9 s : Nat) : Int), ((pr9 s : Nat) : Int), ((rz9 s : Nat) : Int)] := rfl
 rw [S3]
 refine gdP (by constructor <;> simp) ?_
 refine gdP (by constructor <;> simp) ?_
 refine letP ?_
 have G5 : gt [so9 s, ((pt9 s : Nat) : Int), (((tb9 s).length : Nat) : Int), ((ps9 s : Nat) : Int), ((sn9 s : Nat) : Int), ((pr9 s : Nat) : Int), ((rz9 s : Nat) : Int)] 5 = ((pr9 s : Nat) : Int) := rfl
 have G6 : gt [so9 s, ((pt9 s : Nat) : Int), (((tb9 s).length : Nat) : Int), ((ps9 s : Nat) : Int), ((sn9 s : Nat) : Int), ((pr9 s : Nat) : Int), ((rz9 s : Nat) : Int)] 6 = ((rz9 s : Nat) : Int) := rfl
 rw [G5, G6, v5]
 refine bdP (x := ((pc9 s : Nat) : Int)) (rup_eq (x := pe9 s) (n := 256) (by omega) (by omega) (by omega)) ?_
 rw [v6]
 refine bdP (x := ((pa9 s : Nat) : Int)) (rup_eq (x := pc9 s + (Co9 s).length) (n := 256) (by omega) (by omega) (by omega)) ?_
 rw [v7]
 refine bdP (x := ((pl9 s : Nat) : Int)) (rup_eq (x := pa9 s + (Da9 s).length) (n := 8) (by omega) (by omega) (by omega)) ?_
 refine jnC (fun c => c = en9 s) ?_ (fun kk hkk => ?_)
 rotate_left
 · refine deP (fun c => ?_) (fun c => ?_)
   · have c : (((Co9 s).length : Nat) : Int) > 0 := c
     refine letP (hkk _ ?_)
     unfold en9
     rw [if_neg (by omega)]
   · have c : ¬ (((Co9 s).length : Nat) : Int) > 0 := c
     refine hkk _ ?_
     unfold en9
     rw [if_pos (by omega)]
 rintro _ rfl
 refine bdP (x := (hd9 s, 0)) (by
  rw [<- headS_ok hf hm]
  exact ref03_Put_eq ⟨hw.1, en9_k, by show InK .u64 (64 : Int); decide, by show InK .i64 ((ct9 s : Nat) : Int); exact ⟨by show (-9223372036854775808 : Int) <= _; omega, by show _ <= (9223372036854775807 : Int); omega⟩⟩) ?_
 have hsw := sg9_wf hf
 have hsw' : ∀ y, y ∈ segG (pd9 s) (pc9 s) (pa9 s) (pl9 s) (pe9 s) (dn9 s) (Co9 s) (Da9 s) (Bs9 s) (Tl9 s) (Tb9 s) -> Wf04 y := hsw
 have u1 : u64.wrap (((Co9 s).length : Nat) : Int) = (((Co9 s).length : Nat) : Int) := u64w (by omega)
 have u2 : u64.wrap (((Da9 s).length : Nat) : Int) = (((Da9 s).length : Nat) : Int) := u64w (by omega)
 have u3 : u64.wrap (((Tl9 s).length : Nat) : Int) = (((Tl9 s).length : Nat) : Int) := u64w (by omega)
 have hhd : (hd9 s).length = 64 := hput_length _
 refine bdP (x := sput (segA (pe9 s))) (ref04_Put_eq (s := segA (pe9 s)) (hsw' _ (by unfold segG; simp))) ?_
 refine gdP (by show ((hd9 s).length + (sput _).length) * 1 <= _; rw [hhd, sput_length]; omega) ?_
 have fl : ∀ a c : List Seg, ((a ++ c).map sput).flatten = (a.map sput).flatten ++ (c.map sput).flatten := fun a c => by rw [List.map_append, List.flatten_append]
 have f1s : ∀ y : Seg, ([y].map sput).flatten = sput y := fun y => by simp
 refine jnC (fun c => c = hd9 s ++ (([segA (pe9 s)] ++ sgB (pc9 s) (Co9 s)).map sput).flatten) ?_ (fun kk hkk => ?_)
 rotate_left
 · refine deP (fun c => ?_) (fun c => ?_)
   · have c : (((Co9 s).length : Nat) : Int) > 0 := c
     have eB : sgB (pc9 s) (Co9 s) = [segB (pc9 s) (Co9 s)] := by unfold sgB; rw [if_neg (by omega)]
     refine letP ?_
     refine bdP (x := sput (segB (pc9 s) (Co9 s))) (by
      show ref04_Put (1, 5, ((pc9 s : Nat) : Int), ((pc9 s : Nat) : Int), u64.wrap (((Co9 s).length : Nat) : Int), u64.wrap (((Co9 s).length : Nat) : Int), 256) = _
      rw [u1]
      exact ref04_Put_eq (s := segB (pc9 s) (Co9 s)) (hsw' _ (by unfold segG; rw [eB]; simp))) ?_
     refine gdP (by show ((hd9 s ++ sput _).length + (sput _).length) * 1 <= _; rw [List.length_append, hhd, sput_length, sput_length]; omega) ?_
     refine hkk _ ?_
     rw [eB, fl, f1s, f1s, List.append_assoc]
   · have c : ¬ (((Co9 s).length : Nat) : Int) > 0 := c
     have eB : sgB (pc9 s) (Co9 s) = [] := by unfold sgB; rw [if_pos (by omega)]
     refine hkk _ ?_
     rw [eB, List.append_nil, f1s]
 rintro _ rfl
 have lB : (sgB (pc9 s) (Co9 s)).length <= 1 := by unfold sgB; split <;> simp
 have lD : (sgD (pa9 s) (pl9 s) (Da9 s) (Tl9 s) (Bs9 s)).length <= 1 := by unfold sgD; split <;> simp
 refine jnC (fun c => c = hd9 s ++ ((([segA (pe9 s)] ++ sgB (pc9 s) (Co9 s)) ++ sgD (pa9 s) (pl9 s) (Da9 s) (Tl9 s) (Bs9 s)).map sput).flatten) ?_ (fun kk hkk => ?_)
 rotate_left
 · refine ifP (fun c => ?_) (fun c => ?_)
   · have eD : sgD (pa9 s) (pl9 s) (Da9 s) (Tl9 s) (Bs9 s) = [segD (pa9 s) (pl9 s) (Da9 s) (Tl9 s) (Bs9 s)] := by unfold sgD; rw [if_pos c]
     refine letP ?_
     refine jnC (fun c => c = nD9 (pa9 s) (pl9 s) (Da9 s) (Tl9 s)) ?_ (fun k2 hk2 => ?_)
     · rintro _ rfl
       refine jnC (fun c => c = if nD9 (pa9 s) (pl9 s) (Da9 s) (Tl9 s) = 0 then 0 else ((pa9 s : Nat) : Int)) ?_ (fun k3 hk3 => ?_)
       · rintro _ rfl
         refine bdP (x := sput (segD (pa9 s) (pl9 s) (Da9 s) (Tl9 s) (Bs9 s))) (ref04_Put_eq (s := segD (pa9 s) (pl9 s) (Da9 s) (Tl9 s) (Bs9 s)) (hsw' _ (by unfold segG; rw [eD]; simp))) ?_
         refine gdP (by rw [List.length_append, hhd, sputs_len, sput_length, List.length_append, List.length_singleton]; omega) ?_
         refine hkk _ ?_
         rw [eD, fl (_ ++ _), f1s, List.append_assoc]
       refine eqP (fun c => hk3 _ ?_) (fun c => hk3 _ ?_)
       · rw [if_pos c]
       · rw [if_neg c]
     refine deP (fun c => ?_) (fun c => hk2 _ ?_)
     · have c : (((Tl9 s).length : Nat) : Int) > 0 := c
       refine letP (hk2 _ ?_)
       show u64.wrap (u64.wrap (((pl9 s : Nat) : Int) + u64.wrap (((Tl9 s).length : Nat) : Int)) - ((pa9 s : Nat) : Int)) = _
       rw [u3]
       unfold nD9
       rw [if_neg (by omega)]
     · have c : ¬ (((Tl9 s).length : Nat) : Int) > 0 := c
       show u64.wrap (((Da9 s).length : Nat) : Int) = _
       rw [u2]
       unfold nD9
       rw [if_pos (by omega)]
   · have eD : sgD (pa9 s) (pl9 s) (Da9 s) (Tl9 s) (Bs9 s) = [] := by unfold sgD; rw [if_neg c]
     refine hkk _ ?_
     rw [eD, List.append_nil]
 rintro _ rfl
 have hpdn : ref04_Put (2, 4, ((pd9 s : Nat) : Int), ((pd9 s : Nat) : Int), ((dn9 s : Nat) : Int), ((dn9 s : Nat) : Int), 8) = some (sput (segY (pd9 s) (dn9 s))) := ref04_Put_eq (s := segY (pd9 s) (dn9 s)) (hsw' _ (by unfold segG; simp))
 refine bdP hpdn ?_
 refine gdP (by rw [List.length_append, hhd, sputs_len, sput_length, List.length_append, List.length_append, List.length_singleton]; omega) ?_
 refine jnC (fun c => c = oh9 s) ?_ (fun kk hkk => ?_)
 rotate_left
 · have eH : ∀ T, sgT (pl9 s) (Tl9 s) (Tb9 s) = T -> oh9 s = (hd9 s ++ ((([segA (pe9 s)] ++ sgB (pc9 s) (Co9 s)) ++ sgD (pa9 s) (pl9 s) (Da9 s) (Tl9 s) (Bs9 s)).map sput).flatten ++ sput (segY (pd9 s) (dn9 s))) ++ (T.map sput).flatten := fun T hT => by
    unfold oh9 sg9 segG
    rw [hT, fl, fl, f1s]
    simp only [List.append_assoc]
   refine ifP (fun c => ?_) (fun c => ?_)
   · have eT : sgT (pl9 s) (Tl9 s) (Tb9 s) = [segT (pl9 s) (Tl9 s) (Tb9 s)] := by unfold sgT; rw [if_pos c]
     refine letP ?_
     refine jnC (fun c => c = if (Tl9 s).length = 0 then 0 else ((pl9 s : Nat) : Int)) ?_ (fun k2 hk2 => ?_)
     · rintro _ rfl
       refine bdP (x := sput (segT (pl9 s) (Tl9 s) (Tb9 s))) (by
        show ref04_Put (7, 4, (if (Tl9 s).length = 0 then 0 else ((pl9 s : Nat) : Int)), (if (Tl9 s).length = 0 then 0 else ((pl9 s : Nat) : Int)), u64.wrap (((Tl9 s).length : Nat) : Int), u64.wrap (u64.wrap (((Tl9 s).length : Nat) : Int) + Tb9 s), 8) = _
        rw [u3]
        exact ref04_Put_eq (s := segT (pl9 s) (Tl9 s) (Tb9 s)) (hsw' _ (by unfold segG; rw [eT]; simp))) ?_
       refine gdP (by rw [List.length_append, List.length_append, hhd, sputs_len, sput_length, sput_length, List.length_append, List.length_append, List.length_singleton]; omega) ?_
       refine hkk _ ?_
       rw [eH _ eT, f1s]
     refine eqP (fun c => hk2 _ ?_) (fun c => hk2 _ ?_)
     · have c : u64.wrap (((Tl9 s).length : Nat) : Int) = 0 := c
       rw [u3] at c
       rw [if_pos (by omega)]
     · have c : u64.wrap (((Tl9 s).length : Nat) : Int) ≠ 0 := c
       rw [u3] at c
       rw [if_neg (by omega)]
   · have eT : sgT (pl9 s) (Tl9 s) (Tb9 s) = [] := by unfold sgT; rw [if_neg c]
     refine hkk _ ?_
     rw [eH _ eT]
     simp
 rintro _ rfl
 refine bdP (x := dp9 s) (ref05_Put_eq hnm hnv hsv (k64 (n := pt9 s) (by omega)) ktb (k64 (n := ps9 s) (by omega)) ksn (k64 (n := pr9 s) (by omega)) krz) ?_
 have hoh := oh9_len s
 have hdp : (dp9 s).length = dn9 s := b.dp _ _ _
 have hoa := oa9_len hf
 refine gdP (by rw [hoh, hdp]; omega) ?_
 refine gdP (by rw [List.length_append, hoh, hdp]; omega) ?_
 refine bdP (x := ob9 s) (by
  show ref09_fill (oa9 s) 8 = _
  have e : ob9 s = padTo (oa9 s) (upN (oa9 s).length 8) := by unfold ob9 ps9; rw [hoa]
  rw [e]
  exact fill_eq (b := oa9 s) (by omega) (n := 8) (.inl rfl)) ?_
 have hob := ob9_len hf
 have hsy := sy9_len s
 have hrl := rl9_len s
 refine jnC (fun c => c = ob9 s ++ (if (De9 s).length = 0 then [] else yput (0, 0, 0, 0, 0, 0))) ?_ (fun kk hkk => ?_)
 rotate_left
 · refine deP (fun c => ?_) (fun c => ?_)
   · have c : (((De9 s).length : Nat) : Int) > 0 := c
     refine gdP (by rw [hob]; show (0 : Int) <= 24 /\ (ps9 s + 24) * 1 <= 140737488355328; omega) ?_
     refine hkk _ ?_
     rw [if_neg (by omega), yput0]
     rfl
   · have c : ¬ (((De9 s).length : Nat) : Int) > 0 := c
     refine hkk _ ?_
     rw [if_pos (by omega), List.append_nil]
 rintro _ rfl
 have okd := okD_of hw hm
 have okf := okF_of hw hf hm
 refine jnC (fun c => c = oc9 s) ?_ (fun kk hkk => ?_)
 rotate_left
 · by_cases h0 : (De9 s).length = 0
   · have e : oc9 s = ob9 s := by
      rw [oc9_eq hf]
      unfold sy9 symsG
      rw [if_pos h0, List.append_nil]
     rw [if_pos h0, List.append_nil]
     refine scan_Q (P := P) (De9 s) (by omega) (fun _ => 0) (fun i => (ob9 s, (i : Int))) (kk (ob9 s)) (fun _ _ => none) rfl (fun _ => hkk _ e.symm) (fun _ h => absurd (firstE_zero _ _ fun _ _ => rfl) h) (fun i rec hi Q q0 _ => by omega) (fun rec Q q => ?_)
     exact fP (by show ¬ decide ((((De9 s).length : Nat) : Int) < (((De9 s).length : Nat) : Int)) = true; simp) q
   rw [if_neg h0]
   have e : oc9 s = ob9 s ++ symsI (pc9 s) (pa9 s) ((at9 s).drop (1 + (Nd9 s).length)) (De9 s) (De9 s).length := by
    rw [oc9_eq hf]
    unfold sy9 symsG
    rw [if_neg h0]
   refine scan_Q (P := P) (De9 s) (by omega) (fun _ => 0) (fun i => (ob9 s ++ symsI (pc9 s) (pa9 s) ((at9 s).drop (1 + (Nd9 s).length)) (De9 s) i, (i : Int))) (kk (oc9 s)) (fun _ _ => none) (by show (ob9 s ++ yput (0, 0, 0, 0, 0, 0), (0 : Int)) = (ob9 s ++ symsI _ _ _ _ 0, ((0 : Nat) : Int)); rw [symsI_zero]; rfl) (fun _ => hkk _ rfl) (fun _ h => absurd (firstE_zero _ _ fun _ _ => rfl) h) (fun i rec hi Q q0 _ => ?_) (fun rec Q q => ?_)
   · have hgi : gt (De9 s) (i : Int) = (De9 s)[i] := gt_nat hi
     obtain ⟨o1, o2, o3⟩ := okd _ (List.getElem_mem hi)
     have o3 := inK_u64 o3
     have w2 : i64.wrap (i64.wrap (1 + (((Nd9 s).length : Nat) : Int)) + (i : Int)) = ((1 + (Nd9 s).length + i : Nat) : Int) := by rw [w1, i64w (by omega)]; omega
     have ga : gt (at9 s) (i64.wrap (i64.wrap (1 + (((Nd9 s).length : Nat) : Int)) + (i : Int))) = gt ((at9 s).drop (1 + (Nd9 s).length)) (i : Int) := by rw [w2, gt_drop]
     refine tP (dif_lt hi) ?_
     refine gdP (by show (0 : Int) <= i /\ (i : Int) < (((De9 s).length : Nat) : Int); omega) ?_
     refine gdP (by
      show (0 : Int) <= i64.wrap (i64.wrap (1 + (((Nd9 s).length : Nat) : Int)) + (i : Int)) /\ i64.wrap (i64.wrap (1 + (((Nd9 s).length : Nat) : Int)) + (i : Int)) < (((at9 s).length : Nat) : Int)
      rw [w2]; omega) ?_
     refine jnC (fun c => c = (u32.wrap (gt ((at9 s).drop (1 + (Nd9 s).length)) (i : Int)), (if (De9 s)[i].2.2.2 = true then 32 else 16), 0, 1, (De9 s)[i].2.2.1, 0)) ?_ (fun k2 hk2 => ?_)
     · rintro _ rfl
       refine jnC (fun c => c = symOf (pc9 s) (pa9 s) (gt ((at9 s).drop (1 + (Nd9 s).length)) (i : Int)) (De9 s)[i]) ?_ (fun k3 hk3 => ?_)
       · rintro _ rfl
         refine bdP (ref06_Put_eq (symOf_wf _ _ _ _)) ?_
         refine gdP (by show ((ob9 s ++ symsI _ _ _ _ i).length + (yput _).length) * 1 <= _; rw [List.length_append, symsI_len, yput_length, hob]; omega) ?_
         refine letP ?_
         have q := q0 rfl
         rw [<- i64s (by omega), symsI_succ, hgi, <- List.append_assoc] at q
         exact q
       have hs6 : ∀ v : Int, (0 <= v /\ v <= 6) -> u8.wrap ((if (De9 s)[i].2.2.2 = true then 32 else 16) + v) = (if (De9 s)[i].2.2.2 = true then 32 else 16) + v := fun v hv => u8w (by split <;> omega)
       refine jnC (fun c => c = symOf (pc9 s) (pa9 s) (gt ((at9 s).drop (1 + (Nd9 s).length)) (i : Int)) (De9 s)[i]) ?_ (fun k4 hk4 => ?_)
       · rintro _ rfl
         exact hk3 _ rfl
       refine eqP (fun c => ?_) (fun c => ?_)
       · have c : (De9 s)[i].2.1 = 0 := by rw [<- hgi]; exact c
         refine hk4 _ ?_
         unfold symOf kindv
         rw [if_pos c, if_pos c, if_pos c, Int.add_zero]
       · have c : (De9 s)[i].2.1 ≠ 0 := by rw [<- hgi]; exact c
         refine jnC (fun c => c = symOf (pc9 s) (pa9 s) (gt ((at9 s).drop (1 + (Nd9 s).length)) (i : Int)) (De9 s)[i]) ?_ (fun k5 hk5 => ?_)
         · rintro _ rfl
           exact hk4 _ rfl
         refine eqP (fun d => ?_) (fun d => ?_)
         · have d : (De9 s)[i].2.1 = 1 := by rw [<- hgi]; exact d
           refine hk5 _ ?_
           unfold symOf kindv placev
           rw [if_neg c, if_neg c, if_neg c, if_pos d, if_pos d, Int.add_comm ((pc9 s : Nat) : Int)]
           dsimp only
           rw [hs6 2 (by omega)]
         · have d : (De9 s)[i].2.1 ≠ 1 := by rw [<- hgi]; exact d
           refine jnC (fun c => c = symOf (pc9 s) (pa9 s) (gt ((at9 s).drop (1 + (Nd9 s).length)) (i : Int)) (De9 s)[i]) ?_ (fun k6 hk6 => ?_)
           · rintro _ rfl
             exact hk5 _ rfl
           refine eqP (fun e => ?_) (fun e => ?_)
           · have e : (De9 s)[i].2.1 = 2 := by rw [<- hgi]; exact e
             refine hk6 _ ?_
             unfold symOf kindv placev
             rw [if_neg c, if_neg c, if_neg c, if_neg d, if_neg d, if_pos e, if_pos e, Int.add_comm ((pa9 s : Nat) : Int)]
             dsimp only
             rw [hs6 1 (by omega)]
           · have e : (De9 s)[i].2.1 ≠ 2 := by rw [<- hgi]; exact e
             refine hk6 _ ?_
             unfold symOf kindv placev
             rw [if_neg c, if_neg c, if_neg c, if_neg d, if_neg d, if_neg e, if_neg e, Int.zero_add, u64w (n := (De9 s)[i].2.2.1) (by omega)]
             dsimp only
             rw [hs6 6 (by omega)]
     refine ifP (fun c => ?_) (fun c => ?_)
     · have c : (De9 s)[i].2.2.2 = true := by rw [<- hgi]; exact c
       refine hk2 _ ?_
       show (u32.wrap (gt (at9 s) (i64.wrap (i64.wrap (1 + (((Nd9 s).length : Nat) : Int)) + (i : Int)))), (32 : Int), (0 : Int), (1 : Int), (gt (De9 s) (i : Int)).2.2.1, (0 : Int)) = _
       rw [if_pos c, ga, hgi]
     · have c : ¬ (De9 s)[i].2.2.2 = true := by rw [<- hgi]; exact c
       refine hk2 _ ?_
       show (u32.wrap (gt (at9 s) (i64.wrap (i64.wrap (1 + (((Nd9 s).length : Nat) : Int)) + (i : Int)))), (16 : Int), (0 : Int), (1 : Int), (gt (De9 s) (i : Int)).2.2.1, (0 : Int)) = _
       rw [if_neg c, ga, hgi]
   · refine fP (by show ¬ decide ((((De9 s).length : Nat) : Int) < (((De9 s).length : Nat) : Int)) = true; simp) ?_
     rw [e] at q
     exact q
 rintro _ rfl
 have hoc := oc9_len hf
 refine jnC (fun c => c = od9 s) ?_ (fun kk hkk => ?_)
 rotate_left
 · refine scan_Q (P := P) (Fi9 s) (by omega) (fun _ => 0) (fun i => (oc9 s ++ relsG (pc9 s) (pa9 s) ((Fi9 s).take i), (i : Int))) (kk (od9 s)) (fun _ _ => none) (by show (oc9 s, (0 : Int)) = (oc9 s ++ [], ((0 : Nat) : Int)); rw [List.append_nil]; rfl) (fun _ => hkk _ rfl) (fun _ h => absurd (firstE_zero _ _ fun _ _ => rfl) h) (fun i rec hi Q q0 _ => ?_) (fun rec Q q => ?_)
   · have hgi : gt (Fi9 s) (i : Int) = (Fi9 s)[i] := gt_nat hi
     have hg : (0 : Int) <= i /\ (i : Int) < (((Fi9 s).length : Nat) : Int) := by omega
     obtain ⟨o1, o2, o3, o4, o5, o6⟩ := okf _ (List.getElem_mem hi)
     refine tP (dif_lt hi) ?_
     refine gdP hg ?_
     refine gdP hg ?_
     refine gdP hg ?_
     refine gdP hg ?_
     refine jnC (fun c => c = (u64.wrap (placev (pc9 s) (pa9 s) (Fi9 s)[i].1 + (Fi9 s)[i].2.1), (Fi9 s)[i].2.2.1, 0, (Fi9 s)[i].2.2.2.2)) ?_ (fun k2 hk2 => ?_)
     · rintro _ rfl
       refine gdP hg ?_
       refine jnC (fun c => c = relOf (pc9 s) (pa9 s) (Fi9 s)[i]) ?_ (fun k3 hk3 => ?_)
       · rintro _ rfl
         refine bdP (ref07_Put_eq (relOf_wf (okf _ (List.getElem_mem hi)))) ?_
         refine gdP (by show ((oc9 s ++ relsG _ _ _).length + (rput _).length) * 1 <= _; rw [List.length_append, relsG_len, rput_length, hoc, List.length_take]; omega) ?_
         refine letP ?_
         have q := q0 rfl
         have ea : relsG (pc9 s) (pa9 s) ((Fi9 s).take (i + 1)) = relsG (pc9 s) (pa9 s) ((Fi9 s).take i) ++ rput (relOf (pc9 s) (pa9 s) (Fi9 s)[i]) := by
          unfold relsG
          rw [take_succ hi, List.map_append, List.flatten_append, List.map_singleton, List.flatten_singleton]
         rw [<- i64s (by omega), ea, <- List.append_assoc] at q
         exact q
       refine deP (fun c => ?_) (fun c => ?_)
       · have c : (Fi9 s)[i].2.2.2.1 >= 0 := by rw [<- hgi]; exact c
         refine gdP hg ?_
         refine hk3 _ ?_
         show (u64.wrap (placev (pc9 s) (pa9 s) (Fi9 s)[i].1 + (Fi9 s)[i].2.1), (Fi9 s)[i].2.2.1, u32.wrap (i64.wrap ((gt (Fi9 s) (i : Int)).2.2.2.1 + 1)), (Fi9 s)[i].2.2.2.2) = _
         unfold relOf symnF
         rw [if_pos c, hgi]
       · have c : ¬ (Fi9 s)[i].2.2.2.1 >= 0 := by rw [<- hgi]; exact c
         refine hk3 _ ?_
         unfold relOf symnF
         rw [if_neg c]
     refine eqP (fun c => ?_) (fun c => ?_)
     · have c : (Fi9 s)[i].1 = 2 := by rw [<- hgi]; exact c
       refine gdP hg ?_
       refine hk2 _ ?_
       show (u64.wrap ((gt (Fi9 s) (i : Int)).2.1 + ((pa9 s : Nat) : Int)), (gt (Fi9 s) (i : Int)).2.2.1, (0 : Int), (gt (Fi9 s) (i : Int)).2.2.2.2) = _
       unfold placev
       rw [hgi, if_neg (by omega), if_pos c, Int.add_comm]
     · have c : (Fi9 s)[i].1 ≠ 2 := by rw [<- hgi]; exact c
       refine hk2 _ ?_
       show (u64.wrap ((gt (Fi9 s) (i : Int)).2.1 + ((pc9 s : Nat) : Int)), (gt (Fi9 s) (i : Int)).2.2.1, (0 : Int), (gt (Fi9 s) (i : Int)).2.2.2.2) = _
       unfold placev
       rw [hgi, if_pos (o1.resolve_right c), Int.add_comm]
   · refine fP (by show ¬ decide ((((Fi9 s).length : Nat) : Int) < (((Fi9 s).length : Nat) : Int)) = true; simp) ?_
     rw [List.take_length]
     rw [od9_eq hf] at q
     exact q
 rintro _ rfl
 have hod := od9_len hf
 refine jnC (fun c => c = oe9 s) ?_ (fun kk hkk => ?_)
 rotate_left
 · refine deP (fun c => ?_) (fun c => ?_)
   · have c : (((Co9 s).length : Nat) : Int) > 0 := c
     refine jnC (fun c => c = oe9 s) ?_ (fun k2 hk2 => ?_)
     · rintro _ rfl
       exact hkk _ rfl
     refine bdP (fill_eq (b := od9 s) (by omega) (n := 256) (.inr rfl)) ?_
     have e : upN (od9 s).length 256 = pc9 s := by rw [hod]; rfl
     rw [e]
     refine gdP (by rw [padTo_len, hod]; show (max (pe9 s) (pc9 s) + (Co9 s).length) * 1 <= _; omega) ?_
     refine hk2 _ ?_
     unfold oe9 putIf
     rw [if_neg (by omega)]
   · have c : ¬ (((Co9 s).length : Nat) : Int) > 0 := c
     refine hkk _ ?_
     unfold oe9 putIf
     rw [if_pos (by omega)]
 rintro _ rfl
 have hoe := oe9_len hf
 have hoel := oe9_le hf
 refine jnC (fun c => c = of9 s) ?_ (fun kk hkk => ?_)
 rotate_left
 · refine deP (fun c => ?_) (fun c => ?_)
   · have c : (((Da9 s).length : Nat) : Int) > 0 := c
     refine jnC (fun c => c = of9 s) ?_ (fun k2 hk2 => ?_)
     · rintro _ rfl
       exact hkk _ rfl
     refine bdP (fill_eq (b := oe9 s) (by omega) (n := 256) (.inr rfl)) ?_
     have e : upN (oe9 s).length 256 = pa9 s := by
      rw [hoe]
      by_cases h0 : (Co9 s).length = 0
      · rw [if_pos h0]
        show pc9 s = upN (pc9 s + (Co9 s).length) 256
        rw [h0]
        unfold pc9 upN
        omega
      · rw [if_neg h0]; rfl
     rw [e]
     refine gdP (by rw [padTo_len]; show (max (oe9 s).length (pa9 s) + (Da9 s).length) * 1 <= _; omega) ?_
     refine hk2 _ ?_
     unfold of9 putIf
     rw [if_neg (by omega)]
   · have c : ¬ (((Da9 s).length : Nat) : Int) > 0 := c
     refine hkk _ ?_
     unfold of9 putIf
     rw [if_pos (by omega)]
 rintro _ rfl
 have hofl := of9_le hf
 refine jnC (fun c => c = og9 s) ?_ (fun kk hkk => ?_)
 rotate_left
 · refine deP (fun c => ?_) (fun c => ?_)
   · have c : (((Tl9 s).length : Nat) : Int) > 0 := c
     refine jnC (fun c => c = padTo (of9 s) (pl9 s)) ?_ (fun k2 hk2 => ?_)
     · rintro _ rfl
       refine gdP (by rw [padTo_len]; show (max (of9 s).length (pl9 s) + (Tl9 s).length) * 1 <= _; omega) ?_
       refine hkk _ ?_
       unfold og9 putIf
       rw [if_neg (by omega)]
     exact pad_loop (P := P) hofl (by omega) (hk2 _ rfl)
   · have c : ¬ (((Tl9 s).length : Nat) : Int) > 0 := c
     refine hkk _ ?_
     unfold og9 putIf
     rw [if_pos (by omega)]
 rintro _ rfl
 refine deP (fun c => ?_) (fun c => ?_)
 · rw [if_pos (by omega)] at hP; exact hP
 · rw [if_neg (by omega)] at hP; exact hP
end Dm

namespace Dm
open Go
open IntKind (u64 i64 u8 u32)
theorem gt_vals7 {v : Dvs} (hv : v.length = 7) {k : Nat} (hk : k < 7) : gt (vals7 v) (k : Int) = dval v k := by
 obtain ⟨a0, a1, a2, a3, a4, a5, a6, rfl⟩ := seven hv
 have : k = 0 \/ k = 1 \/ k = 2 \/ k = 3 \/ k = 4 \/ k = 5 \/ k = 6 := by omega
 rcases this with rfl | rfl | rfl | rfl | rfl | rfl | rfl <;> rfl
theorem rnamed_run {P : Option (Img × Int) -> Prop} {l : List Seg} (hl : l.length <= 100) (hw : ∀ s ∈ l, Wf04 s) {b : List Int} (hb : b.length <= 65536) (hB : Bytes b) {s : Seg} (hs : Wf04 s) (h : Int × Int × Int × Int)
    (hE : ∀ e y, e ≠ 0 -> totE l b s = e -> P (some (y, e))) (hF : totE l b s = 0 -> P (some ((h, l, soV (tabT l b s) (dv b s 0), nmdN l b s, symN l b s, symT l b s, relT l b s, b), 0))) :
    P (ref09_named (h, l, [], [], [], [], [], b) s) := by
 have hCB := segC_bytes hB s
 have hCl := segC_len b s
 have hTl : (tabT l b s).length <= b.length := bytesS_len b l (dv b s 1) (dv b s 2)
 have hD := wf_dynG hCB
 have hDn : (dynX b s).1.length <= (segC b s).length + 1 := len_dynG (segC b s)
 have hv : ∀ k, InK .u64 (dv b s k) := fun k => wf_dval hCB k
 have hv4 := inK_u64 (hv 4)
 have h7 : (dynX b s).2.length = 7 := dynF_len _ _ _ _ _ rfl
 have h7l : (vals7 (dynX b s).2).length = 7 := by unfold vals7; rw [List.length_map, h7]
 have g0 : gt (vals7 (dynX b s).2) 0 = dv b s 0 := gt_vals7 h7 (k := 0) (by omega)
 have g1 : gt (vals7 (dynX b s).2) 1 = dv b s 1 := gt_vals7 h7 (k := 1) (by omega)
 have g2 : gt (vals7 (dynX b s).2) 2 = dv b s 2 := gt_vals7 h7 (k := 2) (by omega)
 have g3 : gt (vals7 (dynX b s).2) 3 = dv b s 3 := gt_vals7 h7 (k := 3) (by omega)
 have g4 : gt (vals7 (dynX b s).2) 4 = dv b s 4 := gt_vals7 h7 (k := 4) (by omega)
 have g5 : gt (vals7 (dynX b s).2) 5 = dv b s 5 := gt_vals7 h7 (k := 5) (by omega)
 have g6 : gt (vals7 (dynX b s).2) 6 = dv b s 6 := gt_vals7 h7 (k := 6) (by omega)
 have hg : ∀ k : Int, 0 <= k -> k < 7 -> (0 : Int) <= k /\ k < (((vals7 (dynX b s).2).length : Nat) : Int) := fun k a c => by rw [h7l]; omega
 have nE : ∀ e, e ≠ 0 -> nmdE l b s = e -> ∀ y, P (some (y, e)) := fun e h0 he y => hE e y h0 (by unfold totE; rw [he, if_neg h0])
 unfold ref09_named
 refine bdP (ref01_Cut_eq (by show b.length <= _; omega) (inK_u64 hs.2.2.1).1 (inK_u64 hs.2.2.2.2.1).1) ?_
 refine bdP (x := (rnfOf (dynX b s), dynE b s)) (ref05_Get_eq (b := segC b s) (by omega) hCB) ?_
 refine neP (fun h1 => ?_) (fun h1 => ?_)
 rotate_left
 · exact nE _ h1 (by unfold nmdE; rw [if_neg h1]) _
 have h1 : dynE b s = 0 := h1
 refine gdP (hg 1 (by omega) (by omega)) ?_
 refine gdP (hg 2 (by omega) (by omega)) ?_
 refine bdP (x := (tabT l b s, tabTE l b s)) (by
  show ref09_bytes (h, l, [], [], [], [], [], b) (gt (vals7 (dynX b s).2) 1) (gt (vals7 (dynX b s).2) 2) = _
  rw [g1, g2]
  exact bytes_eq hl hw hb (hv 1) (hv 2) h [] [] [] [] []) ?_
 refine neP (fun h2 => ?_) (fun h2 => ?_)
 rotate_left
 · have h2 : tabTE l b s ≠ 0 := h2
   exact nE _ h2 (by unfold nmdE; rw [if_pos h1, if_neg h2]) _
 have h2 : tabTE l b s = 0 := h2
 refine bdP (ref02_Check_eq (t := tabT l b s) (by omega)) ?_
 refine neP (fun h3 => ?_) (fun h3 => ?_)
 rotate_left
 · exact nE _ (by decide) (by unfold nmdE; rw [if_pos h1, if_pos h2, if_neg h3]) _
 refine gdP (hg 0 (by omega) (by omega)) ?_
 refine jnC (fun R => soE (tabT l b s) (dv b s 0) = 0 /\ R = (h, l, soV (tabT l b s) (dv b s 0), [], [], [], [], b)) ?_ (fun kk hkk => ?_)
 · rintro _ ⟨hso, rfl⟩
   have e : nmdE l b s = firstE (nameE (tabT l b s)) (dynX b s).1 := by unfold nmdE; rw [if_pos h1, if_pos h2, if_pos h3, if_pos hso]
   refine jnC (fun R => nmdE l b s = 0 /\ R = (h, l, soV (tabT l b s) (dv b s 0), nmdN l b s, [], [], [], b)) ?_ (fun kk hkk => ?_)
   · rintro _ ⟨hn0, rfl⟩
     have sE : ∀ e, e ≠ 0 -> symsE l b s = e -> ∀ y, P (some (y, e)) := fun e h0 he y => hE e y h0 (by unfold totE; rw [if_pos hn0, he, if_neg h0])
     have hTw := symT_wf hB l s
     have hTn := symT_len l b s
     refine gdP (hg 4 (by omega) (by omega)) ?_
     refine deP (fun c1 => ?_) (fun c1 => ?_)
     · have c1 : dv b s 4 > 1024 := by rw [<- g4]; exact c1
       exact sE _ (by decide) (by unfold symsE; rw [if_pos c1]) _
     have c1 : ¬ dv b s 4 > 1024 := by rw [<- g4]; exact c1
     refine gdP (hg 4 (by omega) (by omega)) ?_
     refine jnC (fun R => symsE l b s = 0 /\ R = (h, l, soV (tabT l b s) (dv b s 0), nmdN l b s, symN l b s, symT l b s, [], b)) ?_ (fun kk hkk => ?_)
     · rintro _ ⟨hs0, rfl⟩
       have rE : ∀ e, e ≠ 0 -> relsE l b s ((symT l b s).length : Int) = e -> ∀ y, P (some (y, e)) := fun e h0 he y => hE e y h0 (by unfold totE; rw [if_pos hn0, if_pos hs0, he])
       have hF' : relsE l b s ((symT l b s).length : Int) = 0 -> P (some ((h, l, soV (tabT l b s) (dv b s 0), nmdN l b s, symN l b s, symT l b s, relT l b s, b), 0)) := fun h0 => hF (by unfold totE; rw [if_pos hn0, if_pos hs0, h0])
       have hRw := relT_wf hB l s
       have hRn := relT_len l b s
       refine gdP (hg 6 (by omega) (by omega)) ?_
       refine deP (fun d1 => ?_) (fun d1 => ?_)
       · have d1 : dv b s 6 > 65536 := by rw [<- g6]; exact d1
         exact rE _ (by decide) (by unfold relsE; rw [if_pos d1]) _
       have d1 : ¬ dv b s 6 > 65536 := by rw [<- g6]; exact d1
       refine gdP (hg 6 (by omega) (by omega)) ?_
       refine deP (fun d2 => ?_) (fun d2 => ?_)
       rotate_left
       · have d2 : ¬ dv b s 6 > 0 := by rw [<- g6]; exact d2
         have d2 : dv b s 6 = 0 := by have := inK_u64 (hv 6); omega
         have e : relT l b s = [] := by unfold relT; rw [if_pos d2]
         have := hF' (by unfold relsE; rw [if_neg d1, if_pos d2])
         rw [e] at this
         exact this
       have d2 : dv b s 6 > 0 := by rw [<- g6]; exact d2
       have d2 : dv b s 6 ≠ 0 := by omega
       have eT : relT l b s = (tabSo (relC l b s).1).1 := by unfold relT; rw [if_neg d2]
       have hCl : (relC l b s).1.length <= b.length := bytesS_len b l (dv b s 5) (dv b s 6)
       refine gdP (hg 5 (by omega) (by omega)) ?_
       refine gdP (hg 6 (by omega) (by omega)) ?_
       refine bdP (x := relC l b s) (by
        show ref09_bytes (h, l, soV (tabT l b s) (dv b s 0), nmdN l b s, symN l b s, symT l b s, [], b) (gt (vals7 (dynX b s).2) 5) (gt (vals7 (dynX b s).2) 6) = _
        rw [g5, g6]
        exact bytes_eq hl hw hb (hv 5) (hv 6) h _ _ _ _ _) ?_
       refine neP (fun h3 => ?_) (fun h3 => ?_)
       rotate_left
       · exact rE _ h3 (by unfold relsE; rw [if_neg d1, if_neg d2, if_neg h3]) _
       refine bdP (x := (relT l b s, (tabSo (relC l b s).1).2)) (by
        rw [eT]
        exact ref07_Table_eq (b := (relC l b s).1) (by omega) (bytesS_bytes hB _ _ _)) ?_
       refine neP (fun h4 => ?_) (fun h4 => ?_)
       rotate_left
       · exact rE _ h4 (by unfold relsE; rw [if_neg d1, if_neg d2, if_pos h3, if_neg h4]) _
       refine bdP (x := firstE (errR ((symT l b s).length : Int)) (relT l b s)) (by
        exact ref07_Check_eq (l := relT l b s) (symbols := ((symT l b s).length : Int)) (by omega) hRw ⟨by show (-9223372036854775808 : Int) <= _; omega, by show _ <= (9223372036854775807 : Int); omega⟩) ?_
       have e : relsE l b s ((symT l b s).length : Int) = firstE (errR ((symT l b s).length : Int)) (relT l b s) := by unfold relsE; rw [if_neg d1, if_neg d2, if_pos h3, if_pos h4]
       by_cases hz : firstE (errR ((symT l b s).length : Int)) (relT l b s) = 0
       · rw [hz]
         exact hF' (by rw [e, hz])
       · exact rE _ hz e _
     refine deP (fun c2 => ?_) (fun c2 => ?_)
     rotate_left
     · have c2 : ¬ dv b s 4 > 0 := by rw [<- g4]; exact c2
       have c2 : dv b s 4 = 0 := by omega
       have e : symT l b s = [] := by unfold symT; rw [if_pos c2]
       refine hkk _ ⟨by unfold symsE; rw [if_neg c1, if_pos c2], ?_⟩
       unfold symN
       rw [e]
       rfl
     have c2 : dv b s 4 > 0 := by rw [<- g4]; exact c2
     have c2 : dv b s 4 ≠ 0 := by omega
     have e24 : u64.wrap (24 * dv b s 4) = 24 * dv b s 4 := u64w (by omega)
     have eT : symT l b s = (tabYo (symC l b s).1).1 := by unfold symT; rw [if_neg c2]
     have hCl : (symC l b s).1.length <= b.length := bytesS_len b l (dv b s 3) (24 * dv b s 4)
     refine gdP (hg 3 (by omega) (by omega)) ?_
     refine gdP (hg 4 (by omega) (by omega)) ?_
     refine bdP (x := symC l b s) (by
      show ref09_bytes (h, l, soV (tabT l b s) (dv b s 0), nmdN l b s, [], [], [], b) (gt (vals7 (dynX b s).2) 3) (u64.wrap (24 * gt (vals7 (dynX b s).2) 4)) = _
      rw [g3, g4, e24]
      exact bytes_eq hl hw hb (hv 3) (wf24 (by omega) (by omega)) h _ _ _ _ _) ?_
     refine neP (fun h3 => ?_) (fun h3 => ?_)
     rotate_left
     · exact sE _ h3 (by unfold symsE; rw [if_neg c1, if_neg c2, if_neg h3]) _
     refine bdP (x := (symT l b s, (tabYo (symC l b s).1).2)) (by
      rw [eT]
      exact ref06_Table_eq (b := (symC l b s).1) (by omega) (bytesS_bytes hB _ _ _)) ?_
     refine bdP (x := chkY (symT l b s)) (ref06_Check_eq (l := symT l b s) (by omega) hTw) ?_
     refine neP (fun h5 => ?_) (fun h5 => ?_)
     rotate_left
     · exact sE _ (by decide) (by unfold symsE; rw [if_neg c1, if_neg c2, if_pos h3, if_neg h5]) _
     have e : symsE l b s = firstE (fun y => (atS (tabT l b s) y.1).2) (symT l b s) := by unfold symsE; rw [if_neg c1, if_neg c2, if_pos h3, if_pos h5]
     refine jnC (fun R => symsE l b s = 0 /\ R = (h, l, soV (tabT l b s) (dv b s 0), nmdN l b s, symN l b s, symT l b s, [], b)) ?_ (fun k4 hk4 => ?_)
     · rintro _ ⟨h0, rfl⟩
       exact hkk _ ⟨h0, rfl⟩
     refine scan_Q (symT l b s) (by omega) (fun y => (atS (tabT l b s) y.1).2)
      (fun i => ((i : Int), (h, l, soV (tabT l b s) (dv b s 0), nmdN l b s, ((symT l b s).take i).map (fun y => (atS (tabT l b s) y.1).1), symT l b s, [], b)))
      (k4 (h, l, soV (tabT l b s) (dv b s 0), nmdN l b s, symN l b s, symT l b s, [], b))
      (fun i e => some ((h, l, soV (tabT l b s) (dv b s 0), nmdN l b s, ((symT l b s).take i).map (fun y => (atS (tabT l b s) y.1).1), symT l b s, [], b), e)) rfl
      (fun hz => hk4 _ ⟨by rw [e, hz], rfl⟩) (fun k hz => sE _ hz e _) (fun i rec hi Q q0 q1 => ?_) (fun rec Q q => ?_)
     · have hda := inK_u32 (hTw _ (List.getElem_mem hi)).1
       have hgi : gt (symT l b s) (i : Int) = (symT l b s)[i] := gt_nat hi
       refine tP (dif_lt hi) ?_
       refine gdP (by show (0 : Int) <= i /\ (i : Int) < (((symT l b s).length : Nat) : Int); omega) ?_
       refine bdP (by show ref02_At (tabT l b s) (u64.wrap ((gt (symT l b s) (i : Int)).1)) = _; rw [hgi, u64w (by omega)]; exact ref02_At_eq (by omega) (by omega)) ?_
       refine neP (fun h6 => ?_) (fun h6 => ?_)
       · refine gdP (by show ((((symT l b s).take i).map _).length + 1) * 16 <= _; rw [List.length_map, List.length_take]; omega) ?_
         refine letP ?_
         have q := q0 h6
         rw [<- i64s (by omega), take_succ hi, List.map_append, List.map_singleton] at q
         exact q
       · exact q1 h6
     · refine fP (by show ¬ decide ((((symT l b s).length : Nat) : Int) < (((symT l b s).length : Nat) : Int)) = true; simp) ?_
       rw [List.take_length]
       exact q
   refine scan_Q (dynX b s).1 (by omega) (nameE (tabT l b s))
    (fun i => ((i : Int), (h, l, soV (tabT l b s) (dv b s 0), ((dynX b s).1.take i).map (fun a => (atS (tabT l b s) a).1), [], [], [], b)))
    (kk (h, l, soV (tabT l b s) (dv b s 0), nmdN l b s, [], [], [], b))
    (fun i e => some ((h, l, soV (tabT l b s) (dv b s 0), ((dynX b s).1.take i).map (fun a => (atS (tabT l b s) a).1), [], [], [], b), e)) rfl
    (fun hz => hkk _ ⟨by rw [e, hz], rfl⟩) (fun k hz => nE _ hz e _) (fun i rec hi Q q0 q1 => ?_) (fun rec Q q => ?_)
   · have hda := hD.1 _ (List.getElem_mem hi)
     have hgi : gt (dynX b s).1 (i : Int) = (dynX b s).1[i] := gt_nat hi
     refine tP (dif_lt hi) ?_
     refine gdP (by show (0 : Int) <= i /\ (i : Int) < (((dynX b s).1.length : Nat) : Int); omega) ?_
     refine bdP (by show ref02_At (tabT l b s) (gt (dynX b s).1 (i : Int)) = _; rw [hgi]; exact ref02_At_eq (by omega) (inK_u64 hda).1) ?_
     refine neP (fun h4 => ?_) (fun h4 => ?_)
     · have h4 : (atS (tabT l b s) (dynX b s).1[i]).2 = 0 := h4
       refine ifP (fun h5 => ?_) (fun h5 => ?_)
       · have h5 : (atS (tabT l b s) (dynX b s).1[i]).1 = [] := by simpa using h5
         have hE : nameE (tabT l b s) (dynX b s).1[i] = 11 := by unfold nameE; rw [if_pos h4, if_pos h5]
         rw [hE] at q1
         exact q1 (by decide)
       · have h5 : (atS (tabT l b s) (dynX b s).1[i]).1 ≠ [] := by simpa using h5
         have hE : nameE (tabT l b s) (dynX b s).1[i] = 0 := by unfold nameE; rw [if_pos h4, if_neg h5]
         refine gdP (by show ((((dynX b s).1.take i).map _).length + 1) * 16 <= _; rw [List.length_map, List.length_take]; omega) ?_
         refine letP ?_
         have q := q0 hE
         rw [<- i64s (by omega), take_succ hi, List.map_append, List.map_singleton] at q
         exact q
     · have h4 : (atS (tabT l b s) (dynX b s).1[i]).2 ≠ 0 := h4
       have hE : nameE (tabT l b s) (dynX b s).1[i] = (atS (tabT l b s) (dynX b s).1[i]).2 := by unfold nameE; rw [if_neg h4]
       rw [hE] at q1
       exact q1 h4
   · refine fP (by show ¬ decide ((((dynX b s).1.length : Nat) : Int) < (((dynX b s).1.length : Nat) : Int)) = true; simp) ?_
     rw [List.take_length]
     exact q
 refine neP (fun h6 => ?_) (fun h6 => ?_)
 · have h6 : dv b s 0 = 0 := by rw [<- g0]; exact h6
   refine hkk _ ⟨by unfold soE; rw [if_pos h6], ?_⟩
   unfold soV; rw [if_pos h6]
 · have h6 : dv b s 0 ≠ 0 := by rw [<- g0]; exact h6
   refine gdP (hg 0 (by omega) (by omega)) ?_
   refine bdP (by show ref02_At (tabT l b s) (gt (vals7 (dynX b s).2) 0) = _; rw [g0]; exact ref02_At_eq (t := tabT l b s) (by omega) (inK_u64 (hv 0)).1) ?_
   refine neP (fun h7 => ?_) (fun h7 => ?_)
   · refine hkk _ ⟨by unfold soE; rw [if_neg h6]; exact h7, ?_⟩
     unfold soV; rw [if_neg h6]
   · have hso : soE (tabT l b s) (dv b s 0) = (atS (tabT l b s) (dv b s 0)).2 := by unfold soE; rw [if_neg h6]
     have h7 : (atS (tabT l b s) (dv b s 0)).2 ≠ 0 := h7
     exact nE _ h7 (by unfold nmdE; rw [if_pos h1, if_pos h2, if_pos h3, hso, if_neg h7]) _
end Dm

namespace Dm
open Go
open IntKind (u64 i64 u8 u32)
def imgH (b : List Int) : Int × Int × Int × Int := (getHS b).1
def imgL (b : List Int) : List Seg := (tabSS b (imgH b).2.2.1 (imgH b).2.2.2).1
def imgLE (b : List Int) : Int := (tabSS b (imgH b).2.2.1 (imgH b).2.2.2).2
def imgD (b : List Int) : Option Seg := (findS (imgL b) 2).map fun k => (imgL b).getD k default
def shE (b : List Int) : Int :=
 if (getHS b).2 = 0 then (if (imgH b).1 = 4 then 11 else if imgLE b = 0 then (if checkSS (b.length : Int) (imgL b) = 0 then (if (findS (imgL b) 1).isSome then 0 else 11) else checkSS (b.length : Int) (imgL b)) else imgLE b) else (getHS b).2
def bodE (b : List Int) : Int := match imgD b with
 | none => heldS (imgL b) [] []
 | some s => if totE (imgL b) b s = 0 then heldS (imgL b) (symT (imgL b) b s) (relT (imgL b) b s) else totE (imgL b) b s
def imgE (b : List Int) : Int := if b.length > 65536 then 13 else if shE b = 0 then bodE b else shE b
def imgV (b : List Int) : Img := match imgD b with
 | none => (imgH b, imgL b, [], [], [], [], [], b)
 | some s => (imgH b, imgL b, soV (tabT (imgL b) b s) (dv b s 0), nmdN (imgL b) b s, symN (imgL b) b s, symT (imgL b) b s, relT (imgL b) b s, b)
def img0 : Img := ((0, 0, 0, 0), [], [], [], [], [], [], [])
theorem imgH_wf {b : List Int} (hB : Bytes b) : 0 <= (imgH b).2.2.1 /\ InK .i64 (imgH b).2.2.2 := by
 have k1 := inK_u64 (cu8 hB 32)
 have k2 := inK_u16 (cu2 hB 56)
 unfold imgH getHS
 split
 · exact ⟨by decide, by decide⟩
 · split
   · exact ⟨k1.1, by show (-9223372036854775808 : Int) <= le (cu b 56 2); omega, by show le (cu b 56 2) <= (9223372036854775807 : Int); omega⟩
   · exact ⟨by decide, by decide⟩
theorem imgL_len (b : List Int) : (imgL b).length <= 100 := by have := tabSS_len b (imgH b).2.2.1 (imgH b).2.2.2; unfold imgL; omega
theorem imgL_wf {b : List Int} (hB : Bytes b) : ∀ s ∈ imgL b, Wf04 s := wf_tabSS hB _ _
theorem imgD_mem {b : List Int} {s : Seg} (h : imgD b = some s) : s ∈ imgL b /\ s.1 = 2 := by
 unfold imgD at h
 rw [Option.map_eq_some_iff] at h
 obtain ⟨k, h1, rfl⟩ := h
 obtain ⟨h2, h3⟩ := fI_some h1
 have e : (imgL b).getD k default = (imgL b)[k] := by rw [List.getD_eq_getElem?_getD, List.getElem?_eq_getElem h2]; rfl
 rw [e]
 exact ⟨List.getElem_mem h2, by simpa using h3⟩
theorem cut_ok {b : List Int} {s : Seg} (hs : Wf04 s) (ho : oneS (b.length : Int) s = 0) (h0 : s.1 ≠ 0) : (cutP b s.2.2.1 s.2.2.2.2.1).2 = 0 := by
 have := oneS_zero ho h0
 unfold cutP
 rw [if_pos]
 unfold insB
 rw [Bool.and_eq_true, decide_eq_true_eq, decide_eq_true_eq]
 exact ⟨this.1, this.2.1⟩
theorem shape_run {P : Option (Int × Rdr) -> Prop} {b : List Int} (hb : b.length <= 65536) (hB : Bytes b) (inf : Inf) (tb : List Int)
    (hE : ∀ e R', e ≠ 0 -> shE b = e -> P (some (e, R'))) (hF : shE b = 0 -> P (some (0, ((imgH b, imgL b, [], [], [], [], [], b), inf, tb)))) :
    P (image_reader_shape (((0, 0, 0, 0), [], [], [], [], [], [], b), inf, tb)) := by
 have hl := imgL_len b
 have hw := imgL_wf hB
 have hh := imgH_wf hB
 unfold image_reader_shape
 refine bdP (x := (imgH b, (getHS b).2)) (head_Get_eq (by show b.length <= _; omega) hB) ?_
 refine neP (fun h1 => ?_) (fun h1 => ?_)
 rotate_left
 · have h1 : (getHS b).2 ≠ 0 := h1
   exact hE _ _ h1 (by unfold shE; rw [if_neg h1])
 have h1 : (getHS b).2 = 0 := h1
 refine eqP (fun h2 => ?_) (fun h2 => ?_)
 · have h2 : (imgH b).1 = 4 := h2
   exact hE _ _ (by decide) (by unfold shE; rw [if_pos h1, if_pos h2])
 have h2 : (imgH b).1 ≠ 4 := h2
 refine bdP (x := (imgL b, imgLE b)) (segs_Table_eq (by show b.length <= _; omega) hB hh.1 hh.2) ?_
 refine neP (fun h3 => ?_) (fun h3 => ?_)
 rotate_left
 · have h3 : imgLE b ≠ 0 := h3
   exact hE _ _ h3 (by unfold shE; rw [if_pos h1, if_neg h2, if_neg h3])
 have h3 : imgLE b = 0 := h3
 have hz : InK .u64 (b.length : Int) := ⟨by show (0 : Int) <= _; omega, by show _ <= (18446744073709551615 : Int); omega⟩
 refine bdP (x := checkSS (b.length : Int) (imgL b)) (by
  show segs_Check (imgL b) (u64.wrap ((b.length : Nat) : Int)) = _
  rw [u64w (by omega)]
  exact segs_Check_eq (by omega) hw hz) ?_
 refine neP (fun h4 => ?_) (fun h4 => ?_)
 rotate_left
 · exact hE _ _ h4 (by unfold shE; rw [if_pos h1, if_neg h2, if_pos h3, if_neg h4])
 refine bdP (segs_Find_eq (l := imgL b) (by omega) 1) ?_
 cases hf : findS (imgL b) 1 with
 | none => exact hE _ _ (by decide) (by unfold shE; rw [if_pos h1, if_neg h2, if_pos h3, if_pos h4, hf]; rfl)
 | some k => exact hF (by unfold shE; rw [if_pos h1, if_neg h2, if_pos h3, if_pos h4, hf]; rfl)
theorem shE_good {b : List Int} (h : shE b = 0) : (∀ s ∈ imgL b, oneS (b.length : Int) s = 0) := by
 unfold shE at h
 split at h
 · split at h
   · cases h
   · split at h
     · split at h
       · rename_i hc; exact (good_of hc).one
       · rename_i hc; exact absurd h hc
     · rename_i hc; exact absurd h hc
 · rename_i hc; exact absurd h hc
theorem parse_run {P : Option (Img × Int) -> Prop} {b : List Int} (hb : b.length <= 100000) (hB : Bytes b)
    (hE : ∀ e, e ≠ 0 -> imgE b = e -> P (some (img0, e))) (hF : imgE b = 0 -> P (some (imgV b, 0))) : P (image_Parse b) := by
 unfold image_Parse
 refine deP (fun h1 => ?_) (fun h1 => ?_)
 · exact hE _ (by decide) (by unfold imgE; rw [if_pos (by omega)])
 have h1 : ¬ b.length > 65536 := by omega
 have hl := imgL_len b
 have hw := imgL_wf hB
 refine bdP (x := b) (by unfold slices_Clone_byte_byte; exact gd_pos (by omega)) ?_
 refine shape_run (P := fun r => P (Option.bind r _)) (by omega) hB _ _ (fun e R' h0 h2 => ?_) (fun h2 => ?_)
 · refine bdP rfl ?_
   refine neP (fun h3 => absurd h3 h0) (fun _ => ?_)
   exact hE _ h0 (by unfold imgE; rw [if_neg h1, h2, if_neg h0])
 refine bdP rfl ?_
 refine neP (fun _ => ?_) (fun h3 => absurd rfl h3)
 have hgood := shE_good h2
 have eI : imgE b = bodE b := by unfold imgE; rw [if_neg h1, if_pos h2]
 refine bdP (segs_Find_eq (l := imgL b) (by omega) 2) ?_
 cases hf : findS (imgL b) 2 with
 | none =>
  have hD : imgD b = none := by unfold imgD; rw [hf]; rfl
  have eB : bodE b = heldS (imgL b) [] [] := by unfold bodE; rw [hD]
  refine fP (by simp) ?_
  refine jnC (fun _ => imgE b = 0) ?_ (fun kk hkk => ?_)
  · intro _ h0
    have := hF h0
    unfold imgV at this
    rw [hD] at this
    exact this
  refine bdP (sound_eq (l := imgL b) (by omega) hw (sy := []) (by simp) (by simp) (rl := []) (by simp) (by simp) _ _ _ _ _ _ _) ?_
  refine neP (fun h3 => ?_) (fun h3 => ?_)
  · exact hkk _ (by rw [eI, eB, h3])
  · exact hE _ h3 (by rw [eI, eB])
 | some k =>
  have hD : imgD b = some ((imgL b).getD k default) := by unfold imgD; rw [hf]; rfl
  obtain ⟨hm, ht⟩ := imgD_mem hD
  generalize hsg : (imgL b).getD k default = s at hD hm ht
  have hs := hw s hm
  have eB : bodE b = if totE (imgL b) b s = 0 then heldS (imgL b) (symT (imgL b) b s) (relT (imgL b) b s) else totE (imgL b) b s := by unfold bodE; rw [hD]
  have hTw := symT_wf hB (imgL b) s
  have hTn := symT_len (imgL b) b s
  have hRw := relT_wf hB (imgL b) s
  have hRn := relT_len (imgL b) b s
  have tE : ∀ e, e ≠ 0 -> totE (imgL b) b s = e -> P (some (img0, e)) := fun e h0 he => hE e h0 (by rw [eI, eB, he, if_neg h0])
  refine tP rfl ?_
  refine jnC (fun R => imgE b = 0 /\ R.1 = imgV b) ?_ (fun kk hkk => ?_)
  · rintro ⟨R, inf, tb⟩ ⟨h0, rfl⟩
    exact hF h0
  unfold image_Parse_1_b
  dsimp only
  rw [hsg]
  refine named_run (P := fun r => P (Option.bind (Option.bind r _) _)) (by omega) hw (by omega) hB hs (cut_ok hs (hgood s hm) (by omega)) _ _ _ _ _ _ (fun e R' h0 he => ?_) (fun he => ?_)
  · refine bdP (m := Option.bind _ _) rfl ?_
    refine neP (fun h3 => absurd h3 h0) (fun _ => ?_)
    exact tE _ h0 (by unfold totE; rw [he, if_neg h0])
  refine bdP (m := Option.bind _ _) rfl ?_
  refine neP (fun _ => ?_) (fun h3 => absurd rfl h3)
  refine symbols_run (P := fun r => P (Option.bind r _)) (by omega) hw (by omega) hB _ _ _ _ (fun e R' h0 hy => ?_) (fun hy => ?_)
  · refine bdP rfl ?_
    refine neP (fun h3 => absurd h3 h0) (fun _ => ?_)
    exact tE _ h0 (by unfold totE; rw [if_pos he, hy, if_neg h0])
  refine bdP rfl ?_
  refine neP (fun _ => ?_) (fun h3 => absurd rfl h3)
  refine relocations_run (P := fun r => P (Option.bind r _)) (by omega) hw (by omega) hB _ _ _ _ (sy := symT (imgL b) b s) (by omega) (fun e R' h0 hr => ?_) (fun hr => ?_)
  · refine bdP rfl ?_
    refine neP (fun h3 => absurd h3 h0) (fun _ => ?_)
    exact tE _ h0 (by unfold totE; rw [if_pos he, if_pos hy, hr])
  refine bdP rfl ?_
  refine neP (fun _ => ?_) (fun h3 => absurd rfl h3)
  have htot : totE (imgL b) b s = 0 := by unfold totE; rw [if_pos he, if_pos hy, hr]
  refine bdP (sound_eq (l := imgL b) (by omega) hw (sy := symT (imgL b) b s) (by omega) hTw (rl := relT (imgL b) b s) (by omega) hRw _ _ _ _ _ _ _) ?_
  refine neP (fun h3 => ?_) (fun h3 => ?_)
  · refine hkk _ ⟨by rw [eI, eB, if_pos htot, h3], ?_⟩
    unfold imgV
    rw [hD]
  · exact hE _ h3 (by rw [eI, eB, if_pos htot])
theorem rparse_run {P : Option (Img × Int) -> Prop} {b : List Int} (hb : b.length <= 100000) (hB : Bytes b)
    (hE : ∀ e, e ≠ 0 -> imgE b = e -> P (some (img0, e))) (hF : imgE b = 0 -> P (some (imgV b, 0))) : P (ref09_Parse b) := by
 have key : ∀ {Q : Option (Img × Int) -> Prop}, (∀ e y, e ≠ 0 -> imgE b = e -> Q (some (y, e))) -> (imgE b = 0 -> Q (some (imgV b, 0))) -> Q (ref09_parse b) := by
  intro Q hE hF
  unfold ref09_parse
  refine deP (fun h1 => ?_) (fun h1 => ?_)
  · exact hE _ _ (by decide) (by unfold imgE; rw [if_pos (by omega)])
  have h1 : ¬ b.length > 65536 := by omega
  have hl := imgL_len b
  have hw := imgL_wf hB
  have hh := imgH_wf hB
  have sE : ∀ e, e ≠ 0 -> shE b = e -> ∀ y, Q (some (y, e)) := fun e h0 he y => hE e y h0 (by unfold imgE; rw [if_neg h1, he, if_neg h0])
  refine bdP (x := (imgH b, (getHS b).2)) (ref03_Get_eq (by omega) hB) ?_
  refine neP (fun h2 => ?_) (fun h2 => ?_)
  rotate_left
  · have h2 : (getHS b).2 ≠ 0 := h2
    exact sE _ h2 (by unfold shE; rw [if_neg h2]) _
  have h2 : (getHS b).2 = 0 := h2
  refine eqP (fun h3 => ?_) (fun h3 => ?_)
  · have h3 : (imgH b).1 = 4 := h3
    exact sE _ (by decide) (by unfold shE; rw [if_pos h2, if_pos h3]) _
  have h3 : (imgH b).1 ≠ 4 := h3
  refine bdP (x := (imgL b, imgLE b)) (ref04_Table_eq (by omega) hB hh.1 hh.2) ?_
  refine neP (fun h4 => ?_) (fun h4 => ?_)
  rotate_left
  · have h4 : imgLE b ≠ 0 := h4
    exact sE _ h4 (by unfold shE; rw [if_pos h2, if_neg h3, if_neg h4]) _
  have h4 : imgLE b = 0 := h4
  have hz : InK .u64 (b.length : Int) := ⟨by show (0 : Int) <= _; omega, by show _ <= (18446744073709551615 : Int); omega⟩
  refine bdP (x := checkSS (b.length : Int) (imgL b)) (by
   show ref04_Check (imgL b) (u64.wrap ((b.length : Nat) : Int)) = _
   rw [u64w (by omega)]
   exact ref04_Check_eq (by omega) hw hz) ?_
  refine neP (fun h5 => ?_) (fun h5 => ?_)
  rotate_left
  · exact sE _ h5 (by unfold shE; rw [if_pos h2, if_neg h3, if_pos h4, if_neg h5]) _
  refine bdP (ref04_Find_eq (l := imgL b) (by omega) 1) ?_
  refine deP (fun h6 => ?_) (fun h6 => ?_)
  · cases hf : findS (imgL b) 1 with
    | none => exact sE _ (by decide) (by unfold shE; rw [if_pos h2, if_neg h3, if_pos h4, if_pos h5, hf]; rfl) _
    | some k => rw [hf] at h6; simp [ixN] at h6; omega
  have hsh : shE b = 0 := by
   cases hf : findS (imgL b) 1 with
   | none => rw [hf] at h6; exact absurd (by decide) h6
   | some k => unfold shE; rw [if_pos h2, if_neg h3, if_pos h4, if_pos h5, hf]; rfl
  have hgood := shE_good hsh
  have hok : ∀ s ∈ imgL b, okS s := fun s hs => okS_of (hgood s hs)
  have eI : imgE b = bodE b := by unfold imgE; rw [if_neg h1, if_pos hsh]
  refine bdP (ref04_Find_eq (l := imgL b) (by omega) 2) ?_
  cases hf : findS (imgL b) 2 with
  | none =>
   have hD : imgD b = none := by unfold imgD; rw [hf]; rfl
   have eB : bodE b = heldS (imgL b) [] [] := by unfold bodE; rw [hD]
   refine jnC (fun R => R = (imgH b, imgL b, [], [], [], [], [], b)) ?_ (fun kk hkk => ?_)
   · rintro _ rfl
     refine bdP (held_eq (l := imgL b) (by omega) hw hok (sy := []) (by simp) (by simp) (rl := []) (by simp) (by simp) _ _ _ _ _) ?_
     by_cases h0 : heldS (imgL b) [] [] = 0
     · have := hF (by rw [eI, eB, h0])
       unfold imgV at this
       rw [hD] at this
       rw [h0]
       exact this
     · exact hE _ _ h0 (by rw [eI, eB])
   exact hkk _ rfl
  | some k =>
   have hk := (fI_some hf).1
   have hD : imgD b = some ((imgL b).getD k default) := by unfold imgD; rw [hf]; rfl
   obtain ⟨hm, ht⟩ := imgD_mem hD
   have hix : ixN 0 (some k) = (k : Int) := by simp [ixN]
   have hgt : gt (imgL b) (ixN 0 (some k)) = (imgL b).getD k default := by rw [hix]; rfl
   generalize hsg : (imgL b).getD k default = s at hD hm ht hgt
   have hs := hw s hm
   have eB : bodE b = if totE (imgL b) b s = 0 then heldS (imgL b) (symT (imgL b) b s) (relT (imgL b) b s) else totE (imgL b) b s := by unfold bodE; rw [hD]
   have hTw := symT_wf hB (imgL b) s
   have hTn := symT_len (imgL b) b s
   have hRw := relT_wf hB (imgL b) s
   have hRn := relT_len (imgL b) b s
   refine jnC (fun R => totE (imgL b) b s = 0 /\ R = imgV b) ?_ (fun kk hkk => ?_)
   · rintro _ ⟨ht0, rfl⟩
     have eV : imgV b = (imgH b, imgL b, soV (tabT (imgL b) b s) (dv b s 0), nmdN (imgL b) b s, symN (imgL b) b s, symT (imgL b) b s, relT (imgL b) b s, b) := by unfold imgV; rw [hD]
     rw [eV]
     refine bdP (held_eq (l := imgL b) (by omega) hw hok (sy := symT (imgL b) b s) (by omega) hTw (rl := relT (imgL b) b s) (by omega) hRw _ _ _ _ _) ?_
     by_cases h0 : heldS (imgL b) (symT (imgL b) b s) (relT (imgL b) b s) = 0
     · have := hF (by rw [eI, eB, if_pos ht0, h0])
       rw [eV] at this
       rw [h0]
       exact this
     · exact hE _ _ h0 (by rw [eI, eB, if_pos ht0])
   refine deP (fun _ => ?_) (fun h7 => absurd (by rw [hix]; omega) h7)
   refine jnC (fun R => totE (imgL b) b s = R.1 /\ (R.1 = 0 -> R.2 = imgV b)) ?_ (fun kk2 hk2 => ?_)
   · rintro ⟨e, R⟩ ⟨q1, q2⟩
     refine neP (fun h0 => ?_) (fun h0 => ?_)
     · have h0 : e = 0 := h0
       exact hkk R ⟨by rw [q1]; exact h0, q2 h0⟩
     · exact hE _ _ h0 (by rw [eI, eB, q1, if_neg h0])
   refine gdP (by rw [hix]; show (0 : Int) <= (k : Int) /\ (k : Int) < (((imgL b).length : Nat) : Int); omega) ?_
   rw [hgt]
   refine rnamed_run (P := fun r => Q (Option.bind r _)) (by omega) hw (by omega) hB hs _ (fun e y h0 he => ?_) (fun he => ?_)
   · refine bdP rfl ?_
     exact hk2 _ ⟨he, fun h => absurd h h0⟩
   · refine bdP rfl ?_
     refine hk2 _ ⟨he, fun _ => ?_⟩
     unfold imgV
     rw [hD]
 unfold ref09_Parse
 refine key (Q := fun r => P (Option.bind r _)) (fun e y h0 he => ?_) (fun he => ?_)
 · refine bdP rfl ?_
   refine neP (fun h3 => absurd h3 h0) (fun _ => ?_)
   exact hE _ h0 he
 · refine bdP rfl ?_
   refine neP (fun _ => ?_) (fun h3 => absurd rfl h3)
   exact hF he
def parseS (b : List Int) : Img × Int := if imgE b = 0 then (imgV b, 0) else (img0, imgE b)
theorem image_Parse_eq {b : List Int} (hb : b.length <= 100000) (hB : Bytes b) : image_Parse b = some (parseS b) := by
 refine parse_run (P := fun r => r = some (parseS b)) hb hB (fun e h0 he => ?_) (fun he => ?_)
 · unfold parseS; rw [he, if_neg h0]
 · unfold parseS; rw [if_pos he]
theorem ref09_Parse_eq {b : List Int} (hb : b.length <= 100000) (hB : Bytes b) : ref09_Parse b = some (parseS b) := by
 refine rparse_run (P := fun r => r = some (parseS b)) hb hB (fun e h0 he => ?_) (fun he => ?_)
 · unfold parseS; rw [he, if_neg h0]
 · unfold parseS; rw [if_pos he]
end Dm

namespace Dm
open Go
theorem strings_self {l : List (List UInt8)} (hl : l.length <= 1000000) : ref09_strings l l = some true := by
 unfold ref09_strings
 refine fP (P := (· = some true)) (by simp) ?_
 refine jnP (P := (· = some true)) ?_
 refine scan_Q (P := (· = some true)) l (by omega) (fun _ => 0) (fun i => (i : Int)) (some true) (fun _ _ => none) rfl (fun _ => rfl) (fun _ h => absurd (firstE_zero _ _ fun _ _ => rfl) h) (fun i rec hi Q q0 _ => ?_) (fun rec Q q => ?_)
 · refine tP (dif_lt hi) ?_
   refine gdP (by omega) ?_
   refine gdP (by omega) ?_
   refine fP (by simp) ?_
   refine letP ?_
   rw [i64s (by omega)]
   exact q0 rfl
 · refine fP (by rw [dif_ge (Nat.le_refl _)]; simp) ?_
   exact q
theorem Same_self {h : Int × Int × Int × Int} {l : List Seg} {so : List UInt8} {nd nm : List (List UInt8)} {sy : List Sym} {rl : List Rel7} {b : List Int} (h1 : l.length <= 1000000) (h2 : nd.length <= 1000000) (h3 : nm.length <= 1000000) (h4 : sy.length <= 1000000) (h5 : rl.length <= 1000000) :
    ref09_Same (h, l, so, nd, nm, sy, rl, b) (h, l, so, nd, nm, sy, rl, b) = some true := by
 unfold ref09_Same
 dsimp only
 refine jnC (P := (· = some true)) (fun c => c = false) ?_ (fun kk hkk => ?_)
 · rintro _ rfl
   refine fP (P := (· = some true)) (by decide) ?_
   refine jnC (P := (· = some true)) (fun _ => True) ?_ (fun k2 hk2 => ?_)
   · intro _ _
     refine jnC (P := (· = some true)) (fun _ => True) ?_ (fun k3 hk3 => ?_)
     · intro _ _
       refine jnC (P := (· = some true)) (fun _ => True) ?_ (fun k4 hk4 => ?_)
       · intro _ _
         refine jnP (P := (· = some true)) ?_
         refine bdP (P := (· = some true)) (strings_self h2) ?_
         refine tP (P := (· = some true)) rfl ?_
         exact bdP (P := (· = some true)) (strings_self h3) rfl
       refine scan_Q (P := (· = some true)) rl (by omega) (fun _ => 0) (fun i => (i : Int)) (k4 ()) (fun _ _ => none) rfl (fun _ => hk4 () trivial) (fun _ h => absurd (firstE_zero _ _ fun _ _ => rfl) h) (fun i rec hi Q q0 _ => ?_) (fun rec Q q => ?_)
       · refine tP (dif_lt hi) ?_
         refine gdP (by omega) ?_
         refine gdP (by omega) ?_
         refine fP (by simp) ?_
         refine letP ?_
         rw [i64s (by omega)]
         exact q0 rfl
       · refine fP (by rw [dif_ge (Nat.le_refl _)]; simp) ?_
         exact q
     refine scan_Q (P := (· = some true)) sy (by omega) (fun _ => 0) (fun i => (i : Int)) (k3 ()) (fun _ _ => none) rfl (fun _ => hk3 () trivial) (fun _ h => absurd (firstE_zero _ _ fun _ _ => rfl) h) (fun i rec hi Q q0 _ => ?_) (fun rec Q q => ?_)
     · refine tP (dif_lt hi) ?_
       refine gdP (by omega) ?_
       refine gdP (by omega) ?_
       refine fP (by simp) ?_
       refine letP ?_
       rw [i64s (by omega)]
       exact q0 rfl
     · refine fP (by rw [dif_ge (Nat.le_refl _)]; simp) ?_
       exact q
   refine scan_Q (P := (· = some true)) l (by omega) (fun _ => 0) (fun i => (i : Int)) (k2 ()) (fun _ _ => none) rfl (fun _ => hk2 () trivial) (fun _ h => absurd (firstE_zero _ _ fun _ _ => rfl) h) (fun i rec hi Q q0 _ => ?_) (fun rec Q q => ?_)
   · refine tP (dif_lt hi) ?_
     refine gdP (by omega) ?_
     refine gdP (by omega) ?_
     refine fP (by simp) ?_
     refine letP ?_
     rw [i64s (by omega)]
     exact q0 rfl
   · refine fP (by rw [dif_ge (Nat.le_refl _)]; simp) ?_
     exact q
 refine fP (P := (· = some true)) (by simp) ?_
 refine fP (P := (· = some true)) (by simp) ?_
 refine fP (P := (· = some true)) (by simp) ?_
 refine fP (P := (· = some true)) (by simp) ?_
 refine fP (P := (· = some true)) (by simp) ?_
 exact hkk _ (by simp)
theorem parseS_same {b : List Int} (hb : b.length <= 100000) (hB : Bytes b) : ref09_Same (parseS b).1 (parseS b).1 = some true := by
 unfold parseS
 split
 · rename_i h0
   have hb2 : b.length <= 65536 := by
    unfold imgE at h0
    split at h0
    · cases h0
    · omega
   have hl := imgL_len b
   show ref09_Same (imgV b) (imgV b) = some true
   unfold imgV
   cases hD : imgD b with
   | none => exact Same_self (by omega) (by simp) (by simp) (by simp) (by simp)
   | some s =>
    have hTn := symT_len (imgL b) b s
    have hRn := relT_len (imgL b) b s
    have hDn : (dynX b s).1.length <= (segC b s).length + 1 := len_dynG (segC b s)
    have hCl := segC_len b s
    refine Same_self (by omega) ?_ ?_ (by omega) (by omega)
    · unfold nmdN; rw [List.length_map]; omega
    · unfold symN; rw [List.length_map]; omega
 · exact Same_self (by simp) (by simp) (by simp) (by simp) (by simp)
end Dm

namespace Dm
open Go
theorem awake09 : law09_awake = some true := by kernel_rfl
end Dm

namespace Dm
open Go
theorem loop_P {σ ρ : Type} {P : Option ρ -> Prop} {body : σ -> (σ -> Option ρ) -> Option ρ} (Inv : σ -> Prop) (m : σ -> Nat) (h : ∀ s rec, Inv s -> (∀ s', Inv s' -> m s' < m s -> P (rec s')) -> P (body s rec)) : ∀ (n : Nat) (s : σ), Inv s -> m s < n -> P (loopK body n s) := by
 intro n
 induction n with
 | zero => intro s _ hm; omega
 | succ n ih => intro s hs hm; exact h s (loopK body n) hs fun s' hs' hm' => ih s' hs' (by omega)
theorem ofStr_bytes (s : List UInt8) : Bytes (ofStr s) := fun x hx => by
 unfold ofStr at hx
 rw [List.mem_map] at hx
 obtain ⟨u, _, rfl⟩ := hx
 have := u.toNat_lt
 omega
theorem bst_bytes {S : BS} (h : Bytes S.1) (s : Str) : Bytes (bst S s).1 := by
 unfold bst
 split
 · exact h
 · have z : Bytes [0] := fun x hx => by have : x = 0 := by simpa using hx
                                        subst this; decide
   exact (h.append (ofStr_bytes s)).append z
theorem bfold_bytes (l : List Str) : Bytes (bfold l).1 := by
 have key : ∀ (l : List Str) (S : BS), Bytes S.1 -> Bytes (l.foldl bst S).1 := by
  intro l
  induction l with
  | nil => exact fun S h => h
  | cons s l ih => exact fun S h => ih _ (bst_bytes h s)
 refine key l _ fun x hx => ?_
 have : x = 0 := by simpa using hx
 subst this; decide
theorem BuildS_bytes {s : Spec9} (hw : WfS s) (hf : FewS s) : Bytes (BuildS s).1 /\ (BuildS s).1.length <= 65536 := by
 have hB := BI.all (l9 s)
 have htb : Bytes (tb9 s) := by
  exact bfold_bytes _
 have hco := bytes_of hw.2.2.2.2.1.2
 have hda := bytes_of hw.2.2.2.2.2.1.2
 have htl := bytes_of hw.2.2.2.2.2.2.2.1.2
 have ho : Bytes (og9 s) := by
  refine putIf_bytes (putIf_bytes (putIf_bytes (putIf_bytes (putIf_bytes (padTo_bytes ?_ _) (symsG_bytes _ _ _ _) _) (relsG_bytes _ _ _) _) hco _) hda _) htl _
  exact (((hput_bytes _).append (sputs_bytes _)).append (dput_bytes _)).append htb
 unfold BuildS
 split
 · split
   · split
     · exact ⟨Bytes.nil, by simp⟩
     · exact ⟨ho, by show (og9 s).length <= 65536; omega⟩
   · exact ⟨Bytes.nil, by simp⟩
 · exact ⟨Bytes.nil, by simp⟩
end Dm

namespace Dm
open Go
open IntKind (u64 i64 u8 u32)
theorem tables_write {ρ : Type} {P : Option ρ -> Prop} {p v which k : Int} {c : List Int} (cB : Bytes c) (cl : c.length <= 100000) (hp : 0 <= p) (hp1 : p <= 9223372036854775807 - 100) (hw : 0 <= which /\ which <= 255) {kk : List Int -> Option ρ}
    (hk : ∀ d, Bytes d -> d.length = c.length -> P (kk d)) :
    P (loopK (fun (s12 : Int × (List Int)) rec3 =>
     jn (fun (s13 : Bool) =>
      (if (s13) = true then
       gd ((0 : Int) <= (u64.wrap (i64.wrap (8 * s12.1)))) <|
       gd ((0 : Int) <= (i64.wrap (p + s12.1)) /\ (i64.wrap (p + s12.1)) < ((s12.2.length : Nat) : Int)) <|
       let1 (i64.wrap (s12.1 + 1)) fun i_2 =>
       rec3 (i_2, (s12.2.set (Int.toNat (i64.wrap (p + s12.1))) (u8.wrap (shr .u64 v (u64.wrap (i64.wrap (8 * s12.1)))))))
      else
       kk s12.2)) (fun k10 =>
      (if (decide (s12.1 < 8)) = true then
      (if (decide ((i64.wrap (p + s12.1)) < ((s12.2.length : Nat) : Int))) = true then
      (if (k == 0) = true then
      k10 true
      else
      k10 (decide ((band .u8 which 128) > 0)))
      else
      k10 false)
      else
      k10 false))) bigF (0, c)) := by
 refine loop_P (P := P) (fun st => ∃ i : Nat, st.1 = (i : Int) /\ i <= 8 /\ Bytes st.2 /\ st.2.length = c.length) (fun st => 9 - st.1.toNat) ?_ bigF _ ⟨0, rfl, by omega, cB, rfl⟩ (lt_bigF (by simp))
 rintro ⟨_, b⟩ rec ⟨i, rfl, hi, bB, bl⟩ hrec
 have bB : Bytes b := bB
 have bl : b.length = c.length := bl
 have e1 : i64.wrap (p + (i : Int)) = p + (i : Int) := i64w (by omega)
 refine jnC (P := P) (fun g => g = true -> (i : Int) < 8 /\ p + (i : Int) < ((b.length : Nat) : Int)) ?_ (fun k2 hk2 => ?_)
 rotate_left
 · refine deP (P := P) (fun g1 => ?_) (fun _ => hk2 _ fun h => by cases h)
   have g1 : (i : Int) < 8 := g1
   refine deP (P := P) (fun g2 => ?_) (fun _ => hk2 _ fun h => by cases h)
   have g2 : i64.wrap (p + (i : Int)) < ((b.length : Nat) : Int) := g2
   rw [e1] at g2
   exact ifP (P := P) (fun _ => hk2 _ fun _ => ⟨g1, g2⟩) (fun _ => hk2 _ fun _ => ⟨g1, g2⟩)
 intro g hg
 refine ifP (P := P) (fun h => ?_) (fun _ => hk _ bB bl)
 obtain ⟨g1, g2⟩ := hg h
 have e8 : u64.wrap (i64.wrap (8 * (i : Int))) = 8 * (i : Int) := by rw [i64w (by omega), u64w (by omega)]
 have e2 : i64.wrap ((i : Int) + 1) = ((i + 1 : Nat) : Int) := by rw [i64w (by omega)]; omega
 refine gdP (P := P) (by show (0 : Int) <= u64.wrap (i64.wrap (8 * (i : Int))); rw [e8]; omega) ?_
 refine gdP (P := P) (by show (0 : Int) <= i64.wrap (p + (i : Int)) /\ i64.wrap (p + (i : Int)) < ((b.length : Nat) : Int); rw [e1]; omega) ?_
 refine letP (P := P) ?_
 refine hrec _ ⟨i + 1, e2, by omega, set_bytes bB _ _, by show (List.set b _ _).length = _; rw [List.length_set]; exact bl⟩ ?_
 show 9 - (i64.wrap ((i : Int) + 1)).toNat < 9 - ((i : Int)).toNat
 rw [e2]; omega
theorem parseS_offs {b : List Int} (hb : b.length <= 100000) (hB : Bytes b) : (parseS b).1.2.1.length <= 100 /\ ((parseS b).2 = 0 -> ∀ s ∈ (parseS b).1.2.1, s.1 = 2 -> 0 <= s.2.2.1 /\ s.2.2.1 <= 100000) /\ ∀ s ∈ (parseS b).1.2.1, InK .u64 s.2.2.1 := by
 unfold parseS
 split
 · rename_i h0
   have e : (imgV b).2.1 = imgL b := by unfold imgV; split <;> rfl
   show ((imgV b).2.1).length <= 100 /\ _
   rw [e]
   have hw := imgL_wf hB
   refine ⟨imgL_len b, fun _ s hs h2 => ?_, fun s hs => (hw s hs).2.2.1⟩
   have hsh : shE b = 0 := by
    unfold imgE at h0
    split at h0
    · cases h0
    · split at h0
      · assumption
      · exact absurd h0 (by assumption)
   have ho := oneS_zero (shE_good hsh s hs) (by omega)
   have := inK_u64 (hw s hs).2.2.1
   omega
 · exact ⟨by simp [img0], fun _ s hs => by simp [img0] at hs, fun s hs => by simp [img0] at hs⟩
theorem band8_7 (x : Int) : 0 <= band .u8 x 7 /\ band .u8 x 7 <= 7 := by
 unfold band
 have hb : IntKind.u8.bits = 8 := rfl
 rw [hb]
 have h1 : (BitVec.ofInt 8 x &&& BitVec.ofInt 8 7).toNat <= 7 := by
  rw [BitVec.toNat_and]
  have e : (BitVec.ofInt 8 7).toNat = 7 := by decide
  rw [e]
  exact Nat.and_le_right
 rw [u8w (by omega)]
 omega
theorem ImageTables_true {s : Spec9} (hw : WfS s) {which : Int} (hwh : InK .u8 which) {a : Int} (_ : InK .u64 a) {b : Int} (_ : InK .u64 b) : law09_ImageTables s which a b = some true := by
 have hwh := inK_u8 hwh
 unfold law09_ImageTables
 refine bdP (P := (· = some true)) awake09 ?_
 refine fP (P := (· = some true)) (by decide) ?_
 refine few_run (P := fun r => Option.bind r _ = some true) (kind := K9 s) (so := So9 s) (nd := Nd9 s) (en := En9 s) (code := Co9 s) (data := Da9 s) (bss := Bs9 s) (tls := Tl9 s) (tb := Tb9 s) (defs := De9 s) (fixes := Fi9 s) rfl (fun hf => ?_)
 refine bdP (P := (· = some true)) rfl ?_
 refine fP (P := (· = some true)) (by decide) ?_
 have f4 := hf.c4
 have f5 := hf.c5
 refine bdP (P := (· = some true)) (spec_eq s (show (De9 s).length <= 1000 by omega) (show (Fi9 s).length <= 1000 by omega)) ?_
 refine rbuild_run (P := fun r => Option.bind r _ = some true) (s := s) hw hf ?_
 refine bdP (P := (· = some true)) rfl ?_
 obtain ⟨hB, hl⟩ := BuildS_bytes hw hf
 generalize BuildS s = bs at hB hl
 refine jnC (P := (· = some true)) (fun _ => True) ?_ (fun kk hkk => ?_)
 rotate_left
 · exact neP (P := (· = some true)) (fun _ => hkk _ trivial) (fun _ => hkk _ trivial)
 intro c _
 refine ifP (P := (· = some true)) (fun _ => rfl) (fun _ => ?_)
 refine bdP (P := (· = some true)) (ref09_Parse_eq (by omega) hB) ?_
 obtain ⟨o1, o2, o3⟩ := parseS_offs (b := bs.1) (by omega) hB
 generalize parseS bs.1 = z5 at o1 o2 o3
 refine jnC (P := (· = some true)) (fun at_ => z5.2 = 0 -> 0 <= at_ /\ at_ <= 100000) ?_ (fun kk hkk => ?_)
 · intro at_ hat
   refine jnC (P := (· = some true)) (fun g => g = false -> z5.2 = 0) ?_ (fun k2 hk2 => ?_)
   rotate_left
   · exact neP (P := (· = some true)) (fun h => hk2 _ fun _ => h) (fun _ => hk2 _ fun h => by cases h)
   intro g hg
   refine ifP (P := (· = some true)) (fun _ => rfl) (fun h => ?_)
   have h0 := hg (by simpa using h)
   obtain ⟨a1, a2⟩ := hat h0
   refine jnC (P := (· = some true)) (fun d => Bytes d /\ d.length = bs.1.length) ?_ (fun k2 hk2 => ?_)
   · rintro d ⟨dB, dl⟩
     refine bdP (P := (· = some true)) (image_Parse_eq (by omega) dB) ?_
     refine bdP (P := (· = some true)) (ref09_Parse_eq (by omega) dB) ?_
     refine jnP (P := (· = some true)) ?_
     refine tP (P := (· = some true)) (by simp) ?_
     refine bdP (P := (· = some true)) (x := (parseS d).1) rfl ?_
     exact bdP (P := (· = some true)) (parseS_same (by omega) dB) rfl
   refine loop_P (P := (· = some true)) (fun st => ∃ i : Nat, st.1 = (i : Int) /\ i <= 2 /\ Bytes st.2 /\ st.2.length = bs.1.length) (fun st => 3 - st.1.toNat) ?_ bigF _ ⟨0, rfl, by omega, hB, rfl⟩ (lt_bigF (by simp))
   rintro ⟨_, d⟩ rec ⟨i, rfl, hi, dB, dl⟩ hrec
   have dB : Bytes d := dB
   have dl : d.length = bs.1.length := dl
   refine deP (P := (· = some true)) (fun g2 => ?_) (fun _ => hk2 _ ⟨dB, dl⟩)
   have g2 : (i : Int) < 2 := g2
   refine jnC (P := (· = some true)) (fun e => Bytes e /\ e.length = bs.1.length) ?_ (fun k3 hk3 => ?_)
   · rintro e ⟨eB, el⟩
     refine letP (P := (· = some true)) ?_
     have e2 : i64.wrap ((i : Int) + 1) = ((i + 1 : Nat) : Int) := by rw [i64w (by omega)]; omega
     refine hrec _ ⟨i + 1, e2, by omega, eB, el⟩ ?_
     show 3 - (i64.wrap ((i : Int) + 1)).toNat < 3 - ((i : Int)).toNat
     rw [e2]; omega
   have e4 : u64.wrap (i64.wrap (4 * (i : Int))) = 4 * (i : Int) := by rw [i64w (by omega), u64w (by omega)]
   refine gdP (P := (· = some true)) (by show (0 : Int) <= u64.wrap (i64.wrap (4 * (i : Int))); rw [e4]; omega) ?_
   refine letP (P := (· = some true)) ?_
   have hb7 := band8_7 (shr .u8 which (u64.wrap (i64.wrap (4 * (i : Int)))))
   refine jnC (P := (· = some true)) (fun _ => True) ?_ (fun k4 hk4 => ?_)
   rotate_left
   · exact eqP (P := (· = some true)) (fun _ => hk4 _ trivial) (fun _ => hk4 _ trivial)
   intro v _
   refine jnC (P := (· = some true)) (fun e => Bytes e /\ e.length = bs.1.length) (fun e he => hk3 e he) (fun k5 hk5 => ?_)
   generalize band .u8 (shr .u8 which (u64.wrap (i64.wrap (4 * (i : Int))))) 7 = q at hb7
   have ep : i64.wrap (i64.wrap (at_ + 8) + i64.wrap (16 * i64.wrap q)) = at_ + 8 + 16 * q := by
    rw [i64w (n := q) (by omega), i64w (n := 16 * q) (by omega), i64w (n := at_ + 8) (by omega), i64w (by omega)]
   exact tables_write (P := (· = some true)) (p := i64.wrap (i64.wrap (at_ + 8) + i64.wrap (16 * i64.wrap q))) (v := v) (which := which) (k := (i : Int)) dB (by omega) (by rw [ep]; omega) (by rw [ep]; omega) hwh (fun e eB el => hk5 e ⟨eB, by omega⟩)
 refine loop_P (P := (· = some true)) (fun st => ∃ i : Nat, st.2 = (i : Int) /\ i <= z5.1.2.1.length /\ (z5.2 = 0 -> 0 <= st.1 /\ st.1 <= 100000)) (fun st => 200 - st.2.toNat) ?_ bigF _ ⟨0, rfl, by omega, fun _ => by show (0 : Int) <= 0 /\ (0 : Int) <= 100000; omega⟩ (lt_bigF (by simp))
 rintro ⟨at_, _⟩ rec ⟨i, rfl, hi, hat⟩ hrec
 have hat : z5.2 = 0 -> 0 <= at_ /\ at_ <= 100000 := hat
 refine deP (P := (· = some true)) (fun g2 => ?_) (fun _ => hkk _ hat)
 have g2 : (i : Int) < ((z5.1.2.1.length : Nat) : Int) := g2
 have hi2 : i < z5.1.2.1.length := by omega
 refine jnC (P := (· = some true)) (fun at2 => z5.2 = 0 -> 0 <= at2 /\ at2 <= 100000) ?_ (fun k3 hk3 => ?_)
 · intro at2 hat2
   refine letP (P := (· = some true)) ?_
   have e2 : i64.wrap ((i : Int) + 1) = ((i + 1 : Nat) : Int) := by rw [i64w (by omega)]; omega
   refine hrec _ ⟨i + 1, e2, by omega, hat2⟩ ?_
   show 200 - (i64.wrap ((i : Int) + 1)).toNat < 200 - ((i : Int)).toNat
   rw [e2]; omega
 refine gdP (P := (· = some true)) (by show (0 : Int) <= (i : Int) /\ (i : Int) < ((z5.1.2.1.length : Nat) : Int); omega) ?_
 refine jnC (P := (· = some true)) (fun at2 => z5.2 = 0 -> 0 <= at2 /\ at2 <= 100000) (fun at2 h => hk3 at2 h) (fun k4 hk4 => ?_)
 have hgi : gt z5.1.2.1 (i : Int) = z5.1.2.1[i] := gt_nat hi2
 refine eqP (P := (· = some true)) (fun h2 => ?_) (fun _ => hk4 _ hat)
 have h2 : z5.1.2.1[i].1 = 2 := by rw [<- hgi]; exact h2
 refine gdP (P := (· = some true)) (by show (0 : Int) <= (i : Int) /\ (i : Int) < ((z5.1.2.1.length : Nat) : Int); omega) ?_
 refine letP (P := (· = some true)) (hk4 _ fun h0 => ?_)
 have := o2 h0 _ (List.getElem_mem hi2) h2
 show 0 <= i64.wrap (gt z5.1.2.1 (i : Int)).2.2.1 /\ i64.wrap (gt z5.1.2.1 (i : Int)).2.2.1 <= 100000
 rw [hgi, i64w (by omega)]
 omega
end Dm
