/-
  What the proof of ImageParts leans on, part 4: rules for the walks, plain facts. Conditions stand in each statement.
-/
import Derived.Test.YtdfjbnonibcmeaaU3
namespace Dm
open Go
open IntKind (u64 i64 u8 u32)
abbrev Seg := Int × Int × Int × Int × Int × Int × Int
abbrev Wf04 (y : Seg) : Prop := InK .u32 y.1 /\ InK .u32 y.2.1 /\ InK .u64 y.2.2.1 /\ InK .u64 y.2.2.2.1 /\ InK .u64 y.2.2.2.2.1 /\ InK .u64 y.2.2.2.2.2.1 /\ InK .u64 y.2.2.2.2.2.2
def sput (s : Seg) : List Int := leB 8 (s.1 + s.2.1 * 2 ^ 32) ++ (leB 8 s.2.2.1 ++ (leB 8 s.2.2.2.1 ++ (leB 8 s.2.2.2.1 ++ (leB 8 s.2.2.2.2.1 ++ (leB 8 s.2.2.2.2.2.1 ++ leB 8 s.2.2.2.2.2.2)))))
theorem sput_length (s : Seg) : (sput s).length = 56 := by simp only [sput, List.length_append, leB_length]
theorem sput_bytes (s : Seg) : Bytes (sput s) := (leB_bytes _ _).append ((leB_bytes _ _).append ((leB_bytes _ _).append ((leB_bytes _ _).append ((leB_bytes _ _).append ((leB_bytes _ _).append (leB_bytes _ _))))))
theorem segs_Put_eq {s : Seg} (hx : Wf04 s) : segs_Put s = some (sput s) := by
 obtain ⟨a, b, c, d, e, f, g⟩ := s
 have h1 := inK_u32 hx.1
 have h2 := inK_u32 hx.2.1
 simp only at h1 h2
 have e2 : u64.wrap a = a := u64w (by omega)
 have e3 : u64.wrap b = b := u64w (by omega)
 have eb : bor .u64 a (shl .u64 b 32) = a + b * 2 ^ 32 := bor_two (k := 32) (by omega) (by omega) (by omega) (by omega) (by omega)
 unfold segs_Put sput
 rw [jn_eq]
 simp only [e2, e3, eb]
 generalize hw : ([a + b * 2 ^ 32, c, d, d, e, f, g] : List Int) = ws
 have hl : ws.length = 7 := by subst hw; rfl
 have hr : leB 8 (a + b * 2 ^ 32) ++ (leB 8 c ++ (leB 8 d ++ (leB 8 d ++ (leB 8 e ++ (leB 8 f ++ leB 8 g))))) = (ws.map (leB 8)).flatten := by
  subst hw; simp only [List.map_cons, List.map_nil, List.flatten_cons, List.flatten_nil, List.append_nil]
 rw [hr]
 refine loop_at (fun i => (((ws.take i).map (leB 8)).flatten, (i : Int))) ws.length rfl (by omega) ?_
 intro i rec hi hrec
 by_cases hlt : i < ws.length
 · have hlen : (((ws.take i).map (leB 8)).flatten).length <= 56 := by rw [flat_len, List.length_take]; omega
   rw [dif_lt hlt, if_pos rfl, gd_pos (by omega), let1_eq, gd_pos (by omega), bd_eq (set8 _)]
   simp only
   rw [gd_pos (by rw [leB_length]; omega), i64s (by omega), gt_nat hlt]
   have := hrec hlt
   rw [List.take_succ_eq_append_getElem hlt, List.map_append, List.flatten_append] at this
   simpa using this
 · obtain rfl : i = ws.length := by omega
   rw [dif_ge (by omega), List.take_of_length_le (Nat.le_refl _)]
   simp
def sread (b : List Int) (p : Nat) : Seg := (le (cu b p 4), le (cu b (p + 4) 4), le (cu b (p + 8) 8), le (cu b (p + 16) 8), le (cu b (p + 32) 8), le (cu b (p + 40) 8), le (cu b (p + 48) 8))
def getSS (b : List Int) (p : Nat) : Seg × Int :=
 if b.length < p + 56 then ((0, 0, 0, 0, 0, 0, 0), 10) else if le (cu b (p + 16) 8) = le (cu b (p + 24) 8) then (sread b p, 0) else ((0, 0, 0, 0, 0, 0, 0), 11)
theorem set_words (f : Nat -> Int) (n i : Nat) (h : i < n) : ((List.range i).map f ++ List.replicate (n - i) 0).set i (f i) = (List.range (i + 1)).map f ++ List.replicate (n - (i + 1)) 0 := by
 rw [List.set_append_right _ _ (by simp), List.length_map, List.length_range, Nat.sub_self, show n - i = (n - (i + 1)) + 1 by omega, List.replicate_succ, List.set_cons_zero, List.range_succ, List.map_append, List.append_assoc]; rfl
theorem segs_Get_eq {b : List Int} (hb : b.length <= 9223372036854775807) (hB : Bytes b) : segs_Get b = some (getSS b 0) := by
 unfold segs_Get getSS
 by_cases hl : b.length < 56
 · rw [if_pos (by simp; omega), if_pos (by omega)]
 · rw [if_neg (by simp; omega), if_neg (by omega), jn_eq]
   refine loop_at (fun i => ((i : Int), (List.range i).map (fun k => le (cu b (8 * k) 8)) ++ List.replicate (7 - i) 0)) 7 rfl (by omega) ?_
   intro i rec hi hrec
   by_cases hlt : i < 7
   · have e1 : u64.wrap (i64.wrap (8 * (i : Int))) = ((8 * i : Nat) : Int) := by rw [i64w (by omega), u64w (by omega)]; omega
     dsimp only at hrec ⊢
     rw [if_pos (by simp; omega), e1, bd_eq (get8 hb hB (by omega)), gd_pos (by omega), i64s (by omega), Int.toNat_natCast]
     have hrec := hrec hlt
     rw [<- set_words (fun k => le (cu b (8 * k) 8)) 7 i hlt] at hrec
     exact hrec
   · obtain rfl : i = 7 := by omega
     dsimp only
     rw [if_neg (by simp)]
     show (gd _ <| gd _ <| if (le (cu b 16 8) != le (cu b 24 8)) = true then _ else _) = _
     rw [gd_pos (by decide), gd_pos (by decide)]
     by_cases he : le (cu b (0 + 16) 8) = le (cu b (0 + 24) 8)
     · rw [if_neg (by simpa using he), if_pos he]
       iterate 7 rw [gd_pos (by decide)]
       have ea : le (cu b 0 8) = le (cu b 0 4) + 4294967296 * le (cu b 4 4) := le_cu_add (p := 0) (m := 4) (n := 4) (by omega)
       have b0 := cu_bd (n := 4) hB (show 0 + 4 <= b.length by omega)
       have b1 := cu_bd (n := 4) hB (show 4 + 4 <= b.length by omega)
       show some ((u32.wrap (le (cu b 0 8)), u32.wrap (shr .u64 (le (cu b 0 8)) 32), _), _) = _
       have e1 : u32.wrap (le (cu b 0 8)) = le (cu b 0 4) := by rw [wrap_u32]; omega
       have e2 : u32.wrap (shr .u64 (le (cu b 0 8)) 32) = le (cu b 4 4) := by
        have : shr .u64 (le (cu b 0 8)) 32 = le (cu b 0 8) / 4294967296 := by
         unfold shr; rw [Int.fdiv_eq_ediv_of_nonneg _ (Int.pow_nonneg (by omega))]; rfl
        rw [this, wrap_u32]; omega
       rw [e1, e2]; rfl
     · rw [if_pos (by simpa using he), if_neg he]
theorem sread_sput {s : Seg} (hx : Wf04 s) {pre post : List Int} {p : Nat} (hp : p = pre.length) : sread (pre ++ (sput s ++ post)) p = s /\ le (cu (pre ++ (sput s ++ post)) (p + 16) 8) = le (cu (pre ++ (sput s ++ post)) (p + 24) 8) := by
 obtain ⟨a, b, c, d, e, f, g⟩ := s
 obtain ⟨h1, h2, h3, h4, h5, h6, h7⟩ := hx
 have h1 := inK_u32 h1
 have h2 := inK_u32 h2
 have h3 := inK_u64 h3
 have h4 := inK_u64 h4
 have h5 := inK_u64 h5
 have h6 := inK_u64 h6
 have h7 := inK_u64 h7
 simp only at h1 h2 h3 h4 h5 h6 h7
 have hL := sput_length (a, b, c, d, e, f, g)
 have hcu : ∀ q n, q + n <= 56 -> cu (pre ++ (sput (a, b, c, d, e, f, g) ++ post)) (p + q) n = cu (sput (a, b, c, d, e, f, g)) q n := by
  intro q n h
  rw [cu_right' (by omega), show p + q - pre.length = q by omega, cu_left (by omega)]
 have e4 : a + b * 2 ^ 32 = a + 256 ^ 4 * b := by omega
 have hS : sput (a, b, c, d, e, f, g) = leB 4 a ++ (leB 4 b ++ (leB 8 c ++ (leB 8 d ++ (leB 8 d ++ (leB 8 e ++ (leB 8 f ++ leB 8 g)))))) := by
  unfold sput; rw [e4, show leB 8 (a + 256 ^ 4 * b) = leB 4 a ++ leB 4 b from leB_two (m := 4) (n := 4) (by omega) (by omega) (by omega) (by omega), List.append_assoc]
 have c0 : cu (sput (a, b, c, d, e, f, g)) 0 4 = leB 4 a := by rw [hS]; rfl
 have c4 : cu (sput (a, b, c, d, e, f, g)) 4 4 = leB 4 b := by rw [hS]; rfl
 have c8 : cu (sput (a, b, c, d, e, f, g)) 8 8 = leB 8 c := by rw [hS]; rfl
 have c16 : cu (sput (a, b, c, d, e, f, g)) 16 8 = leB 8 d := by rw [hS]; rfl
 have c24 : cu (sput (a, b, c, d, e, f, g)) 24 8 = leB 8 d := by rw [hS]; rfl
 have c32 : cu (sput (a, b, c, d, e, f, g)) 32 8 = leB 8 e := by rw [hS]; rfl
 have c40 : cu (sput (a, b, c, d, e, f, g)) 40 8 = leB 8 f := by rw [hS]; rfl
 have c48 : cu (sput (a, b, c, d, e, f, g)) 48 8 = leB 8 g := by rw [hS]; rfl
 refine ⟨?_, by rw [hcu 16 8 (by omega), hcu 24 8 (by omega), c16, c24]⟩
 unfold sread
 rw [show cu (pre ++ (sput (a, b, c, d, e, f, g) ++ post)) p 4 = _ from hcu 0 4 (by omega), hcu 4 4 (by omega), hcu 8 8 (by omega), hcu 16 8 (by omega), hcu 32 8 (by omega), hcu 40 8 (by omega), hcu 48 8 (by omega), c0, c4, c8, c16, c32, c40, c48]
 rw [le_leB (by omega) (by omega), le_leB (by omega) (by omega), le_leB (by omega) (by omega), le_leB (by omega) (by omega), le_leB (by omega) (by omega), le_leB (by omega) (by omega), le_leB (by omega) (by omega)]
theorem getSS_sput {s : Seg} (hx : Wf04 s) {pre post : List Int} {p : Nat} (hp : p = pre.length) : getSS (pre ++ (sput s ++ post)) p = (s, 0) := by
 obtain ⟨h1, h2⟩ := sread_sput hx (post := post) hp
 unfold getSS
 rw [if_neg (by rw [List.length_append, List.length_append, sput_length]; omega), if_pos h2, h1]
theorem getSS_eq {d b : List Int} {p : Nat} (hd : 56 <= d.length) (hb : p + 56 <= b.length) (h : ∀ q n, q + n <= 56 -> cu d q n = cu b (p + q) n) : getSS d 0 = getSS b p := by
 have h0 : cu d (0 + 16) 8 = cu b (p + 16) 8 := h 16 8 (by omega)
 have h1 : cu d (0 + 24) 8 = cu b (p + 24) 8 := h 24 8 (by omega)
 have hs : sread d 0 = sread b p := by
  have a0 : cu d 0 4 = cu b p 4 := h 0 4 (by omega)
  have a1 : cu d (0 + 4) 4 = cu b (p + 4) 4 := h 4 4 (by omega)
  have a2 : cu d (0 + 8) 8 = cu b (p + 8) 8 := h 8 8 (by omega)
  have a4 : cu d (0 + 32) 8 = cu b (p + 32) 8 := h 32 8 (by omega)
  have a5 : cu d (0 + 40) 8 = cu b (p + 40) 8 := h 40 8 (by omega)
  have a6 : cu d (0 + 48) 8 = cu b (p + 48) 8 := h 48 8 (by omega)
  unfold sread; rw [a0, a1, a2, h0, a4, a5, a6]
 have g1 : ¬ d.length < 0 + 56 := by omega
 have g2 : ¬ b.length < p + 56 := by omega
 unfold getSS
 rw [if_neg g1, if_neg g2, h0, h1, hs]
def entQ (b : List Int) (p n : Nat) : List (Seg × Int) := (List.range n).map fun i => getSS b (p + 56 * i)
def tabO (es : List (Seg × Int)) : List Seg × Int := if firstE (·.2) es = 0 then (es.map (·.1), 0) else ([], firstE (·.2) es)
def tabSS (b : List Int) (p n : Int) : List Seg × Int :=
 if n < 0 \/ n > 64 then ([], 1) else if insB b.length p (56 * n) then tabO (entQ b p.toNat n.toNat) else ([], 10)
theorem entS_get {b : List Int} {p n i : Nat} (h : i < (entQ b p n).length) : (entQ b p n)[i] = getSS b (p + 56 * i) := by simp [entQ]
theorem entS_length (b : List Int) (p n : Nat) : (entQ b p n).length = n := by unfold entQ; rw [List.length_map, List.length_range]
theorem ent_loop (es : List (Seg × Int)) (hn : es.length <= 64) {body : (List Seg) × Int -> ((List Seg) × Int -> Option (List Seg × Int)) -> Option (List Seg × Int)}
    (h : ∀ (i : Nat) (acc : List Seg) rec (hi : i < es.length), acc.length <= 64 -> body (acc, (i : Int)) rec = if es[i].2 ≠ 0 then some ([], es[i].2) else rec (acc ++ [es[i].1], ((i + 1 : Nat) : Int)))
    (h1 : ∀ acc rec, body (acc, (es.length : Int)) rec = some (acc, 0)) : loopK body bigF ([], 0) = some (tabO es) := by
 refine loop_to (fun i => ((es.take i).map (·.1), (i : Int))) (fun i => some (if firstE (·.2) (es.drop i) = 0 then (es.map (·.1), 0) else ([], firstE (·.2) (es.drop i)))) es.length rfl rfl (by omega) ?_
 intro i rec hi hrec
 by_cases hlt : i < es.length
 · rw [h i _ rec hlt (by rw [List.length_map, List.length_take]; omega), firstE_drop _ es hlt]
   by_cases h0 : es[i].2 = 0
   · have hr := hrec hlt
     rw [List.take_succ_eq_append_getElem hlt, List.map_append] at hr
     rw [if_neg (by simpa using h0), if_pos h0]; exact hr
   · rw [if_pos h0, if_neg h0, if_neg h0]
 · obtain rfl : i = es.length := by omega
   rw [h1, List.drop_length, List.take_of_length_le (Nat.le_refl _)]; rfl
theorem segs_Table_eq {b : List Int} (hb : b.length <= 1000000) (hB : Bytes b) {p n : Int} (hp : 0 <= p) (_ : InK .i64 n) : segs_Table b p n = some (tabSS b p n) := by
 unfold segs_Table tabSS
 rw [jn_eq]
 by_cases h0 : n < 0
 · rw [if_pos (by simpa using h0), if_pos (Or.inl h0)]; rfl
 by_cases h64 : n > 64
 · rw [if_neg (by simpa using h0), if_pos (Or.inr h64)]
   have : decide (n > 64) = true := by simpa using h64
   rw [this]; rfl
 · have hd : decide (n > 64) = false := by simpa using h64
   rw [if_neg (by simpa using h0), if_neg (by omega), hd]
   obtain ⟨m, rfl⟩ := Int.eq_ofNat_of_zero_le (show 0 <= n by omega)
   obtain ⟨q, rfl⟩ := Int.eq_ofNat_of_zero_le hp
   have e1 : u64.wrap (i64.wrap ((m : Int) * 56)) = 56 * (m : Int) := by rw [i64w (by omega), u64w (by omega)]; omega
   dsimp only
   rw [if_neg (by simp), e1, bd_eq (octets_Cut_eq (by omega) hp (by omega))]
   cases hi : insB b.length (q : Int) (56 * (m : Int))
   · have hc : cutP b (q : Int) (56 * (m : Int)) = ([], 10) := by unfold cutP; rw [hi]; rfl
     rw [hc, if_pos (by decide), if_neg (by decide)]
   · have hc : cutP b (q : Int) (56 * (m : Int)) = (cu b q (56 * m), 0) := by
      unfold cutP; rw [hi, if_pos rfl, Int.toNat_natCast]; unfold cu; congr 1
     simp only [insB, Bool.and_eq_true, decide_eq_true_eq] at hi
     rw [hc, if_neg (by simp), if_pos rfl, Int.toNat_natCast, Int.toNat_natCast]
     dsimp only
     have hcl : (cu b q (56 * m)).length = 56 * m := cu_length (by omega)
     have hcB := hB.cu q (56 * m)
     rw [jn_eq]
     refine ent_loop (entQ b q m) (by rw [entS_length]; omega) ?_ ?_
     · intro i acc rec hi' hacc
       have him : i < m := by rwa [entS_length] at hi'
       have e2 : i64.wrap ((i : Int) * 56) = ((56 * i : Nat) : Int) := by rw [i64w (by omega)]; omega
       dsimp only
       rw [dif_lt him, if_pos rfl, e2, gd_pos (by omega)]
       have ed : cutL (cu b q (56 * m)) ((56 * i : Nat) : Int) (((cu b q (56 * m)).length : Nat) : Int) = (cu b q (56 * m)).drop (56 * i) := by
        unfold cutL; rw [Int.toNat_natCast, Int.toNat_natCast, List.take_length]
       have eg : getSS ((cu b q (56 * m)).drop (56 * i)) 0 = getSS b (q + 56 * i) := by
        refine getSS_eq (by rw [List.length_drop]; omega) (by omega) ?_
        intro x y hxy
        rw [cu_drop, cu_cu (by omega)]; congr 1; omega
       rw [ed, bd_eq (segs_Get_eq (by rw [List.length_drop]; omega) (hcB.drop _)), eg, entS_get]
       generalize getSS b (q + 56 * i) = r
       by_cases hr : r.2 = 0
       · rw [if_neg (by simpa using hr), if_neg (by simpa using hr), gd_pos (by simp; omega), i64s (by omega)]
       · rw [if_pos (by simpa using hr), if_pos hr]
     · intro acc rec
       rw [entS_length, dif_ge (Nat.le_refl _), if_neg (by simp)]
theorem tabSS_len (b : List Int) (p n : Int) : (tabSS b p n).1.length <= 64 := by
 unfold tabSS
 split
 · simp
 · split
   · unfold tabO; split
     · rw [List.length_map, entS_length]; omega
     · simp
   · simp
theorem firstE_zero {α : Type} (f : α -> Int) : ∀ (l : List α), (∀ x ∈ l, f x = 0) -> firstE f l = 0
 | [], _ => rfl
 | x :: l, h => by rw [firstE, if_pos (h x (by simp))]; exact firstE_zero f l fun y hy => h y (by simp [hy])
theorem sputs_len : ∀ l : List Seg, ((l.map sput).flatten).length = 56 * l.length
 | [] => rfl
 | s :: l => by rw [List.map_cons, List.flatten_cons, List.length_append, sput_length, sputs_len l, List.length_cons]; omega
theorem sputs_bytes (l : List Seg) : Bytes ((l.map sput).flatten) := by
 intro x hx
 rw [List.mem_flatten] at hx
 obtain ⟨m, hm, hx⟩ := hx
 rw [List.mem_map] at hm
 obtain ⟨s, _, rfl⟩ := hm
 exact sput_bytes s x hx
def atP (addr size : Int) (s : Seg) : Bool :=
 decide (size > 0) && (s.1 == 1) && decide (addr >= s.2.2.2.1) && decide (addr - s.2.2.2.1 <= s.2.2.2.2.1) && decide (size <= s.2.2.2.2.1 - (addr - s.2.2.2.1))
def placeS (l : List Seg) (addr size : Int) : Int × Int := ((l.find? (atP addr size)).map fun s => (u64.wrap (s.2.2.1 + (addr - s.2.2.2.1)), (0 : Int))).getD (0, 40)
theorem segs_Place_eq {l : List Seg} (hl : l.length <= 9223372036854775807) (hw : ∀ s ∈ l, Wf04 s) {addr size : Int} (ha : InK .u64 addr) (hs : InK .u64 size) : segs_Place l addr size = some (placeS l addr size) := by
 unfold segs_Place placeS
 rw [jn_eq]
 refine scan_o l hl _ _ _ ?_ ?_
 · intro i rec hi
   have hx := hw _ (List.getElem_mem hi)
   have ha := inK_u64 ha
   have hs := inK_u64 hs
   rw [dif_lt hi, if_pos rfl, gd_pos (by omega), gt_nat hi, let1_eq, jn_eq, i64s (by omega)]
   generalize l[i] = s at hx ⊢
   have h4 := inK_u64 hx.2.2.2.1
   have h5 := inK_u64 hx.2.2.2.2.1
   unfold atP
   by_cases c1 : size > 0
   · by_cases c2 : s.1 = 1
     · by_cases c3 : addr >= s.2.2.2.1
       · have e : u64.wrap (addr - s.2.2.2.1) = addr - s.2.2.2.1 := u64w (by omega)
         rw [e]
         by_cases c4 : addr - s.2.2.2.1 <= s.2.2.2.2.1
         · have e2 : u64.wrap (s.2.2.2.2.1 - (addr - s.2.2.2.1)) = s.2.2.2.2.1 - (addr - s.2.2.2.1) := u64w (by omega)
           rw [e2]; simp [c1, c2, c3, c4]
         · simp [c1, c2, c3, c4]
       · simp [c1, c2, c3]
     · simp [c1, c2]
   · simp [c1]
 · intro rec
   rw [dif_ge (Nat.le_refl _), if_neg (by simp)]
def findS (l : List Seg) (kind : Int) : Option Nat := fI (fun s => s.1 == kind) l
theorem IndexFunc_Find_eq {l : List Seg} (hl : l.length <= 9223372036854775807) (kind : Int) : slices_IndexFunc_api_Seg_api_Seg_Find_1 l kind = some (ixN 0 (findS l kind)) := by
 unfold slices_IndexFunc_api_Seg_api_Seg_Find_1 findS
 rw [jn_eq]
 refine scan_ix l hl _ ?_ ?_
 · intro i rec hi
   rw [dif_lt hi, if_pos rfl, gd_pos (by omega), gt_nat hi, bd_eq (show segs_Find_1 l[i] kind = some (l[i].1 == kind) from rfl), i64s (by omega)]
 · intro rec
   rw [dif_ge (Nat.le_refl _), if_neg (by simp)]
theorem segs_Find_eq {l : List Seg} (hl : l.length <= 9223372036854775807) (kind : Int) :
    segs_Find l kind = some (match findS l kind with | none => ((0, 0, 0, 0, 0, 0, 0), false) | some k => (l.getD k default, true)) := by
 unfold segs_Find
 rw [bd_eq (IndexFunc_Find_eq hl kind)]
 cases hf : findS l kind with
 | none => rfl
 | some k =>
  obtain ⟨hk, _⟩ := fI_some hf
  have e : ixN 0 (some k) = (k : Int) := by simp [ixN]
  rw [e, if_neg (by simp), gd_pos (by omega)]
  rfl
def kindS (k : Int) : Bool := k == 0 || k == 1 || k == 2 || k == 4 || k == 7
theorem Index_u32_eq {l : List Int} (hl : l.length <= 9223372036854775807) (k : Int) : slices_Index_uint32_uint32 l k = some (ixN 0 (fI (fun x => k == x) l)) := by
 unfold slices_Index_uint32_uint32
 rw [jn_eq]
 refine scan_ix l hl _ ?_ ?_
 · intro i rec hi
   rw [dif_lt hi, if_pos rfl, gd_pos (by omega), gt_nat hi, i64s (by omega)]
 · intro rec
   rw [dif_ge (Nat.le_refl _), if_neg (by simp)]
theorem segs_kind_eq (k : Int) : segs_kind k = some (kindS k) := by
 unfold segs_kind slices_Contains_uint32_uint32
 rw [Index_u32_eq (by simp) k, some_bind, some_bind, ixN_ge, fI_isSome]
 simp [kindS, Bool.or_assoc]
def restS (s : Seg) (size : Int) : Int :=
 if s.1 = 0 then 0 else if s.2.2.1 > size \/ s.2.2.2.2.1 > size - s.2.2.1 then 10 else if s.2.2.2.2.2.1 < s.2.2.2.2.1 then 11
 else if s.2.2.2.1 > 4294967296 \/ s.2.2.2.2.2.1 > 4294967296 - s.2.2.2.1 then 13 else if s.1 = 1 /\ (s.2.2.2.1 % 256 ≠ s.2.2.1 % 256 \/ s.2.2.2.2.2.1 = 0) then 11 else 0
def oneS (size : Int) (s : Seg) : Int := if kindS s.1 = false \/ s.2.1 > 7 then 11 else restS s size
theorem rest_eq {s : Seg} (hx : Wf04 s) {size : Int} (hs : InK .u64 size) :
      (if (s.1 == 0) = true then
       some 0
      else
       jn (fun (s2 : Bool) =>
        (if (s2) = true then
         some 10
        else
         (if (decide (s.2.2.2.2.2.1 < s.2.2.2.2.1)) = true then
          some 11
         else
          jn (fun (s3 : Bool) =>
           (if (s3) = true then
            some 13
           else
            jn (fun (s4 : Bool) =>
             (if (s4) = true then
              some 11
             else
              some 0)) (fun k4 =>
             (if (s.1 == 1) = true then
             (if ((Int.tmod s.2.2.2.1 256) != (Int.tmod s.2.2.1 256)) = true then
             k4 true
             else
             k4 (s.2.2.2.2.2.1 == 0))
             else
             k4 false)))) (fun k3 =>
           (if (decide (s.2.2.2.1 > 4294967296)) = true then
           k3 true
           else
           k3 (decide (s.2.2.2.2.2.1 > (u64.wrap (4294967296 - s.2.2.2.1))))))))) (fun k2 =>
        (if (decide (s.2.2.1 > size)) = true then
        k2 true
        else
        k2 (decide (s.2.2.2.2.1 > (u64.wrap (size - s.2.2.1))))))) = some (restS s size) := by
 obtain ⟨t, fl, o, v, f, m, al⟩ := s
 obtain ⟨h1, h2, h3, h4, h5, h6, h7⟩ := hx
 have h3 := inK_u64 h3
 have h4 := inK_u64 h4
 have h5 := inK_u64 h5
 have h6 := inK_u64 h6
 have hs := inK_u64 hs
 simp only at h1 h2 h3 h4 h5 h6 h7
 unfold restS
 have e1 : Int.tmod v 256 = v % 256 := Int.tmod_eq_emod_of_nonneg h4.1
 have e2 : Int.tmod o 256 = o % 256 := Int.tmod_eq_emod_of_nonneg h3.1
 simp only [jn_eq, e1, e2]
 by_cases c0 : t = 0
 · simp [c0]
 by_cases c1 : o > size
 · simp [c0, c1]
 have e3 : u64.wrap (size - o) = size - o := u64w (by omega)
 rw [e3]
 by_cases c2 : f > size - o
 · simp [c0, c1, c2]
 by_cases c3 : m < f
 · simp [c0, c1, c2, c3]
 by_cases c4 : v > 4294967296
 · simp [c0, c1, c2, c3, c4]
 have e4 : u64.wrap (4294967296 - v) = 4294967296 - v := u64w (by omega)
 rw [e4]
 by_cases c5 : m > 4294967296 - v
 · simp [c0, c1, c2, c3, c4, c5]
 by_cases c6 : t = 1
 · by_cases c7 : v % 256 = o % 256
   · by_cases c8 : m = 0
     · subst c8; simp [c1, c2, c3, c4, c5, c6, c7]
     · simp [c1, c2, c3, c4, c5, c6, c7, c8]
   · simp [c1, c2, c3, c4, c5, c6, c7]
 · simp [c0, c1, c2, c3, c4, c5, c6]
theorem segs_one_eq {s : Seg} (hx : Wf04 s) {size : Int} (hs : InK .u64 size) : segs_one s size = some (oneS size s) := by
 unfold segs_one oneS
 have hr := rest_eq hx hs
 rw [jn_eq, bd_eq (segs_kind_eq _)]
 cases hk : kindS s.1
 · simp
 · by_cases h7 : s.2.1 > 7
   · simp [h7]
   · have hd : decide (s.2.1 > 7) = false := by simpa using h7
     have hneg : ¬ (true = false \/ s.2.1 > 7) := by simp [h7]
     rw [if_neg (c := (!true) = true) (by simp), hd, if_neg hneg]
     dsimp only
     rw [if_neg (by simp)]
     exact hr
def firstS (s : Seg) : Int := s.2.2.2.1 / 256 * 256
def behindS (s : Seg) : Int := (s.2.2.2.1 + s.2.2.2.2.2.1 + 255) / 256 * 256
theorem oneS_zero {size : Int} {s : Seg} (h : oneS size s = 0) (ht : s.1 ≠ 0) : s.2.2.1 <= size /\ s.2.2.2.2.1 <= size - s.2.2.1 /\ s.2.2.2.2.1 <= s.2.2.2.2.2.1 /\ s.2.2.2.1 <= 4294967296 /\ s.2.2.2.2.2.1 <= 4294967296 - s.2.2.2.1 /\ (s.1 = 1 -> s.2.2.2.2.2.1 ≠ 0) := by
 unfold oneS at h
 split at h
 · simp at h
 · unfold restS at h
   rw [if_neg ht] at h
   split at h
   · simp at h
   · split at h
     · simp at h
     · split at h
       · simp at h
       · split at h
         · simp at h
         · omega
theorem segs_pages_eq {s : Seg} (hx : Wf04 s) (hv : s.2.2.2.1 <= 4294967296) (hm : s.2.2.2.2.2.1 <= 4294967296 - s.2.2.2.1) : segs_pages s = some (firstS s, behindS s) := by
 have h4 := inK_u64 hx.2.2.2.1
 have h6 := inK_u64 hx.2.2.2.2.2.1
 unfold segs_pages
 rw [bd_eq (down256 h4.1 h4.2), u64w (by omega), bd_eq (up256 (by omega) (by omega))]; rfl
def hiS (p : List Seg) : Int := p.foldl (fun h s => if s.1 = 1 then behindS s else h) 0
theorem hiS_snoc (p : List Seg) (s : Seg) : hiS (p ++ [s]) = if s.1 = 1 then behindS s else hiS p := by unfold hiS; rw [List.foldl_append]; rfl
def singS (t : Int) : Bool := t == 2 || t == 7
def errS (size : Int) (pre : List Seg) (s : Seg) : Int :=
 if oneS size s ≠ 0 then oneS size s else if singS s.1 = true /\ (pre.any fun x => x.1 == s.1) = true then 12 else if s.1 = 1 /\ firstS s < hiS pre then 12 else 0
def ph1 (size : Int) (pre : List Seg) : List Seg -> Int
 | [] => 0
 | s :: l => if errS size pre s = 0 then ph1 size (pre ++ [s]) l else errS size pre s
theorem ph1_drop (size : Int) {l : List Seg} {i : Nat} (h : i < l.length) : ph1 size (l.take i) (l.drop i) = if errS size (l.take i) l[i] = 0 then ph1 size (l.take (i + 1)) (l.drop (i + 1)) else errS size (l.take i) l[i] := by
 rw [List.drop_eq_getElem_cons h, ph1, List.take_succ_eq_append_getElem h]
def winS (s x : Seg) : Bool :=
 x.1 == 1 && decide (s.2.2.1 >= x.2.2.1) && decide (s.2.2.1 + s.2.2.2.2.1 <= x.2.2.1 + x.2.2.2.2.1) && decide ((x.2.2.2.1 - x.2.2.1) % 18446744073709551616 = (s.2.2.2.1 - s.2.2.1) % 18446744073709551616)
def badS (l : List Seg) (s : Seg) : Int := if singS s.1 = true /\ s.2.2.2.2.1 ≠ 0 /\ l.any (winS s) = false then 11 else 0
def checkSS (size : Int) (l : List Seg) : Int := if ph1 size [] l = 0 then firstE (badS l) l else ph1 size [] l
def okP (size : Int) (l : List Seg) (i : Nat) : Prop := ∀ k (h : k < l.length), k < i -> oneS size l[k] = 0
theorem errS_one {size : Int} {pre : List Seg} {s : Seg} (h : errS size pre s = 0) : oneS size s = 0 := by
 unfold errS at h
 by_cases ho : oneS size s = 0
 · exact ho
 · rw [if_pos ho] at h; exact absurd h ho
theorem okP_succ {size : Int} {l : List Seg} {i : Nat} (h : i < l.length) (hP : okP size l i) (h0 : oneS size l[i] = 0) : okP size l (i + 1) := by
 intro k hk hki
 by_cases e : k = i
 · subst e; exact h0
 · exact hP k hk (by omega)
theorem single_eq (s : Seg) : segs_single s = some (singS s.1) := by
 unfold segs_single singS
 rw [jn_eq]
 cases h : s.1 == 2 <;> simp
theorem within_1_eq {x s : Seg} (hx : Wf04 x) (hs : Wf04 s) {size : Int} (hz : InK .u64 size) (ox : oneS size x = 0) (os : oneS size s = 0) (hs0 : s.1 ≠ 0) : segs_within_1 x s = some (winS s x) := by
 unfold segs_within_1 winS
 rw [jn_eq]
 by_cases c1 : x.1 = 1
 · have kx := oneS_zero ox (by omega)
   have ks := oneS_zero os hs0
   have hz := inK_u64 hz
   have x3 := inK_u64 hx.2.2.1
   have x5 := inK_u64 hx.2.2.2.2.1
   have s3 := inK_u64 hs.2.2.1
   have s5 := inK_u64 hs.2.2.2.2.1
   simp only [wrap_u64 (x.2.2.2.1 - x.2.2.1), wrap_u64 (s.2.2.2.1 - s.2.2.1)]
   by_cases c2 : s.2.2.1 >= x.2.2.1
   · have e : u64.wrap (s.2.2.1 - x.2.2.1) = s.2.2.1 - x.2.2.1 := u64w (by omega)
     rw [e]
     by_cases c3 : s.2.2.1 - x.2.2.1 <= x.2.2.2.2.1
     · have e2 : u64.wrap (x.2.2.2.2.1 - (s.2.2.1 - x.2.2.1)) = x.2.2.2.2.1 - (s.2.2.1 - x.2.2.1) := u64w (by omega)
       rw [e2]
       by_cases c4 : s.2.2.2.2.1 <= x.2.2.2.2.1 - (s.2.2.1 - x.2.2.1)
       · have c5 : s.2.2.1 + s.2.2.2.2.1 <= x.2.2.1 + x.2.2.2.2.1 := by omega
         simp [c1, c2, c3, c4, c5, beqD]
       · have c5 : ¬ s.2.2.1 + s.2.2.2.2.1 <= x.2.2.1 + x.2.2.2.2.1 := by omega
         simp [c1, c2, c3, c4, c5]
     · have c5 : ¬ s.2.2.1 + s.2.2.2.2.1 <= x.2.2.1 + x.2.2.2.2.1 := by omega
       simp [c1, c2, c3, c5]
   · simp [c1, c2]
 · simp [c1]
theorem within_eq {l : List Seg} (hl : l.length <= 9223372036854775807) (hw : ∀ s ∈ l, Wf04 s) {size : Int} (hz : InK .u64 size) (ho : okP size l l.length) {s : Seg} (hs : s ∈ l) (hs0 : s.1 ≠ 0) :
    segs_within l s = some (s.2.2.2.2.1 == 0 || l.any (winS s)) := by
 have hall : ∀ x ∈ l, oneS size x = 0 := by
  intro x hx
  obtain ⟨k, hk, rfl⟩ := List.mem_iff_getElem.1 hx
  exact ho k hk hk
 have hI : slices_IndexFunc_api_Seg_api_Seg_within_1 l s = some (ixN 0 (fI (winS s) l)) := by
  unfold slices_IndexFunc_api_Seg_api_Seg_within_1
  rw [jn_eq]
  refine scan_ix l hl _ ?_ ?_
  · intro i rec hi
    have hm := List.getElem_mem hi
    rw [dif_lt hi, if_pos rfl, gd_pos (by omega), gt_nat hi, bd_eq (within_1_eq (hw _ hm) (hw _ hs) hz (hall _ hm) (hall _ hs) hs0), i64s (by omega)]
  · intro rec
    rw [dif_ge (Nat.le_refl _), if_neg (by simp)]
 unfold segs_within slices_ContainsFunc_api_Seg_api_Seg_within_1
 rw [jn_eq]
 by_cases h0 : s.2.2.2.2.1 = 0
 · rw [if_pos (by simp [h0])]; simp [h0]
 · rw [if_neg (by simp [h0]), show (s.1, s.2.1, s.2.2.1, s.2.2.2.1, s.2.2.2.2.1, s.2.2.2.2.2.1, s.2.2.2.2.2.2) = s from rfl, hI, some_bind, some_bind, ixN_ge, fI_isSome]
   simp [h0]
theorem sing_ne {t : Int} (h : singS t = true) : t ≠ 0 /\ t ≠ 1 := by
 simp only [singS, Bool.or_eq_true, beq_iff_eq] at h; omega
theorem segs_Find_ex {l : List Seg} (hl : l.length <= 9223372036854775807) (kind : Int) : ∃ r, segs_Find l kind = some r /\ r.2 = l.any fun x => x.1 == kind := by
 refine ⟨_, segs_Find_eq hl kind, ?_⟩
 rw [<- fI_isSome]; unfold findS; cases fI (fun x => x.1 == kind) l <;> rfl
theorem segs_Check_eq {l : List Seg} (hl : l.length <= 9223372036854775807) (hw : ∀ s ∈ l, Wf04 s) {size : Int} (hz : InK .u64 size) : segs_Check l size = some (checkSS size l) := by
 unfold segs_Check
 rw [jn_eq]
 refine loop_toP (fun i => (hiS (l.take i), (i : Int))) (fun i => some (if ph1 size (l.take i) (l.drop i) = 0 then firstE (badS l) l else ph1 size (l.take i) (l.drop i))) (okP size l) l.length rfl (fun k _ h => by omega) rfl hl ?_
 intro i rec hi hP hrec
 dsimp only at hrec ⊢
 by_cases hlt : i < l.length
 · have hm := List.getElem_mem hlt
   have hx := hw _ hm
   rw [dif_lt hlt, if_pos rfl, jn_eq, gd_pos (by omega), gt_nat hlt, ph1_drop size hlt, i64s (by omega)]
   have hrec := hrec hlt
   rw [List.take_succ_eq_append_getElem hlt, hiS_snoc] at hrec
   rw [List.take_succ_eq_append_getElem hlt]
   have hok := okP_succ hlt hP
   generalize l[i] = s at hm hx hrec hok ⊢
   rw [show (s.1, s.2.1, s.2.2.1, s.2.2.2.1, s.2.2.2.2.1, s.2.2.2.2.2.1, s.2.2.2.2.2.2) = s from rfl, bd_eq (segs_one_eq hx hz)]
   by_cases ho : oneS size s = 0
   · have hrec := hrec (hok ho)
     have hE : errS size (l.take i) s = if singS s.1 = true /\ ((l.take i).any fun x => x.1 == s.1) = true then 12 else if s.1 = 1 /\ firstS s < hiS (l.take i) then 12 else 0 := by
      unfold errS; rw [if_neg (by simp [ho])]
     have hcut : cutL l 0 (i : Int) = l.take i := by unfold cutL; simp
     obtain ⟨r, hr1, hfd⟩ := segs_Find_ex (l := l.take i) (by rw [List.length_take]; omega) s.1
     rw [if_neg (by simp [ho]), gd_pos (by omega), hcut, bd_eq hr1, jn_eq, hfd, hE]
     generalize hA : ((l.take i).any fun x => x.1 == s.1) = A
     by_cases hdup : singS s.1 = true /\ A = true
     · rw [if_pos hdup.2, bd_eq (single_eq s), if_pos hdup, hdup.1]; rfl
     · have key : ∀ b : Bool, b = false -> ((fun (s4 : Bool) =>
             (if (s4) = true then
              some 12
             else
              jn (fun (s5 : Int) =>
               (fun (s3 : Int) =>
        rec (s3, ((i + 1 : Nat) : Int))) s5) (fun k4 =>
                (if ((s.1) == 1) = true then
                 (segs_pages s).bind fun z4 =>
                 (if (decide (z4.1 < hiS (l.take i))) = true then
                  some 12
                 else
                  k4 z4.2)
                else
                 k4 (hiS (l.take i)))))) b) = some (if (if s.1 = 1 /\ firstS s < hiS (l.take i) then (12 : Int) else 0) = 0 then (if ph1 size (l.take i ++ [s]) (l.drop (i + 1)) = 0 then firstE (badS l) l else ph1 size (l.take i ++ [s]) (l.drop (i + 1))) else 12) := by
        intro b hb
        subst hb
        dsimp only
        rw [if_neg (by simp), jn_eq]
        by_cases h1 : s.1 = 1
        · have kz := oneS_zero ho (by omega)
          rw [if_pos (by simp [h1]), bd_eq (segs_pages_eq hx kz.2.2.2.1 kz.2.2.2.2.1)]
          by_cases hf : firstS s < hiS (l.take i)
          · have e : (if s.1 = 1 /\ firstS s < hiS (l.take i) then (12 : Int) else 0) = 12 := if_pos ⟨h1, hf⟩
            rw [if_pos (by simpa using hf), e, if_neg (by decide)]
          · have e : (if s.1 = 1 /\ firstS s < hiS (l.take i) then (12 : Int) else 0) = 0 := if_neg fun h => hf h.2
            rw [if_neg (by simpa using hf), e, if_pos rfl]
            rw [if_pos h1] at hrec; exact hrec
        · have e : (if s.1 = 1 /\ firstS s < hiS (l.take i) then (12 : Int) else 0) = 0 := if_neg fun h => h1 h.1
          rw [if_neg (by simp [h1]), e, if_pos rfl]
          rw [if_neg h1] at hrec; exact hrec
       rw [if_neg hdup]
       have fin : (some (if (if (if s.1 = 1 /\ firstS s < hiS (l.take i) then (12 : Int) else 0) = 0 then ph1 size (l.take i ++ [s]) (l.drop (i + 1)) else (if s.1 = 1 /\ firstS s < hiS (l.take i) then (12 : Int) else 0)) = 0 then firstE (badS l) l else (if (if s.1 = 1 /\ firstS s < hiS (l.take i) then (12 : Int) else 0) = 0 then ph1 size (l.take i ++ [s]) (l.drop (i + 1)) else (if s.1 = 1 /\ firstS s < hiS (l.take i) then (12 : Int) else 0))) : Option Int)
           = some (if (if s.1 = 1 /\ firstS s < hiS (l.take i) then (12 : Int) else 0) = 0 then (if ph1 size (l.take i ++ [s]) (l.drop (i + 1)) = 0 then firstE (badS l) l else ph1 size (l.take i ++ [s]) (l.drop (i + 1))) else 12) := by
        by_cases hc : s.1 = 1 /\ firstS s < hiS (l.take i)
        · rw [if_pos hc]; simp
        · rw [if_neg hc]; simp
       rw [fin]
       cases A
       · rw [if_neg (by simp)]; exact key false rfl
       · have hsg : singS s.1 = false := by
          cases hq : singS s.1
          · rfl
          · exact absurd ⟨hq, rfl⟩ hdup
         rw [if_pos rfl, bd_eq (single_eq s), hsg]; exact key false rfl
   · have hE : errS size (l.take i) s = oneS size s := by unfold errS; rw [if_pos ho]
     rw [if_pos (by simpa using ho), hE, if_neg ho, if_neg ho]
 · obtain rfl : i = l.length := by omega
   rw [dif_ge (Nat.le_refl _), if_neg (by simp), List.drop_length]
   rw [if_pos (show ph1 size (l.take l.length) [] = 0 from rfl), jn_eq]
   refine scan l hl (badS l) ?_ ?_
   · intro i rec hi
     have hm := List.getElem_mem hi
     rw [dif_lt hi, if_pos rfl, gd_pos (by omega), jn_eq, gt_nat hi, i64s (by omega)]
     generalize l[i] = s at hm ⊢
     rw [show (s.1, s.2.1, s.2.2.1, s.2.2.2.1, s.2.2.2.2.1, s.2.2.2.2.2.1, s.2.2.2.2.2.2) = s from rfl, bd_eq (single_eq s)]
     unfold badS
     cases hsg : singS s.1
     · simp
     · rw [if_pos rfl, bd_eq (within_eq hl hw hz hP hm (sing_ne hsg).1)]
       by_cases h0 : s.2.2.2.2.1 = 0
       · simp [h0]
       · cases hwn : l.any (winS s) <;> simp [h0]
   · intro rec
     rw [dif_ge (Nat.le_refl _), if_neg (by simp)]
theorem ph1_zero {size : Int} {l : List Seg} : ∀ (n i : Nat), l.length - i = n -> ph1 size (l.take i) (l.drop i) = 0 -> ∀ k, i <= k -> (h : k < l.length) -> errS size (l.take k) l[k] = 0 := by
 intro n
 induction n with
 | zero => intro i hn _ k hk h; omega
 | succ n ih =>
  intro i hn hp k hk h
  have hi : i < l.length := by omega
  rw [ph1_drop size hi] at hp
  by_cases he : errS size (l.take i) l[i] = 0
  · rw [if_pos he] at hp
    by_cases e : k = i
    · subst e; exact he
    · exact ih (i + 1) (by omega) hp k (by omega) h
  · rw [if_neg he] at hp; exact absurd hp he
structure GoodL (size : Int) (l : List Seg) : Prop where
 one : ∀ s ∈ l, oneS size s = 0
 asc : ∀ k (h : k < l.length), l[k].1 = 1 -> hiS (l.take k) <= firstS l[k]
theorem good_of {size : Int} {l : List Seg} (h : checkSS size l = 0) : GoodL size l := by
 have hp : ph1 size [] l = 0 := by
  unfold checkSS at h
  by_cases hp : ph1 size [] l = 0
  · exact hp
  · rw [if_neg hp] at h; exact absurd h hp
 have hk := fun k (h : k < l.length) => ph1_zero (size := size) (l := l) _ 0 rfl hp k (Nat.zero_le _) h
 constructor
 · intro s hs
   obtain ⟨k, h, rfl⟩ := List.mem_iff_getElem.1 hs
   exact errS_one (hk k h)
 · intro k h h1
   have he := hk k h
   have ho := errS_one he
   unfold errS at he
   rw [if_neg (by simp [ho])] at he
   split at he
   · simp at he
   · split at he
     · simp at he
     · rename_i hc
       have : ¬ firstS l[k] < hiS (l.take k) := fun hf => hc ⟨h1, hf⟩
       omega
end Dm

namespace Dm
open Go
open IntKind (u64 i64 u8 u32)
abbrev Sym := Int × Int × Int × Int × Int × Int
abbrev Wf06 (y : Sym) : Prop := InK .u32 y.1 /\ InK .u8 y.2.1 /\ InK .u8 y.2.2.1 /\ InK .u16 y.2.2.2.1 /\ InK .u64 y.2.2.2.2.1 /\ InK .u64 y.2.2.2.2.2
def yput (s : Sym) : List Int := leB 4 s.1 ++ (leB 1 s.2.1 ++ (leB 1 s.2.2.1 ++ (leB 2 s.2.2.2.1 ++ (leB 8 s.2.2.2.2.1 ++ leB 8 s.2.2.2.2.2))))
theorem yput_length (s : Sym) : (yput s).length = 24 := by simp only [yput, List.length_append, leB_length]
theorem yput_bytes (s : Sym) : Bytes (yput s) := (leB_bytes _ _).append ((leB_bytes _ _).append ((leB_bytes _ _).append ((leB_bytes _ _).append ((leB_bytes _ _).append (leB_bytes _ _)))))
theorem Put_1_eq {x : Int} {n : Nat} (hn : n = 1 \/ n = 2 \/ n = 4 \/ n = 8) {q : List Int} (hq : q.length <= 1000) : symbols_Put_1 x (n : Int) q = some (q ++ leB n x) := by
 unfold symbols_Put_1
 rw [gd_pos (by omega), Int.toNat_natCast, bd_eq (set_whole hn x)]
 dsimp only
 rw [gd_pos (by rw [leB_length]; omega)]
theorem symbols_Put_eq {s : Sym} (hx : Wf06 s) : symbols_Put s = some (yput s) := by
 obtain ⟨a, b, c, d, e, f⟩ := s
 have h1 := inK_u32 hx.1
 have h2 := inK_u8 hx.2.1
 have h3 := inK_u8 hx.2.2.1
 have h4 := inK_u16 hx.2.2.2.1
 simp only at h1 h2 h3 h4
 have e1 : u64.wrap a = a := u64w (by omega)
 have e2 : u64.wrap b = b := u64w (by omega)
 have e3 : u64.wrap c = c := u64w (by omega)
 have e4 : u64.wrap d = d := u64w (by omega)
 have P : ∀ (n : Nat) (x : Int) (q : List Int), n = 1 \/ n = 2 \/ n = 4 \/ n = 8 -> q.length <= 1000 -> symbols_Put_1 x (n : Int) q = some (q ++ leB n x) := fun n x q h1 h2 => Put_1_eq h1 h2
 unfold symbols_Put yput
 simp only [e1, e2, e3, e4]
 rw [bd_eq (show symbols_Put_1 a 4 [] = _ from P 4 a [] (by omega) (by simp))]
 rw [bd_eq (show symbols_Put_1 b 1 _ = _ from P 1 b _ (by omega) (by simp [leB_length]))]
 rw [bd_eq (show symbols_Put_1 c 1 _ = _ from P 1 c _ (by omega) (by simp [leB_length]))]
 rw [bd_eq (show symbols_Put_1 d 2 _ = _ from P 2 d _ (by omega) (by simp [leB_length]))]
 rw [bd_eq (show symbols_Put_1 e 8 _ = _ from P 8 e _ (by omega) (by simp [leB_length]))]
 rw [bd_eq (show symbols_Put_1 f 8 _ = _ from P 8 f _ (by omega) (by simp [leB_length]))]
 simp only [List.nil_append, List.append_assoc]
theorem Bind_eq {s : Sym} (h : InK .u8 s.2.1) : symbols_Bind s = some (s.2.1 / 16) := by
 have h := inK_u8 h
 have e : shr .u8 s.2.1 4 = s.2.1 / 16 := by
  unfold shr; rw [Int.fdiv_eq_ediv_of_nonneg _ (Int.pow_nonneg (by omega))]; rfl
 unfold symbols_Bind
 rw [e, i64w (by omega)]
theorem Kind_eq {s : Sym} (h : InK .u8 s.2.1) : symbols_Kind s = some (s.2.1 % 16) := by
 have h := inK_u8 h
 have e : band .u8 s.2.1 15 = s.2.1 % 16 := by
  obtain ⟨n, hn⟩ := Int.eq_ofNat_of_zero_le h.1
  rw [hn, band_nat .u8 rfl (by omega) (by simp [IntKind.bits]; omega) (by omega) (by simp [IntKind.bits])]
  have : n &&& 15 = n % 16 := Nat.and_two_pow_sub_one_eq_mod n 4
  rw [Int.toNat_natCast, show (15 : Int).toNat = 15 from rfl, this]; omega
 unfold symbols_Kind
 rw [e, i64w (by omega)]
def sym (b : List Int) (p : Nat) : Sym := (le (cu b p 4), le (cu b (p + 4) 1), le (cu b (p + 5) 1), le (cu b (p + 6) 2), le (cu b (p + 8) 8), le (cu b (p + 16) 8))
def tabY (b : List Int) : List Sym := (List.range (b.length / 24)).map fun k => sym b (24 * k)
theorem tmod24y (n : Nat) : Int.tmod (n : Int) 24 = ((n % 24 : Nat) : Int) := by rw [Int.tmod_eq_emod_of_nonneg (by omega)]; omega
theorem cu_take {b : List Int} {m p n : Nat} (h : p + n <= m) : cu (b.take m) p n = cu b p n := by
 unfold cu; rw [List.drop_take, List.take_take]; congr 1; omega
theorem symbols_one_eq {b : List Int} (hb : b.length <= 9223372036854775807) (hB : Bytes b) (h : 24 <= b.length) : symbols_one b = some (sym b 0) := by
 have G : ∀ (p n : Nat), n = 1 \/ n = 2 \/ n = 4 \/ n = 8 -> p + n <= b.length -> symbols_one_1 (p : Int) (n : Int) b = some (le (cu b p n)) := fun p n hn hp => by
  unfold symbols_one_1; rw [bd_eq (get_cu hb hB hn hp)]
 have b0 := cu_bd (n := 4) hB (show 0 + 4 <= b.length by omega)
 have b1 := cu_bd (n := 1) hB (show 4 + 1 <= b.length by omega)
 have b2 := cu_bd (n := 1) hB (show 5 + 1 <= b.length by omega)
 have b3 := cu_bd (n := 2) hB (show 6 + 2 <= b.length by omega)
 unfold symbols_one
 rw [bd_eq (show symbols_one_1 0 4 b = _ from G 0 4 (by omega) (by omega)), bd_eq (show symbols_one_1 4 1 b = _ from G 4 1 (by omega) (by omega)), bd_eq (show symbols_one_1 5 1 b = _ from G 5 1 (by omega) (by omega)),
  bd_eq (show symbols_one_1 6 2 b = _ from G 6 2 (by omega) (by omega)), bd_eq (show symbols_one_1 8 8 b = _ from G 8 8 (by omega) (by omega)), bd_eq (show symbols_one_1 16 8 b = _ from G 16 8 (by omega) (by omega)), u32w (by omega), u8w (by omega), u8w (by omega), u16w (by omega)]
 rfl
theorem symbols_Table_eq {b : List Int} (hb : b.length <= 100000) (hB : Bytes b) : symbols_Table b = some (if b.length % 24 = 0 then (tabY b, 0) else ([], 10)) := by
 unfold symbols_Table tabY
 rw [tmod24y]
 by_cases hm : b.length % 24 = 0
 · rw [hm, if_neg (by simp), if_pos rfl, jn_eq]
   refine loop_at (fun i => (b.drop (24 * i), (List.range i).map fun k => sym b (24 * k))) (b.length / 24) (by simp) (by omega) ?_
   intro i rec hi hrec
   dsimp only at hrec ⊢
   have hdl : (b.drop (24 * i)).length = b.length - 24 * i := List.length_drop
   by_cases hlt : i < b.length / 24
   · have hrec := hrec hlt
     have h24 : 24 * i + 24 <= b.length := by omega
     have hc : cutL (b.drop (24 * i)) 0 24 = (b.drop (24 * i)).take 24 := by unfold cutL; rfl
     have hd : cutL (b.drop (24 * i)) 24 (((b.drop (24 * i)).length : Nat) : Int) = b.drop (24 * (i + 1)) := by
      unfold cutL; rw [Int.toNat_natCast, List.take_length, show (24 : Int).toNat = 24 from rfl, List.drop_drop]; rfl
     have hl : ((b.drop (24 * i)).take 24).length = 24 := by rw [List.length_take]; omega
     have hs : sym ((b.drop (24 * i)).take 24) 0 = sym b (24 * i) := by
      unfold sym
      rw [cu_take (by omega), cu_take (by omega), cu_take (by omega), cu_take (by omega), cu_take (by omega), cu_take (by omega), cu_drop, cu_drop, cu_drop, cu_drop, cu_drop, cu_drop]; rfl
     rw [List.range_succ, List.map_append] at hrec
     rw [if_pos (by rw [decide_eq_true_eq]; omega), gd_pos (by omega), hc, bd_eq (symbols_one_eq (by omega) ((hB.drop _).take _) (by omega)), hs, gd_pos (by simp; omega), gd_pos (by omega), hd]
     exact hrec
   · obtain rfl : i = b.length / 24 := by omega
     rw [if_neg (by rw [decide_eq_true_eq]; omega)]
 · have h1 : ((b.length % 24 : Nat) : Int) ≠ 0 := by omega
   rw [if_pos (bne_iff_ne.2 h1), if_neg hm]
def kOk (k : Int) : Bool := k == 0 || (k == 1 || (k == 2 || k == 6))
def free06 (s : Sym) : Bool := s.2.2.2.1 != 0 || (s.2.2.2.2.1 == 0 && (s.2.2.2.2.2 == 0 && s.2.1 / 16 != 0))
def mayY (s : Sym) : Bool := decide (s.2.1 / 16 <= 2) && (kOk (s.2.1 % 16) && (s.2.2.1 == 0 && (decide (s.2.2.2.1 <= 1) && (s.1 != 0 && free06 s))))
def nilY (s : Sym) : Bool := s.1 == 0 && (s.2.1 == 0 && (s.2.2.1 == 0 && (s.2.2.2.1 == 0 && (s.2.2.2.2.1 == 0 && s.2.2.2.2.2 == 0))))
def errY (s : Sym) : Int := if mayY s then 0 else 11
def chkY : List Sym -> Int
 | [] => 0
 | s :: l => if nilY s then firstE errY l else 11
theorem Contains4 (k : Int) : slices_Contains_int_int ([0, 1, 2, 6] : List Int) k = some (kOk k) := by
 have h : slices_Index_int_int ([0, 1, 2, 6] : List Int) k = some (ixN 0 (fI (fun x => k == x) [0, 1, 2, 6])) := by
  unfold slices_Index_int_int
  rw [jn_eq]
  refine scan_ix _ (by simp) _ ?_ ?_
  · intro i rec hi
    rw [dif_lt hi, if_pos rfl, gd_pos (by omega), gt_nat hi, i64s (by simp at hi; omega)]
  · intro rec
    rw [dif_ge (Nat.le_refl _), if_neg (by simp)]
 unfold slices_Contains_int_int
 rw [h, some_bind, ixN_ge, fI_isSome]
 simp [kOk]
theorem symbols_may_eq {s : Sym} (hx : Wf06 s) : symbols_may s = some (mayY s) := by
 obtain ⟨a, b, c, d, e, f⟩ := s
 have hb : symbols_Bind (a, b, c, d, e, f) = some (b / 16) := Bind_eq hx.2.1
 have hk : symbols_Kind (a, b, c, d, e, f) = some (b % 16) := Kind_eq hx.2.1
 have hd : symbols_Defined (a, b, c, d, e, f) = some (d != 0) := rfl
 unfold symbols_may mayY free06
 simp only [jn_eq, let1_eq, hb, hk, hd, some_bind, Contains4]
 cases decide (b / 16 <= 2) <;> cases kOk (b % 16) <;> cases (c == 0) <;> cases decide (d <= 1) <;> cases (a != 0) <;> cases (d != 0) <;> cases (e == 0) <;> cases (f == 0) <;> rfl
theorem chkY_loop (l : List Sym) (hl : l.length <= 9223372036854775807) {body : Int -> (Int -> Option Int) -> Option Int}
    (h : ∀ (i : Nat) rec (hi : i < l.length), body (i : Int) rec = if (if i = 0 then nilY l[i] else mayY l[i]) then rec ((i + 1 : Nat) : Int) else some 11)
    (h1 : ∀ rec, body (l.length : Int) rec = some 0) : loopK body bigF 0 = some (chkY l) := by
 refine loop_to (fun i => (i : Int)) (fun i => some (if i = 0 then chkY l else firstE errY (l.drop i))) l.length rfl rfl hl ?_
 intro i rec hi hrec
 by_cases hlt : i < l.length
 · rw [h i rec hlt]
   by_cases h0 : i = 0
   · subst h0
     rw [if_pos rfl, if_pos rfl]
     cases l with
     | nil => simp at hlt
     | cons x xs =>
      rw [if_neg (by omega)] at hrec
      have hr : rec ((0 + 1 : Nat) : Int) = some (firstE errY xs) := hrec hlt
      rw [hr]
      show (if nilY x = true then some (firstE errY xs) else some 11) = some (if nilY x = true then firstE errY xs else 11)
      cases nilY x <;> rfl
   · rw [if_neg h0, if_neg h0, firstE_drop errY l hlt, errY]
     rw [if_neg (by omega)] at hrec
     cases hm : mayY l[i]
     · simp
     · rw [if_pos rfl, if_pos rfl, if_pos rfl]; exact hrec hlt
 · obtain rfl : i = l.length := by omega
   rw [h1]
   by_cases h0 : l.length = 0
   · obtain rfl := List.length_eq_zero_iff.1 h0; rfl
   · rw [if_neg h0, List.drop_length]; rfl
theorem symbols_Check_eq {l : List Sym} (hl : l.length <= 1000000) (hw : ∀ s ∈ l, Wf06 s) : symbols_Check l = some (chkY l) := by
 unfold symbols_Check
 rw [jn_eq]
 refine chkY_loop l (by omega) ?_ ?_
 · intro i rec hi
   rw [dif_lt hi, if_pos rfl, gd_pos (by omega), jn_eq, gt_nat hi, i64s (by omega)]
   have hm := symbols_may_eq (hw _ (List.getElem_mem hi))
   by_cases h0 : i = 0
   · subst h0
     rw [if_pos (c := (((0 : Nat) : Int) == 0) = true) rfl, if_pos (c := (0 : Nat) = 0) rfl]
     unfold nilY
     generalize (l[0].1 == 0 && (l[0].2.1 == 0 && (l[0].2.2.1 == 0 && (l[0].2.2.2.1 == 0 && (l[0].2.2.2.2.1 == 0 && l[0].2.2.2.2.2 == 0))))) = x
     cases x <;> rfl
   · have e0 : ((i : Int) == 0) = false := by simp; omega
     have e1 : decide ((i : Int) > 0) = true := by simp; omega
     rw [e0, e1, if_neg (c := (false = true)) (by simp), if_pos (c := (true = true)) rfl, if_neg (c := i = 0) h0, hm, some_bind]
     cases mayY l[i] <;> rfl
 · intro rec
   rw [dif_ge (Nat.le_refl _), if_neg (by simp)]
end Dm

namespace Dm
open Go
def kOf (t : Int) : Nat := if t = 14 then 0 else if t = 5 then 1 else if t = 10 then 2 else if t = 6 then 3 else if t = 1610612749 then 4 else if t = 7 then 5 else if t = 8 then 6 else 7
theorem kOf_le (t : Int) : kOf t <= 7 := by unfold kOf; split <;> (try omega); split <;> (try omega); split <;> (try omega); split <;> (try omega); split <;> (try omega); split <;> (try omega); split <;> omega
abbrev Dvs := List (Option Int)
def dsome (v : Dvs) (k : Nat) : Bool := (v.getD k none).isSome
def dfin (v : Dvs) : Bool := dsome v 1 && (dsome v 2 && (dsome v 3 == dsome v 4 && dsome v 5 == dsome v 6))
def dval (v : Dvs) (k : Nat) : Int := (v.getD k none).getD 0
def dyn0 : Dvs := [none, none, none, none, none, none, none]
def dynF (b : List Int) : Nat -> Nat -> List Int -> Dvs -> (List Int × Dvs) × Int
 | 0, _, _, _ => (([], dyn0), 10)
 | F + 1, p, nd, v =>
  if p + 16 > b.length then (([], dyn0), 10)
  else if le (cu b p 8) = 0 then (if dfin v then ((nd, v), 0) else (([], dyn0), 11))
  else if le (cu b p 8) = 1 then dynF b F (p + 16) (nd ++ [le (cu b (p + 8) 8)]) v
  else if kOf (le (cu b p 8)) = 7 then (([], dyn0), 11)
  else if dsome v (kOf (le (cu b p 8))) then (([], dyn0), 12)
  else dynF b F (p + 16) nd (v.set (kOf (le (cu b p 8))) (some (le (cu b (p + 8) 8))))
theorem dynF_eq (b : List Int) : ∀ (F p : Nat) (nd : List Int) (v : Dvs), b.length < p + F -> ∀ F', b.length < p + F' -> dynF b F p nd v = dynF b F' p nd v := by
 intro F
 induction F with
 | zero =>
  intro p nd v h F' h'
  cases F' with
  | zero => rfl
  | succ F' => rw [dynF, dynF, if_pos (by omega)]
 | succ F ih =>
  intro p nd v h F' h'
  cases F' with
  | zero => rw [dynF, dynF, if_pos (by omega)]
  | succ F' =>
   rw [dynF, dynF, ih (p + 16) _ _ (by omega) F' (by omega), ih (p + 16) _ _ (by omega) F' (by omega)]
def dynT (b : List Int) (p : Nat) (nd : List Int) (v : Dvs) : (List Int × Dvs) × Int := dynF b (b.length + 1 - p) p nd v
theorem dynT_step {b : List Int} {p : Nat} (h : p + 16 <= b.length) (nd : List Int) (v : Dvs) : dynT b p nd v =
    if le (cu b p 8) = 0 then (if dfin v then ((nd, v), 0) else (([], dyn0), 11))
    else if le (cu b p 8) = 1 then dynT b (p + 16) (nd ++ [le (cu b (p + 8) 8)]) v
    else if kOf (le (cu b p 8)) = 7 then (([], dyn0), 11)
    else if dsome v (kOf (le (cu b p 8))) then (([], dyn0), 12)
    else dynT b (p + 16) nd (v.set (kOf (le (cu b p 8))) (some (le (cu b (p + 8) 8)))) := by
 unfold dynT
 rw [show b.length + 1 - p = (b.length - p) + 1 by omega, dynF, if_neg (by omega), dynF_eq b (b.length - p) (p + 16) _ _ (by omega) (b.length + 1 - (p + 16)) (by omega), dynF_eq b (b.length - p) (p + 16) _ _ (by omega) (b.length + 1 - (p + 16)) (by omega)]
theorem dynT_end {b : List Int} {p : Nat} (h : b.length < p + 16) (nd : List Int) (v : Dvs) : dynT b p nd v = (([], dyn0), 10) := by
 unfold dynT
 cases hF : b.length + 1 - p with
 | zero => rw [dynF]
 | succ F => rw [dynF, if_pos (by omega)]
def dynG (b : List Int) : (List Int × Dvs) × Int := dynT b 0 [] dyn0
end Dm

namespace Dm
open Go
open IntKind (u64 i64 u8 u32)
abbrev Inf := List Int × Int × Int × Int × Int × Int × Int × Int
def infOf (x : List Int × Dvs) : Inf := (x.1, dval x.2 0, dval x.2 1, dval x.2 2, dval x.2 3, dval x.2 4, dval x.2 5, dval x.2 6)
theorem kOf_iff (t : Int) : (kOf t = 0 ↔ t = 14) /\ (kOf t = 1 ↔ t = 5) /\ (kOf t = 2 ↔ t = 10) /\ (kOf t = 3 ↔ t = 6) /\ (kOf t = 4 ↔ t = 1610612749) /\ (kOf t = 5 ↔ t = 7) /\ (kOf t = 6 ↔ t = 8) := by
 unfold kOf
 by_cases h0 : t = 14
 · subst h0; decide
 by_cases h1 : t = 5
 · subst h1; decide
 by_cases h2 : t = 10
 · subst h2; decide
 by_cases h3 : t = 6
 · subst h3; decide
 by_cases h4 : t = 1610612749
 · subst h4; decide
 by_cases h5 : t = 7
 · subst h5; decide
 by_cases h6 : t = 8
 · subst h6; decide
 simp [h0, h1, h2, h3, h4, h5, h6]
def seenK (seen : List (Int × Bool)) (v : Dvs) : Prop := ∀ t, kOf t < 7 -> (mpGet seen t).getD false = dsome v (kOf t)
theorem dsome_set {v : Dvs} (hv : v.length = 7) {k j : Nat} (hk : k < 7) (x : Int) : dsome (v.set k (some x)) j = if j = k then true else dsome v j := by
 unfold dsome
 by_cases h : j = k
 · subst h; rw [if_pos rfl, List.getD_eq_getElem?_getD, List.getElem?_set_self (by omega)]; rfl
 · rw [if_neg h, List.getD_eq_getElem?_getD, List.getElem?_set_ne (fun e => h e.symm), <- List.getD_eq_getElem?_getD]
theorem kOf_inj {t t' : Int} (h : kOf t < 7) (e : kOf t' = kOf t) : t' = t := by
 have a := kOf_iff t
 have b := kOf_iff t'
 have : kOf t = 0 \/ kOf t = 1 \/ kOf t = 2 \/ kOf t = 3 \/ kOf t = 4 \/ kOf t = 5 \/ kOf t = 6 := by omega
 rcases this with h | h | h | h | h | h | h
 · rw [a.1.1 h, b.1.1 (by omega)]
 · rw [a.2.1.1 h, b.2.1.1 (by omega)]
 · rw [a.2.2.1.1 h, b.2.2.1.1 (by omega)]
 · rw [a.2.2.2.1.1 h, b.2.2.2.1.1 (by omega)]
 · rw [a.2.2.2.2.1.1 h, b.2.2.2.2.1.1 (by omega)]
 · rw [a.2.2.2.2.2.1.1 h, b.2.2.2.2.2.1.1 (by omega)]
 · rw [a.2.2.2.2.2.2.1 h, b.2.2.2.2.2.2.1 (by omega)]
theorem seenK_put {seen : List (Int × Bool)} {v : Dvs} (hv : v.length = 7) (hs : seenK seen v) {t : Int} (ht : kOf t < 7) (x : Int) : seenK (mpPut seen t true) (v.set (kOf t) (some x)) := by
 intro t' ht'
 rw [mpGet_put, dsome_set hv ht]
 by_cases h : t' = t
 · subst h; simp
 · rw [if_neg (by simpa using h), if_neg (fun e => h (kOf_inj ht e)), hs t' ht']
theorem seven {v : Dvs} (hv : v.length = 7) : ∃ a0 a1 a2 a3 a4 a5 a6, v = [a0, a1, a2, a3, a4, a5, a6] := by
 match v, hv with
 | [a0, a1, a2, a3, a4, a5, a6], _ => exact ⟨a0, a1, a2, a3, a4, a5, a6, rfl⟩
theorem insB_nat {b : List Int} {p n : Nat} : insB b.length (p : Int) (n : Int) = decide (p + n <= b.length) := by
 unfold insB
 rw [Bool.eq_iff_iff]
 simp
 omega
theorem getS8 {b : List Int} {p : Nat} : getS b (p : Int) 8 = if p + 8 <= b.length then (le (cu b p 8), 0) else (0, 10) := by
 have h := @insB_nat b p 8
 unfold getS
 rw [if_pos (by rfl)]
 rw [show ((8 : Nat) : Int) = 8 from rfl] at h
 rw [h]
 by_cases hp : p + 8 <= b.length
 · rw [if_pos (by simpa using hp), if_pos hp]; rfl
 · rw [if_neg (by simpa using hp), if_neg hp]
theorem seenK_nil : seenK [] dyn0 := by
 intro t ht
 have : kOf t = 0 \/ kOf t = 1 \/ kOf t = 2 \/ kOf t = 3 \/ kOf t = 4 \/ kOf t = 5 \/ kOf t = 6 := by omega
 rcases this with h | h | h | h | h | h | h <;> rw [h] <;> rfl
theorem dynamic_Get_eq {b : List Int} (hb : b.length <= 100000) (hB : Bytes b) : dynamic_Get b = some (infOf (dynG b).1, (dynG b).2) := by
 unfold dynamic_Get
 rw [jn_eq]
 refine loop_run (r := some (infOf (dynG b).1, (dynG b).2)) (fun s => ∃ (p : Nat) (nd : List Int) (v : Dvs) (seen : List (Int × Bool)), s = ((p : Int), seen, infOf (nd, v)) /\ v.length = 7 /\ seenK seen v /\ nd.length <= p /\ p <= b.length + 16 /\ dynT b p nd v = dynG b)
  (fun s => b.length + 16 - s.1.toNat) ?_ bigF _ ⟨0, [], dyn0, [], rfl, rfl, seenK_nil, Nat.le_refl _, by omega, rfl⟩ (lt_bigF (by simp; omega))
 rintro _ rec ⟨p, nd, v, seen, rfl, hv, hs, hnd, hp, hT⟩ hrec
 obtain ⟨a0, a1, a2, a3, a4, a5, a6, rfl⟩ := seven hv
 rw [jn_eq]
 dsimp only [infOf, dval]
 have e8 : u64.wrap ((p : Int) + 8) = ((p + 8 : Nat) : Int) := by rw [u64w (by omega)]; omega
 have e16 : u64.wrap ((p : Int) + 16) = ((p + 16 : Nat) : Int) := by rw [u64w (by omega)]; omega
 rw [e8, bd_eq (octets_Get_eq (by omega) hB (by omega)), bd_eq (octets_Get_eq (by omega) hB (by omega)), jn_eq]
 by_cases hq : p + 16 <= b.length
 · have g1 : getS b (p : Int) 8 = (le (cu b p 8), 0) := by rw [getS8, if_pos (by omega)]
   have g2 : getS b ((p + 8 : Nat) : Int) 8 = (le (cu b (p + 8) 8), 0) := by rw [getS8, if_pos (by omega)]
   rw [g1, g2]
   dsimp only
   rw [if_neg (by decide), if_neg (by decide)]
   rw [dynT_step hq] at hT
   by_cases h0 : le (cu b p 8) = 0
   · rw [if_pos h0] at hT
     rw [if_pos (by simpa using h0), jn_eq]
     dsimp only
     have f5 : (mpGet seen 5).getD false = dsome [a0, a1, a2, a3, a4, a5, a6] 1 := hs 5 (by decide)
     have f10 : (mpGet seen 10).getD false = dsome [a0, a1, a2, a3, a4, a5, a6] 2 := hs 10 (by decide)
     have f6 : (mpGet seen 6).getD false = dsome [a0, a1, a2, a3, a4, a5, a6] 3 := hs 6 (by decide)
     have fn : (mpGet seen 1610612749).getD false = dsome [a0, a1, a2, a3, a4, a5, a6] 4 := hs 1610612749 (by decide)
     have f7 : (mpGet seen 7).getD false = dsome [a0, a1, a2, a3, a4, a5, a6] 5 := hs 7 (by decide)
     have f8 : (mpGet seen 8).getD false = dsome [a0, a1, a2, a3, a4, a5, a6] 6 := hs 8 (by decide)
     rw [f5, f10, f6, fn, f7, f8, <- hT]
     unfold dfin
     cases dsome [a0, a1, a2, a3, a4, a5, a6] 1
     · rfl
     cases dsome [a0, a1, a2, a3, a4, a5, a6] 2
     · rfl
     cases (dsome [a0, a1, a2, a3, a4, a5, a6] 3 == dsome [a0, a1, a2, a3, a4, a5, a6] 4)
     · rfl
     cases (dsome [a0, a1, a2, a3, a4, a5, a6] 5 == dsome [a0, a1, a2, a3, a4, a5, a6] 6)
     · rfl
     rfl
   · rw [if_neg h0] at hT
     rw [if_neg (by simpa using h0)]
     have hk := kOf_iff (le (cu b p 8))
     generalize le (cu b p 8) = t at h0 hT hk ⊢
     generalize le (cu b (p + 8) 8) = x at hT ⊢
     by_cases h1 : t = 1
     · subst h1
       rw [if_pos rfl] at hT
       have hr := hrec (((p + 16 : Nat) : Int), seen, infOf (nd ++ [x], [a0, a1, a2, a3, a4, a5, a6])) ⟨p + 16, nd ++ [x], _, seen, rfl, rfl, hs, by rw [List.length_append, List.length_singleton]; omega, by omega, hT⟩ (by dsimp only; omega)
       rw [if_neg (by decide), if_neg (by decide), if_neg (by decide), if_neg (by decide), if_neg (by decide), if_neg (by decide), if_neg (by decide), if_pos (by decide)]
       refine (gd_pos (by show (nd.length + 1) * 8 <= _; omega)).trans ?_
       rw [let1_eq, e16]
       exact hr
     · rw [if_neg h1] at hT
       by_cases hk7 : kOf t = 7
       · rw [if_pos hk7] at hT
         rw [<- hT, if_neg (by simp; omega), if_neg (by simp; omega), if_neg (by simp; omega), if_neg (by simp; omega), if_neg (by simp; omega), if_neg (by simp; omega), if_neg (by simp; omega), if_neg (by simp; omega)]
         rfl
       · rw [if_neg hk7] at hT
         have hk8 := kOf_le t
         have hlt : kOf t < 7 := by omega
         have hsn := hs t hlt
         by_cases hd : dsome [a0, a1, a2, a3, a4, a5, a6] (kOf t) = true
         · rw [if_pos hd] at hT
           rw [hd] at hsn
           have : t = 14 \/ t = 5 \/ t = 10 \/ t = 6 \/ t = 1610612749 \/ t = 7 \/ t = 8 := by omega
           rw [<- hT]
           rcases this with rfl | rfl | rfl | rfl | rfl | rfl | rfl <;> simp only [show ∀ a b : Int, (a == b) = decide (a = b) from fun _ _ => rfl] <;> simp [hsn, infOf, dval, dyn0]
         · rw [if_neg hd] at hT
           have hd : dsome [a0, a1, a2, a3, a4, a5, a6] (kOf t) = false := by simpa using hd
           rw [hd] at hsn
           have hr := hrec (((p + 16 : Nat) : Int), mpPut seen t true, infOf (nd, List.set [a0, a1, a2, a3, a4, a5, a6] (kOf t) (some x))) ⟨p + 16, nd, _, _, rfl, by rw [List.length_set]; rfl, seenK_put rfl hs hlt x, by omega, by omega, hT⟩ (by dsimp only; omega)
           have : t = 14 \/ t = 5 \/ t = 10 \/ t = 6 \/ t = 1610612749 \/ t = 7 \/ t = 8 := by omega
           rcases this with rfl | rfl | rfl | rfl | rfl | rfl | rfl
           · rw [if_pos (by decide), if_neg (by decide), if_neg (by rw [hsn]; decide), let1_eq, e16]; exact hr
           · rw [if_neg (by decide), if_pos (by decide), if_neg (by decide), if_neg (by rw [hsn]; decide), let1_eq, e16]; exact hr
           · rw [if_neg (by decide), if_neg (by decide), if_pos (by decide), if_neg (by decide), if_neg (by rw [hsn]; decide), let1_eq, e16]; exact hr
           · rw [if_neg (by decide), if_neg (by decide), if_neg (by decide), if_pos (by decide), if_neg (by decide), if_neg (by rw [hsn]; decide), let1_eq, e16]; exact hr
           · rw [if_neg (by decide), if_neg (by decide), if_neg (by decide), if_neg (by decide), if_pos (by decide), if_neg (by decide), if_neg (by rw [hsn]; decide), let1_eq, e16]; exact hr
           · rw [if_neg (by decide), if_neg (by decide), if_neg (by decide), if_neg (by decide), if_neg (by decide), if_pos (by decide), if_neg (by decide), if_neg (by rw [hsn]; decide), let1_eq, e16]; exact hr
           · rw [if_neg (by decide), if_neg (by decide), if_neg (by decide), if_neg (by decide), if_neg (by decide), if_neg (by decide), if_pos (by decide), if_neg (by decide), if_neg (by rw [hsn]; decide), let1_eq, e16]; exact hr
 · rw [dynT_end (by omega)] at hT
   rw [<- hT]
   have g2 : getS b ((p + 8 : Nat) : Int) 8 = (0, 10) := by rw [getS8, if_neg (by omega)]
   by_cases h8 : p + 8 <= b.length
   · have g1 : getS b (p : Int) 8 = (le (cu b p 8), 0) := by rw [getS8, if_pos h8]
     rw [g1, g2]
     rfl
   · have g1 : getS b (p : Int) 8 = (0, 10) := by rw [getS8, if_neg h8]
     rw [g1, g2]
     rfl
end Dm

namespace Dm
open Go
open IntKind (u64 i64 u8 u32)
abbrev Rel7 := Int × Int × Int × Int
abbrev Img := (Int × Int × Int × Int) × List Seg × List UInt8 × List (List UInt8) × List (List UInt8) × List Sym × List Rel7 × List Int
abbrev Rdr := Img × Inf × List Int
theorem p256_mono {k n : Nat} (h : k <= n) : (256 : Int) ^ k <= 256 ^ n := by
 have h1 : 256 ^ k <= 256 ^ n := Nat.pow_le_pow_right (by omega) h
 have h2 : ∀ m : Nat, ((256 ^ m : Nat) : Int) = 256 ^ m := fun m => by rw [Int.natCast_pow]; rfl
 rw [<- h2, <- h2]
 exact Int.ofNat_le.2 h1
theorem cu_bdn {b : List Int} (hB : Bytes b) (p n : Nat) : 0 <= le (cu b p n) /\ le (cu b p n) < 256 ^ n := by
 have h := le_bd (hB.cu p n)
 have h2 : (cu b p n).length <= n := by unfold cu; rw [List.length_take]; omega
 have := p256_mono h2
 exact ⟨h.1, by omega⟩
theorem cu1 {b : List Int} (hB : Bytes b) (p : Nat) : InK .u8 (le (cu b p 1)) := by have := cu_bdn hB p 1; exact ⟨this.1, by show _ <= (255 : Int); omega⟩
theorem cu2 {b : List Int} (hB : Bytes b) (p : Nat) : InK .u16 (le (cu b p 2)) := by have := cu_bdn hB p 2; exact ⟨this.1, by show _ <= (65535 : Int); omega⟩
theorem cu4 {b : List Int} (hB : Bytes b) (p : Nat) : InK .u32 (le (cu b p 4)) := by have := cu_bdn hB p 4; exact ⟨this.1, by show _ <= (4294967295 : Int); omega⟩
theorem cu8 {b : List Int} (hB : Bytes b) (p : Nat) : InK .u64 (le (cu b p 8)) := by have := cu_bdn hB p 8; exact ⟨this.1, by show _ <= (18446744073709551615 : Int); omega⟩
theorem wf_sread {b : List Int} (hB : Bytes b) (p : Nat) : Wf04 (sread b p) := ⟨cu4 hB _, cu4 hB _, cu8 hB _, cu8 hB _, cu8 hB _, cu8 hB _, cu8 hB _⟩
theorem wf_seg0 : Wf04 ((0, 0, 0, 0, 0, 0, 0) : Seg) := by decide
theorem wf_tabSS {b : List Int} (hB : Bytes b) (p n : Int) : ∀ s ∈ (tabSS b p n).1, Wf04 s := by
 intro s hs
 unfold tabSS at hs
 split at hs
 · simp at hs
 · split at hs
   · unfold tabO at hs
     split at hs
     · rw [List.mem_map] at hs
       obtain ⟨e, he, rfl⟩ := hs
       unfold entQ at he
       rw [List.mem_map] at he
       obtain ⟨i, _, rfl⟩ := he
       unfold getSS
       split
       · exact wf_seg0
       · split
         · exact wf_sread hB _
         · exact wf_seg0
     · simp at hs
   · simp at hs
theorem wf_tabY {b : List Int} (hB : Bytes b) : ∀ s ∈ tabY b, Wf06 s := by
 intro s hs
 unfold tabY at hs
 rw [List.mem_map] at hs
 obtain ⟨k, _, rfl⟩ := hs
 exact ⟨cu4 hB _, cu1 hB _, cu1 hB _, cu2 hB _, cu8 hB _, cu8 hB _⟩
theorem wf_tabS {b : List Int} (hB : Bytes b) : ∀ s ∈ tabS b, Wf07 s := by
 intro s hs
 unfold tabS at hs
 rw [List.mem_map] at hs
 obtain ⟨k, _, rfl⟩ := hs
 refine ⟨cu8 hB _, cu4 hB _, cu4 hB _, ?_⟩
 have : ∀ n, InK .i64 (i64.wrap n) := fun n => by
  show (-9223372036854775808 : Int) <= _ /\ _ <= (9223372036854775807 : Int)
  rw [wrap_i64]; split <;> omega
 exact this _
theorem len_tabY (b : List Int) : (tabY b).length <= b.length := by unfold tabY; rw [List.length_map, List.length_range]; omega
theorem len_tabS (b : List Int) : (tabS b).length <= b.length := by unfold tabS; rw [List.length_map, List.length_range]; omega
def WfD (x : List Int × Dvs) : Prop := (∀ a ∈ x.1, InK .u64 a) /\ ∀ o ∈ x.2, ∀ y, o = some y -> InK .u64 y
theorem wf_dynF {b : List Int} (hB : Bytes b) : ∀ (F p : Nat) (nd : List Int) (v : Dvs), WfD (nd, v) -> WfD (dynF b F p nd v).1
 | 0, _, _, _, _ => ⟨by intro a h; simp [dynF] at h, by intro o h; simp [dynF, dyn0] at h; subst h; intro y hy; cases hy⟩
 | F + 1, p, nd, v, h => by
  have z : WfD ([], dyn0) := ⟨by intro a h; simp at h, by intro o h; simp [dyn0] at h; subst h; intro y hy; cases hy⟩
  rw [dynF]
  split
  · exact z
  · split
    · split
      · exact h
      · exact z
    · split
      · refine wf_dynF hB F _ _ _ ⟨fun a ha => ?_, h.2⟩
        rcases List.mem_append.1 ha with ha | ha
        · exact h.1 a ha
        · have : a = le (cu b (p + 8) 8) := by simpa using ha
          subst this; exact cu8 hB _
      · split
        · exact z
        · split
          · exact z
          · refine wf_dynF hB F _ _ _ ⟨h.1, fun o ho y hy => ?_⟩
            rcases List.mem_or_eq_of_mem_set ho with ho | ho
            · exact h.2 o ho y hy
            · subst ho; cases hy; exact cu8 hB _
theorem wf_dynG {b : List Int} (hB : Bytes b) : WfD (dynG b).1 := wf_dynF hB _ _ _ _ ⟨by intro a h; simp at h, by intro o h; simp [dyn0] at h; subst h; intro y hy; cases hy⟩
theorem wf_dval {b : List Int} (hB : Bytes b) (k : Nat) : InK .u64 (dval (dynG b).1.2 k) := by
 have h := (wf_dynG hB).2
 have z : InK .u64 (0 : Int) := by decide
 unfold dval
 rw [List.getD_eq_getElem?_getD]
 cases ho : (dynG b).1.2[k]? with
 | none => exact z
 | some o =>
  cases o with
  | none => exact z
  | some y => exact h _ (List.mem_of_getElem? ho) y rfl
theorem dynF_nd (b : List Int) : ∀ (F p : Nat) (nd : List Int) (v : Dvs), (dynF b F p nd v).1.1.length <= nd.length + F
 | 0, _, _, _ => by simp [dynF]
 | F + 1, p, nd, v => by
  rw [dynF]
  split
  · simp
  · split
    · split
      · simp
      · simp
    · split
      · have := dynF_nd b F (p + 16) (nd ++ [le (cu b (p + 8) 8)]) v
        rw [List.length_append, List.length_singleton] at this
        omega
      · split
        · simp
        · split
          · simp
          · have := dynF_nd b F (p + 16) nd (v.set (kOf (le (cu b p 8))) (some (le (cu b (p + 8) 8))))
            omega
theorem len_dynG (b : List Int) : (dynG b).1.1.length <= b.length + 1 := by
 have := dynF_nd b (b.length + 1 - 0) 0 [] dyn0
 simpa [dynG, dynT] using this
theorem scan_st {α ρ σ : Type} (l : List α) (hl : l.length <= 9223372036854775807) (f : α -> Int) (st : Nat -> σ) (fin : Option ρ) (err : Nat -> Int -> Option ρ) {body : σ -> (σ -> Option ρ) -> Option ρ} {s0 : σ} (h0 : s0 = st 0)
    (h : ∀ (i : Nat) rec (hi : i < l.length), body (st i) rec = if f l[i] = 0 then rec (st (i + 1)) else err i (f l[i]))
    (h1 : ∀ rec, body (st l.length) rec = fin) : ∃ k, k < l.length + 1 /\ loopK body bigF s0 = if firstE f l = 0 then fin else err k (firstE f l) := by
 have key : ∀ (F i : Nat), i <= l.length -> l.length - i < F -> ∃ k, k < l.length + 1 /\ loopK body F (st i) = if firstE f (l.drop i) = 0 then fin else err k (firstE f (l.drop i)) := by
  intro F
  induction F with
  | zero => intro i _ hm; omega
  | succ F ih =>
   intro i hi hm
   by_cases hlt : i < l.length
   · rw [loopK, h i _ hlt, firstE_drop f l hlt]
     by_cases hz : f l[i] = 0
     · rw [if_pos hz, if_pos hz]
       exact ih (i + 1) (by omega) (by omega)
     · rw [if_neg hz, if_neg hz]
       exact ⟨i, by omega, by rw [if_neg hz]⟩
   · obtain rfl : i = l.length := by omega
     rw [loopK, h1, List.drop_length]
     exact ⟨0, by omega, rfl⟩
 have := key bigF 0 (by omega) (lt_bigF (by omega))
 rw [List.drop_zero] at this
 rw [h0]; exact this
theorem scan_P {α ρ σ : Type} (P : Option ρ -> Prop) (l : List α) (hl : l.length <= 9223372036854775807) (f : α -> Int) (st : Nat -> σ) (fin : Option ρ) (err : Nat -> Int -> Option ρ) {body : σ -> (σ -> Option ρ) -> Option ρ} {s0 : σ} (h0 : s0 = st 0)
    (hfin : firstE f l = 0 -> P fin) (herr : ∀ k, firstE f l ≠ 0 -> P (err k (firstE f l)))
    (h : ∀ (i : Nat) rec (hi : i < l.length), body (st i) rec = if f l[i] = 0 then rec (st (i + 1)) else err i (f l[i]))
    (h1 : ∀ rec, body (st l.length) rec = fin) : P (loopK body bigF s0) := by
 obtain ⟨k, _, hk⟩ := scan_st l hl f st fin err h0 h h1
 rw [hk]
 by_cases hz : firstE f l = 0
 · rw [if_pos hz]; exact hfin hz
 · rw [if_neg hz]; exact herr k hz
def ldS (addr : Int) (s : Seg) : Bool := s.1 == 1 && (decide (addr >= s.2.2.2.1) && (decide (addr - s.2.2.2.1 <= s.2.2.2.2.2.1) && decide (s.2.2.2.2.2.1 - (addr - s.2.2.2.1) >= 8)))
def relE (l : List Seg) (x : Rel7) : Int := if x.2.1 = 0 \/ l.any (ldS x.1) = true then 0 else 40
def symE (l : List Seg) (s : Sym) : Int :=
 if s.2.2.2.1 = 0 then 0 else if s.2.1 % 16 = 6 then (match findS l 7 with
  | none => 11
  | some k => if s.2.2.2.2.1 > (l.getD k default).2.2.2.2.2.1 then 11 else 0) else if s.2.2.2.2.1 > 4294967296 then 13 else 0
def heldS (l : List Seg) (sy : List Sym) (rl : List Rel7) : Int := if firstE (relE l) rl = 0 then firstE (symE l) sy else firstE (relE l) rl
theorem ld_one {s : Seg} (hw : Wf04 s) {a : Int} (ha : InK .u64 a) : image_reader_loaded_1 s a = some (ldS a s) := by
 obtain ⟨w1, w2, w3, w4, w5, w6, w7⟩ := hw
 have w4 := inK_u64 w4
 have w6 := inK_u64 w6
 have ha := inK_u64 ha
 unfold image_reader_loaded_1 ldS
 rw [jn_eq]
 dsimp only
 cases h1 : s.1 == 1
 · simp
 rw [if_pos rfl]
 by_cases h2 : a >= s.2.2.2.1
 · rw [if_pos (by simpa using h2), show decide (a >= s.2.2.2.1) = true by simpa using h2, u64w (show 0 <= a - s.2.2.2.1 /\ a - s.2.2.2.1 < 18446744073709551616 by omega)]
   by_cases h3 : a - s.2.2.2.1 <= s.2.2.2.2.2.1
   · rw [if_pos (by simpa using h3), show decide (a - s.2.2.2.1 <= s.2.2.2.2.2.1) = true by simpa using h3, u64w (show 0 <= s.2.2.2.2.2.1 - (a - s.2.2.2.1) /\ s.2.2.2.2.2.1 - (a - s.2.2.2.1) < 18446744073709551616 by omega)]
     rfl
   · rw [if_neg (by simpa using h3), show decide (a - s.2.2.2.1 <= s.2.2.2.2.2.1) = false by simpa using h3]; rfl
 · rw [if_neg (by simpa using h2), show decide (a >= s.2.2.2.1) = false by simpa using h2]; rfl
theorem loaded_eq {l : List Seg} (hl : l.length <= 100) (hw : ∀ s ∈ l, Wf04 s) {a : Int} (ha : InK .u64 a) (h : Int × Int × Int × Int) (so : List UInt8) (nd nm : List (List UInt8)) (sy : List Sym) (rl : List Rel7) (b : List Int) (inf : Inf) (tb : List Int) :
    image_reader_loaded ((h, l, so, nd, nm, sy, rl, b), inf, tb) a = some (l.any (ldS a)) := by
 have hI : slices_IndexFunc_api_Seg_api_Seg_reader_loaded_1 l a = some (ixN 0 (fI (ldS a) l)) := by
  unfold slices_IndexFunc_api_Seg_api_Seg_reader_loaded_1
  rw [jn_eq]
  refine scan_ix l (by omega) _ ?_ ?_
  · intro i rec hi
    rw [dif_lt hi, if_pos rfl, gd_pos (by omega), gt_nat hi, bd_eq (ld_one (hw _ (List.getElem_mem hi)) ha), i64s (by omega)]
  · intro rec
    rw [dif_ge (Nat.le_refl _), if_neg (by simp)]
 unfold image_reader_loaded slices_ContainsFunc_api_Seg_api_Seg_reader_loaded_1
 rw [hI, some_bind, some_bind, ixN_ge, fI_isSome]
theorem sound_eq {l : List Seg} (hl : l.length <= 100) (hw : ∀ s ∈ l, Wf04 s) {sy : List Sym} (hsl : sy.length <= 1000000) (hsy : ∀ s ∈ sy, Wf06 s) {rl : List Rel7} (hrn : rl.length <= 1000000) (hrl : ∀ x ∈ rl, Wf07 x) (h : Int × Int × Int × Int) (so : List UInt8) (nd nm : List (List UInt8)) (b : List Int) (inf : Inf) (tb : List Int) :
    image_reader_sound ((h, l, so, nd, nm, sy, rl, b), inf, tb) = some (heldS l sy rl) := by
 unfold image_reader_sound heldS
 rw [jn_eq]
 dsimp only
 refine scan_P (P := fun r => r = some (if firstE (relE l) rl = 0 then firstE (symE l) sy else firstE (relE l) rl)) rl (by omega) (relE l) (fun i => (i : Int)) (some (firstE (symE l) sy)) (fun _ e => some e) rfl (fun hz => by rw [if_pos hz]) (fun _ hz => by rw [if_neg hz]) ?_ ?_
 · intro i rec hi
   rw [dif_lt hi, if_pos rfl]
   refine (gd_pos (by omega)).trans ?_
   rw [jn_eq, gt_nat hi]
   dsimp only
   by_cases h0 : rl[i].2.1 = 0
   · have hE : relE l rl[i] = 0 := if_pos (.inl h0)
     rw [if_neg (by simp [h0]), if_neg (by simp), hE, if_pos rfl, i64s (by omega)]
   · rw [if_pos (by simp [h0]), bd_eq (loaded_eq hl hw (hrl _ (List.getElem_mem hi)).1 _ _ _ _ _ _ _ _ _)]
     cases ha : l.any (ldS rl[i].1)
     · have hE : relE l rl[i] = 40 := if_neg (by rw [ha]; simp [h0])
       rw [hE]; rfl
     · have hE : relE l rl[i] = 0 := if_pos (.inr ha)
       rw [if_neg (by simp), hE, if_pos rfl, i64s (by omega)]
 · intro rec
   rw [dif_ge (Nat.le_refl _), if_neg (by simp), bd_eq (segs_Find_eq (by omega) 7), jn_eq]
   refine scan sy (by omega) (symE l) ?_ ?_
   · intro i rec hi
     have hws := hsy _ (List.getElem_mem hi)
     have hv := inK_u64 hws.2.2.2.2.1
     rw [dif_lt hi, if_pos rfl, jn_eq]
     refine (gd_pos (by omega)).trans ?_
     simp only [jn_eq, gt_nat hi]
     unfold symbols_Defined
     rw [some_bind]
     dsimp only
     by_cases h0 : sy[i].2.2.2.1 = 0
     · have hE : symE l sy[i] = 0 := if_pos h0
       rw [if_pos (by simp [h0]), hE, if_pos rfl, i64s (by omega)]
     · rw [if_neg (by simp [h0]), bd_eq (Kind_eq (s := (sy[i].1, sy[i].2.1, sy[i].2.2.1, sy[i].2.2.2.1, sy[i].2.2.2.2.1, sy[i].2.2.2.2.2)) hws.2.1)]
       dsimp only
       by_cases h6 : sy[i].2.1 % 16 = 6
       · rw [if_pos (by simpa using h6)]
         cases hf : findS l 7 with
         | none =>
          have hE : symE l sy[i] = 11 := by unfold symE; rw [if_neg h0, if_pos h6, hf]
          rw [hE]; rfl
         | some k =>
          dsimp only
          rw [if_neg (by simp)]
          by_cases hv : sy[i].2.2.2.2.1 > (l.getD k default).2.2.2.2.2.1
          · have hE : symE l sy[i] = 11 := by unfold symE; rw [if_neg h0, if_pos h6, hf]; exact if_pos hv
            rw [if_pos (by simpa using hv), hE]; rfl
          · have hE : symE l sy[i] = 0 := by unfold symE; rw [if_neg h0, if_pos h6, hf]; exact if_neg hv
            rw [if_neg (by simpa using hv), hE, if_pos rfl, i64s (by omega)]
       · rw [if_neg (by simpa using h6)]
         by_cases hv : sy[i].2.2.2.2.1 > 4294967296
         · have hE : symE l sy[i] = 13 := by unfold symE; rw [if_neg h0, if_neg h6, if_pos hv]
           rw [if_pos (by simpa using hv), hE]; rfl
         · have hE : symE l sy[i] = 0 := by unfold symE; rw [if_neg h0, if_neg h6, if_neg hv]
           rw [if_neg (by simpa using hv), hE, if_pos rfl, i64s (by omega)]
   · intro rec
     rw [dif_ge (Nat.le_refl _), if_neg (by simp)]
end Dm

namespace Dm
open Go
open IntKind (u64 i64 u8 u32)
def bytesS (l : List Seg) (b : List Int) (a n : Int) : List Int × Int := if (placeS l a n).2 = 0 then cutP b (placeS l a n).1 n else ([], (placeS l a n).2)
theorem placeS_nn (l : List Seg) (a n : Int) : 0 <= (placeS l a n).1 := by
 unfold placeS
 cases l.find? (atP a n) with
 | none => exact Int.le_refl 0
 | some s => show 0 <= u64.wrap _; rw [wrap_u64]; omega
theorem cutP_len (b : List Int) (p n : Int) : (cutP b p n).1.length <= b.length := by
 unfold cutP
 split
 · rw [List.length_take, List.length_drop]; omega
 · simp
theorem bytesS_bytes {b : List Int} (hB : Bytes b) (l : List Seg) (a n : Int) : Bytes (bytesS l b a n).1 := by
 unfold bytesS
 split
 · exact cutP_bytes hB _ _
 · intro x hx; simp at hx
theorem bytesS_len (b : List Int) (l : List Seg) (a n : Int) : (bytesS l b a n).1.length <= b.length := by
 unfold bytesS
 split
 · exact cutP_len _ _ _
 · simp
theorem at_eq {l : List Seg} (hl : l.length <= 100) (hw : ∀ s ∈ l, Wf04 s) {b : List Int} (hb : b.length <= 65536) {a n : Int} (ha : InK .u64 a) (hn : InK .u64 n) (h : Int × Int × Int × Int) (so : List UInt8) (nd nm : List (List UInt8)) (sy : List Sym) (rl : List Rel7) (inf : Inf) (tb : List Int) :
    image_reader_at ((h, l, so, nd, nm, sy, rl, b), inf, tb) a n = some (bytesS l b a n) := by
 unfold image_reader_at bytesS
 dsimp only
 rw [bd_eq (segs_Place_eq (by omega) hw ha hn)]
 by_cases hz : (placeS l a n).2 = 0
 · rw [if_neg (by simpa using hz), if_pos hz, bd_eq (octets_Cut_eq (by omega) (placeS_nn _ _ _) (inK_u64 hn).1)]
 · rw [if_pos (by simpa using hz), if_neg hz]
def segC (b : List Int) (s : Seg) : List Int := (cutP b s.2.2.1 s.2.2.2.2.1).1
def dynX (b : List Int) (s : Seg) : List Int × Dvs := (dynG (segC b s)).1
def dynE (b : List Int) (s : Seg) : Int := (dynG (segC b s)).2
def dv (b : List Int) (s : Seg) (k : Nat) : Int := dval (dynX b s).2 k
def tabT (l : List Seg) (b : List Int) (s : Seg) : List Int := (bytesS l b (dv b s 1) (dv b s 2)).1
def tabTE (l : List Seg) (b : List Int) (s : Seg) : Int := (bytesS l b (dv b s 1) (dv b s 2)).2
def soE (t : List Int) (v : Int) : Int := if v = 0 then 0 else (atS t v).2
def soV (t : List Int) (v : Int) : List UInt8 := if v = 0 then [] else (atS t v).1
def nameE (t : List Int) (a : Int) : Int := if (atS t a).2 = 0 then (if (atS t a).1 = [] then 11 else 0) else (atS t a).2
def nmdE (l : List Seg) (b : List Int) (s : Seg) : Int :=
 if dynE b s = 0 then (if tabTE l b s = 0 then (if checkS (tabT l b s) = 0 then (if soE (tabT l b s) (dv b s 0) = 0 then firstE (nameE (tabT l b s)) (dynX b s).1 else soE (tabT l b s) (dv b s 0)) else 11) else tabTE l b s) else dynE b s
def nmdN (l : List Seg) (b : List Int) (s : Seg) : List (List UInt8) := (dynX b s).1.map fun a => (atS (tabT l b s) a).1
theorem checkS_cases (t : List Int) : checkS t = 0 \/ checkS t = 11 := by
 unfold checkS
 split
 · exact .inr rfl
 · split
   · exact .inr rfl
   · split
     · exact .inr rfl
     · exact .inl rfl
theorem segC_bytes {b : List Int} (hB : Bytes b) (s : Seg) : Bytes (segC b s) := cutP_bytes hB _ _
theorem segC_len (b : List Int) (s : Seg) : (segC b s).length <= b.length := cutP_len _ _ _
section pc
variable {α ρ σ : Type} {P : Option ρ -> Prop}
theorem bdP {m : Option α} {x : α} {f : α -> Option ρ} (h : m = some x) (k : P (f x)) : P (m.bind f) := by rw [h]; exact k
theorem gdP {c : Prop} {i : Decidable c} {r : Option ρ} (h : c) (k : P r) : P (@gd ρ c i r) := by rw [gd_pos h]; exact k
theorem jnP {k : σ -> Option ρ} {b : (σ -> Option ρ) -> Option ρ} (h : P (b k)) : P (jn k b) := by rw [jn_eq]; exact h
theorem jnC {k : σ -> Option ρ} {b : (σ -> Option ρ) -> Option ρ} (C : σ -> Prop) (hk : ∀ s, C s -> P (k s)) (h : ∀ kk, (∀ s, C s -> P (kk s)) -> P (b kk)) : P (jn k b) := by rw [jn_eq]; exact h k hk
theorem letP {e : α} {f : α -> Option ρ} (h : P (f e)) : P (let1 e f) := by rw [let1_eq]; exact h
theorem ifP {c : Prop} {i : Decidable c} {a b : Option ρ} (h1 : c -> P a) (h2 : ¬ c -> P b) : P (@ite _ c i a b) := by
 by_cases h : c
 · rw [if_pos h]; exact h1 h
 · rw [if_neg h]; exact h2 h
theorem tP {c : Prop} {i : Decidable c} {a b : Option ρ} (hc : c) (h : P a) : P (@ite _ c i a b) := by rw [if_pos hc]; exact h
theorem fP {c : Prop} {i : Decidable c} {a b : Option ρ} (hc : ¬ c) (h : P b) : P (@ite _ c i a b) := by rw [if_neg hc]; exact h
theorem neP {x y : Int} {a b : Option ρ} (h1 : x = y -> P b) (h2 : x ≠ y -> P a) : P (if (x != y) = true then a else b) := ifP (fun h => h2 (by simpa using h)) (fun h => h1 (by simpa using h))
theorem eqP {x y : Int} {a b : Option ρ} (h1 : x = y -> P a) (h2 : x ≠ y -> P b) : P (if (x == y) = true then a else b) := ifP (fun h => h1 (by simpa using h)) (fun h => h2 (by simpa using h))
theorem deP {c : Prop} {i : Decidable c} {a b : Option ρ} (h1 : c -> P a) (h2 : ¬ c -> P b) : P (if (@decide c i) = true then a else b) := ifP (fun h => h1 (of_decide_eq_true h)) (fun h => h2 (fun hc => h (decide_eq_true hc)))
theorem scan_Q (l : List α) (hl : l.length <= 9223372036854775807) (f : α -> Int) (st : Nat -> σ) (fin : Option ρ) (err : Nat -> Int -> Option ρ) {body : σ -> (σ -> Option ρ) -> Option ρ} {s0 : σ} (h0 : s0 = st 0)
    (hfin : firstE f l = 0 -> P fin) (herr : ∀ k, firstE f l ≠ 0 -> P (err k (firstE f l)))
    (h : ∀ (i : Nat) rec (hi : i < l.length) (Q : Option ρ -> Prop), (f l[i] = 0 -> Q (rec (st (i + 1)))) -> (f l[i] ≠ 0 -> Q (err i (f l[i]))) -> Q (body (st i) rec))
    (h1 : ∀ rec (Q : Option ρ -> Prop), Q fin -> Q (body (st l.length) rec)) : P (loopK body bigF s0) :=
 scan_P P l hl f st fin err h0 hfin herr (fun i rec hi => h i rec hi (fun r => r = _) (fun h => by rw [if_pos h]) (fun h => by rw [if_neg h])) (fun rec => h1 rec (fun r => r = _) rfl)
end pc
theorem named_run {P : Option (Int × Rdr) -> Prop} {l : List Seg} (hl : l.length <= 100) (hw : ∀ s ∈ l, Wf04 s) {b : List Int} (hb : b.length <= 65536) (hB : Bytes b) {s : Seg} (hs : Wf04 s) (hc : (cutP b s.2.2.1 s.2.2.2.2.1).2 = 0) (h : Int × Int × Int × Int) (nm : List (List UInt8)) (sy : List Sym) (rl : List Rel7) (inf : Inf) (tb : List Int)
    (hE : ∀ e R', e ≠ 0 -> nmdE l b s = e -> P (some (e, R'))) (hF : nmdE l b s = 0 -> P (some (0, ((h, l, soV (tabT l b s) (dv b s 0), nmdN l b s, nm, sy, rl, b), infOf (dynX b s), tabT l b s)))) :
    P (image_reader_named ((h, l, [], [], nm, sy, rl, b), inf, tb) s) := by
 have hCB := segC_bytes hB s
 have hCl := segC_len b s
 have hT := bytesS_bytes hB l (dv b s 1) (dv b s 2)
 have hTl : (tabT l b s).length <= b.length := bytesS_len b l (dv b s 1) (dv b s 2)
 have hD := wf_dynG hCB
 have hDn : (dynX b s).1.length <= (segC b s).length + 1 := len_dynG (segC b s)
 have hv := fun k => wf_dval hCB k
 unfold image_reader_named
 refine bdP (octets_Cut_eq (by show b.length <= _; omega) (inK_u64 hs.2.2.1).1 (inK_u64 hs.2.2.2.2.1).1) ?_
 refine neP (fun _ => ?_) (fun hn => absurd hc hn)
 refine bdP (dynamic_Get_eq (b := segC b s) (by omega) hCB) ?_
 refine neP (fun h1 => ?_) (fun h1 => ?_)
 rotate_left
 · have h1 : dynE b s ≠ 0 := h1
   exact hE _ _ h1 (by unfold nmdE; rw [if_neg h1]; rfl)
 have h1 : dynE b s = 0 := h1
 refine bdP (at_eq hl hw hb (hv 1) (hv 2) h [] [] nm sy rl (infOf (dynX b s)) tb) ?_
 refine neP (fun h2 => ?_) (fun h2 => ?_)
 rotate_left
 · have h2 : tabTE l b s ≠ 0 := h2
   exact hE _ _ h2 (by unfold nmdE; rw [if_pos h1, if_neg h2]; rfl)
 have h2 : tabTE l b s = 0 := h2
 refine bdP (names_Check_eq (t := tabT l b s) (by omega)) ?_
 refine neP (fun h3 => ?_) (fun h3 => ?_)
 rotate_left
 · have h11 : checkS (tabT l b s) = 11 := (checkS_cases _).resolve_left h3
   rw [h11]
   exact hE _ _ (by decide) (by unfold nmdE; rw [if_pos h1, if_pos h2, if_neg h3])
 refine jnC (fun R => soE (tabT l b s) (dv b s 0) = 0 /\ R = ((h, l, soV (tabT l b s) (dv b s 0), [], nm, sy, rl, b), infOf (dynX b s), tabT l b s)) ?_ (fun kk hkk => ?_)
 · rintro _ ⟨hso, rfl⟩
   have e : nmdE l b s = firstE (nameE (tabT l b s)) (dynX b s).1 := by unfold nmdE; rw [if_pos h1, if_pos h2, if_pos h3, if_pos hso]
   refine jnC (fun R => nmdE l b s = 0 /\ R = ((h, l, soV (tabT l b s) (dv b s 0), nmdN l b s, nm, sy, rl, b), infOf (dynX b s), tabT l b s)) ?_ (fun kk hkk => ?_)
   · rintro _ ⟨h0, rfl⟩
     exact hF h0
   refine scan_Q (dynX b s).1 (by omega) (nameE (tabT l b s))
    (fun i => ((i : Int), ((h, l, soV (tabT l b s) (dv b s 0), ((dynX b s).1.take i).map (fun a => (atS (tabT l b s) a).1), nm, sy, rl, b), infOf (dynX b s), tabT l b s)))
    (kk ((h, l, soV (tabT l b s) (dv b s 0), nmdN l b s, nm, sy, rl, b), infOf (dynX b s), tabT l b s))
    (fun i e => some (e, ((h, l, soV (tabT l b s) (dv b s 0), ((dynX b s).1.take i).map (fun a => (atS (tabT l b s) a).1), nm, sy, rl, b), infOf (dynX b s), tabT l b s))) rfl
    (fun hz => hkk _ ⟨by rw [e, hz], rfl⟩) (fun k hz => hE _ _ hz e) (fun i rec hi Q q0 q1 => ?_) (fun rec Q q => ?_)
   · have hda := hD.1 _ (List.getElem_mem hi)
     have hgi : gt (dynX b s).1 (i : Int) = (dynX b s).1[i] := gt_nat hi
     refine tP (dif_lt hi) ?_
     refine gdP (by show (0 : Int) <= i /\ (i : Int) < (((dynX b s).1.length : Nat) : Int); omega) ?_
     refine letP ?_
     refine bdP (by show names_At (tabT l b s) (gt (dynX b s).1 (i : Int)) = _; rw [hgi]; exact names_At_eq (by omega) (inK_u64 hda).1) ?_
     refine jnP ?_
     refine eqP (fun h4 => ?_) (fun h4 => ?_)
     · have h4 : (atS (tabT l b s) (dynX b s).1[i]).2 = 0 := h4
       refine jnP ?_
       refine ifP (fun h5 => ?_) (fun h5 => ?_)
       · have h5 : (atS (tabT l b s) (dynX b s).1[i]).1 = [] := by simpa using h5
         have hE : nameE (tabT l b s) (dynX b s).1[i] = 11 := by unfold nameE; rw [if_pos h4, if_pos h5]
         refine tP (by decide) ?_
         rw [hE] at q1
         exact q1 (by decide)
       · have h5 : (atS (tabT l b s) (dynX b s).1[i]).1 ≠ [] := by simpa using h5
         have hE : nameE (tabT l b s) (dynX b s).1[i] = 0 := by unfold nameE; rw [if_pos h4, if_neg h5]
         refine neP (fun _ => ?_) (fun hn => absurd h4 hn)
         refine gdP (by show ((((dynX b s).1.take i).map _).length + 1) * 16 <= _; rw [List.length_map, List.length_take]; omega) ?_
         have q := q0 hE
         rw [<- i64s (by omega), take_succ hi, List.map_append, List.map_singleton] at q
         exact q
     · have h4 : (atS (tabT l b s) (dynX b s).1[i]).2 ≠ 0 := h4
       have hE : nameE (tabT l b s) (dynX b s).1[i] = (atS (tabT l b s) (dynX b s).1[i]).2 := by unfold nameE; rw [if_neg h4]
       refine jnP ?_
       refine fP (by decide) ?_
       refine neP (fun hn => absurd hn h4) (fun _ => ?_)
       rw [hE] at q1
       exact q1 h4
   · refine fP (by show ¬ decide ((((dynX b s).1.length : Nat) : Int) < (((dynX b s).1.length : Nat) : Int)) = true; simp) ?_
     rw [List.take_length]
     exact q
 refine neP (fun h6 => ?_) (fun h6 => ?_)
 · have h6 : dv b s 0 = 0 := h6
   refine hkk _ ⟨by unfold soE; rw [if_pos h6], ?_⟩
   unfold soV; rw [if_pos h6]; rfl
 · have h6 : dv b s 0 ≠ 0 := h6
   refine bdP (names_At_eq (t := tabT l b s) (by omega) (inK_u64 (hv 0)).1) ?_
   refine neP (fun h7 => ?_) (fun h7 => ?_)
   · refine hkk _ ⟨by unfold soE; rw [if_neg h6]; exact h7, ?_⟩
     unfold soV; rw [if_neg h6]; rfl
   · have hso : soE (tabT l b s) (dv b s 0) = (atS (tabT l b s) (dv b s 0)).2 := by unfold soE; rw [if_neg h6]
     have h7 : (atS (tabT l b s) (dv b s 0)).2 ≠ 0 := h7
     exact hE _ _ h7 (by unfold nmdE; rw [if_pos h1, if_pos h2, if_pos h3, hso, if_neg h7]; rfl)
end Dm

namespace Dm
open Go
def ent (t v : Int) : List Int := leB 8 t ++ leB 8 v
theorem ent_len (t v : Int) : (ent t v).length = 16 := by unfold ent; rw [List.length_append, leB_length, leB_length]
theorem ent_bytes (t v : Int) : Bytes (ent t v) := (leB_bytes _ _).append (leB_bytes _ _)
def dpart (x : Inf) : Nat -> List Int
 | 0 => if x.2.1 = 0 then [] else ent 14 x.2.1
 | 1 => ent 5 x.2.2.1
 | 2 => ent 10 x.2.2.2.1
 | 3 => if x.2.2.2.2.2.1 = 0 then [] else ent 6 x.2.2.2.2.1
 | 4 => if x.2.2.2.2.2.1 = 0 then [] else ent 1610612749 x.2.2.2.2.2.1
 | 5 => if x.2.2.2.2.2.2.2 = 0 then [] else ent 7 x.2.2.2.2.2.2.1
 | 6 => if x.2.2.2.2.2.2.2 = 0 then [] else ent 8 x.2.2.2.2.2.2.2
 | _ => []
def dneed (x : Inf) : List Int := (x.1.map (ent 1)).flatten
def dacc (x : Inf) (i : Nat) : List Int := dneed x ++ ((List.range i).map (dpart x)).flatten
def dput (x : Inf) : List Int := dacc x 7 ++ ent 0 0
theorem dacc_succ (x : Inf) (i : Nat) : dacc x (i + 1) = dacc x i ++ dpart x i := by
 unfold dacc
 rw [List.range_succ, List.map_append, List.flatten_append, List.append_assoc]
 simp
theorem dpart_len (x : Inf) (i : Nat) : (dpart x i).length <= 16 := by
 unfold dpart
 split <;> (try split) <;> simp [ent_len]
theorem dneed_len (x : Inf) : (dneed x).length = 16 * x.1.length := by
 unfold dneed
 generalize x.1 = l
 induction l with
 | nil => rfl
 | cons a l ih => rw [List.map_cons, List.flatten_cons, List.length_append, ent_len, ih, List.length_cons]; omega
theorem dacc_len (x : Inf) : ∀ i, (dacc x i).length <= 16 * x.1.length + 16 * i
 | 0 => by have := dneed_len x; unfold dacc; simp; omega
 | i + 1 => by have := dacc_len x i; have := dpart_len x i; rw [dacc_succ, List.length_append]; omega
theorem dput_len (x : Inf) : (dput x).length <= 16 * x.1.length + 128 := by have := dacc_len x 7; unfold dput; rw [List.length_append, ent_len]; omega
theorem Bytes.nil : Bytes [] := fun x h => by simp at h
theorem dpart_bytes (x : Inf) (i : Nat) : Bytes (dpart x i) := by
 unfold dpart
 split <;> (try split) <;> first | exact Bytes.nil | exact ent_bytes _ _
theorem dneed_bytes (x : Inf) : Bytes (dneed x) := by
 unfold dneed
 generalize x.1 = l
 induction l with
 | nil => exact Bytes.nil
 | cons a l ih => rw [List.map_cons, List.flatten_cons]; exact (ent_bytes _ _).append ih
theorem dacc_bytes (x : Inf) : ∀ i, Bytes (dacc x i)
 | 0 => by unfold dacc; simpa using dneed_bytes x
 | i + 1 => by rw [dacc_succ]; exact (dacc_bytes x i).append (dpart_bytes x i)
theorem dput_bytes (x : Inf) : Bytes (dput x) := (dacc_bytes x 7).append (ent_bytes _ _)
theorem put1_eq (t v : Int) {q : List Int} (hq : q.length <= 1000000) : dynamic_Put_1 t v q = some (q ++ ent t v) := by
 unfold dynamic_Put_1
 rw [jn_eq]
 refine loop_at (fun i => ((i : Int), if i = 0 then q else if i = 1 then q ++ leB 8 t else q ++ ent t v)) 2 rfl (by omega) ?_
 intro i rec hi hrec
 have : i = 0 \/ i = 1 \/ i = 2 := by omega
 rcases this with rfl | rfl | rfl
 · have hr := hrec (by omega)
   refine tP (P := fun r => r = some (q ++ ent t v)) rfl ?_
   refine gdP (P := fun r => r = some (q ++ ent t v)) ⟨by simp, by simp⟩ ?_
   refine letP (P := fun r => r = some (q ++ ent t v)) ?_
   refine gdP (P := fun r => r = some (q ++ ent t v)) (by decide) ?_
   refine bdP (P := fun r => r = some (q ++ ent t v)) (set8 t) ?_
   refine gdP (P := fun r => r = some (q ++ ent t v)) (by show (q.length + (leB 8 t).length) * 1 <= _; rw [leB_length]; omega) ?_
   exact hr
 · have hr := hrec (by omega)
   refine tP (P := fun r => r = some (q ++ ent t v)) rfl ?_
   refine gdP (P := fun r => r = some (q ++ ent t v)) ⟨by simp, by simp⟩ ?_
   refine letP (P := fun r => r = some (q ++ ent t v)) ?_
   refine gdP (P := fun r => r = some (q ++ ent t v)) (by decide) ?_
   refine bdP (P := fun r => r = some (q ++ ent t v)) (set8 v) ?_
   refine gdP (P := fun r => r = some (q ++ ent t v)) (by show ((q ++ leB 8 t).length + (leB 8 v).length) * 1 <= _; rw [List.length_append, leB_length, leB_length]; omega) ?_
   have e : q ++ ent t v = (q ++ leB 8 t) ++ leB 8 v := by unfold ent; rw [List.append_assoc]
   have hr : rec (((1 + 1 : Nat) : Int), q ++ ent t v) = some (q ++ ent t v) := hr
   rw [e] at hr ⊢
   exact hr
 · exact fP (P := fun r => r = some (q ++ ent t v)) (fun h => by cases h) rfl
theorem dynamic_Put_eq {x : Inf} (hx : x.1.length <= 1000) : dynamic_Put x = some (dput x) := by
 obtain ⟨nd, so, st, sz, sy, sn, rl, rz⟩ := x
 have hx : nd.length <= 1000 := hx
 have hl := dacc_len (nd, so, st, sz, sy, sn, rl, rz)
 have hl' : ∀ i, i <= 7 -> (dacc (nd, so, st, sz, sy, sn, rl, rz) i).length <= 20000 := fun i hi => by have : (dacc (nd, so, st, sz, sy, sn, rl, rz) i).length <= 16 * nd.length + 16 * i := hl i; omega
 have hs := dacc_succ (nd, so, st, sz, sy, sn, rl, rz)
 generalize hR : some (dput (nd, so, st, sz, sy, sn, rl, rz)) = R
 unfold dynamic_Put
 refine jnC (P := (· = R)) (fun c => c = dacc (nd, so, st, sz, sy, sn, rl, rz) 0) ?_ (fun kk hkk => ?_)
 · rintro _ rfl
   refine jnC (P := (· = R)) (fun c => c = dacc (nd, so, st, sz, sy, sn, rl, rz) 1) ?_ (fun kk hkk => ?_)
   · rintro _ rfl
     have e1 : dacc (nd, so, st, sz, sy, sn, rl, rz) 2 = dacc (nd, so, st, sz, sy, sn, rl, rz) 1 ++ ent 5 st := hs 1
     have e2 : dacc (nd, so, st, sz, sy, sn, rl, rz) 3 = dacc (nd, so, st, sz, sy, sn, rl, rz) 2 ++ ent 10 sz := hs 2
     refine bdP (P := (· = R)) (x := dacc (nd, so, st, sz, sy, sn, rl, rz) 2) (by rw [e1]; exact put1_eq _ _ (by have := hl' 1 (by omega); omega)) ?_
     refine bdP (P := (· = R)) (x := dacc (nd, so, st, sz, sy, sn, rl, rz) 3) (by rw [e2]; exact put1_eq _ _ (by have := hl' 2 (by omega); omega)) ?_
     refine jnC (P := (· = R)) (fun c => c = dacc (nd, so, st, sz, sy, sn, rl, rz) 5) ?_ (fun kk hkk => ?_)
     · rintro _ rfl
       refine jnC (P := (· = R)) (fun c => c = dacc (nd, so, st, sz, sy, sn, rl, rz) 7) ?_ (fun kk hkk => ?_)
       · rintro _ rfl
         exact bdP (P := (· = R)) (put1_eq 0 0 (by have := hl' 7 (by omega); omega)) hR
       have h5 := hs 5
       have h6 := hs 6
       refine neP (P := (· = R)) (fun h => ?_) (fun h => ?_)
       · have h : rz = 0 := h
         refine hkk _ ?_
         have p5 : dpart (nd, so, st, sz, sy, sn, rl, rz) 5 = [] := if_pos h
         have p6 : dpart (nd, so, st, sz, sy, sn, rl, rz) 6 = [] := if_pos h
         rw [h6, h5, p5, p6, List.append_nil, List.append_nil]
       · have h : rz ≠ 0 := h
         have p5 : dpart (nd, so, st, sz, sy, sn, rl, rz) 5 = ent 7 rl := if_neg h
         have p6 : dpart (nd, so, st, sz, sy, sn, rl, rz) 6 = ent 8 rz := if_neg h
         rw [p5] at h5
         rw [p6] at h6
         refine bdP (P := (· = R)) (x := dacc (nd, so, st, sz, sy, sn, rl, rz) 6) (by rw [h5]; exact put1_eq _ _ (by have := hl' 5 (by omega); omega)) ?_
         refine bdP (P := (· = R)) (x := dacc (nd, so, st, sz, sy, sn, rl, rz) 7) (by rw [h6]; exact put1_eq _ _ (by have := hl' 6 (by omega); omega)) ?_
         exact hkk _ rfl
     have h3 := hs 3
     have h4 := hs 4
     refine neP (P := (· = R)) (fun h => ?_) (fun h => ?_)
     · have h : sn = 0 := h
       refine hkk _ ?_
       have p3 : dpart (nd, so, st, sz, sy, sn, rl, rz) 3 = [] := if_pos h
       have p4 : dpart (nd, so, st, sz, sy, sn, rl, rz) 4 = [] := if_pos h
       rw [h4, h3, p3, p4, List.append_nil, List.append_nil]
     · have h : sn ≠ 0 := h
       have p3 : dpart (nd, so, st, sz, sy, sn, rl, rz) 3 = ent 6 sy := if_neg h
       have p4 : dpart (nd, so, st, sz, sy, sn, rl, rz) 4 = ent 1610612749 sn := if_neg h
       rw [p3] at h3
       rw [p4] at h4
       refine bdP (P := (· = R)) (x := dacc (nd, so, st, sz, sy, sn, rl, rz) 4) (by rw [h3]; exact put1_eq _ _ (by have := hl' 3 (by omega); omega)) ?_
       refine bdP (P := (· = R)) (x := dacc (nd, so, st, sz, sy, sn, rl, rz) 5) (by rw [h4]; exact put1_eq _ _ (by have := hl' 4 (by omega); omega)) ?_
       exact hkk _ rfl
   have h0 := hs 0
   refine neP (P := (· = R)) (fun h => ?_) (fun h => ?_)
   · have h : so = 0 := h
     refine hkk _ ?_
     have p0 : dpart (nd, so, st, sz, sy, sn, rl, rz) 0 = [] := if_pos h
     rw [h0, p0, List.append_nil]
   · have h : so ≠ 0 := h
     have p0 : dpart (nd, so, st, sz, sy, sn, rl, rz) 0 = ent 14 so := if_neg h
     rw [p0] at h0
     refine bdP (P := (· = R)) (x := dacc (nd, so, st, sz, sy, sn, rl, rz) 1) (by rw [h0]; exact put1_eq _ _ (by have := hl' 0 (by omega); omega)) ?_
     exact hkk _ rfl
 refine scan_Q (P := (· = R)) nd (by omega) (fun _ => 0) (fun i => ((i : Int), ((nd.take i).map (ent 1)).flatten)) (kk (dacc (nd, so, st, sz, sy, sn, rl, rz) 0)) (fun _ _ => none) rfl (fun _ => hkk _ rfl) (fun _ h => absurd (firstE_zero _ _ fun _ _ => rfl) h) (fun i rec hi Q q0 _ => ?_) (fun rec Q q => ?_)
 · have hgi : gt nd (i : Int) = nd[i] := gt_nat hi
   refine tP (dif_lt hi) ?_
   refine gdP (by show (0 : Int) <= i /\ (i : Int) < ((nd.length : Nat) : Int); omega) ?_
   refine letP ?_
   have hln : (((nd.take i).map (ent 1)).flatten).length <= 100000 := by
    have := dneed_len (nd.take i, so, st, sz, sy, sn, rl, rz)
    have h2 : (((nd.take i).map (ent 1)).flatten).length = 16 * (nd.take i).length := this
    rw [List.length_take] at h2
    omega
   refine bdP (put1_eq 1 (gt nd (i : Int)) (q := ((nd.take i).map (ent 1)).flatten) (by omega)) ?_
   have q := q0 rfl
   rw [<- i64s (by omega), take_succ hi, List.map_append, List.flatten_append, List.map_singleton, List.flatten_singleton, <- hgi] at q
   exact q
 · refine fP (by show ¬ decide (((nd.length : Nat) : Int) < ((nd.length : Nat) : Int)) = true; simp) ?_
   rw [List.take_length]
   have e : dacc (nd, so, st, sz, sy, sn, rl, rz) 0 = (nd.map (ent 1)).flatten := by unfold dacc dneed; simp
   rw [e] at q
   exact q
end Dm

namespace Dm
open Go
open IntKind (u64 i64 u8 u32)
def tabYo (c : List Int) : List Sym × Int := if c.length % 24 = 0 then (tabY c, 0) else ([], 10)
def tabSo (c : List Int) : List Rel7 × Int := if c.length % 24 = 0 then (tabS c, 0) else ([], 10)
def symC (l : List Seg) (b : List Int) (s : Seg) : List Int × Int := bytesS l b (dv b s 3) (24 * dv b s 4)
def symT (l : List Seg) (b : List Int) (s : Seg) : List Sym := if dv b s 4 = 0 then [] else (tabYo (symC l b s).1).1
def symsE (l : List Seg) (b : List Int) (s : Seg) : Int :=
 if dv b s 4 > 1024 then 13 else if dv b s 4 = 0 then 0 else if (symC l b s).2 = 0 then (if chkY (symT l b s) = 0 then firstE (fun y => (atS (tabT l b s) y.1).2) (symT l b s) else 11) else (symC l b s).2
def symN (l : List Seg) (b : List Int) (s : Seg) : List (List UInt8) := (symT l b s).map fun y => (atS (tabT l b s) y.1).1
def relC (l : List Seg) (b : List Int) (s : Seg) : List Int × Int := bytesS l b (dv b s 5) (dv b s 6)
def relT (l : List Seg) (b : List Int) (s : Seg) : List Rel7 := if dv b s 6 = 0 then [] else (tabSo (relC l b s).1).1
def relsE (l : List Seg) (b : List Int) (s : Seg) (n : Int) : Int :=
 if dv b s 6 > 65536 then 13 else if dv b s 6 = 0 then 0 else if (relC l b s).2 = 0 then (if (tabSo (relC l b s).1).2 = 0 then firstE (errR n) (relT l b s) else (tabSo (relC l b s).1).2) else (relC l b s).2
def totE (l : List Seg) (b : List Int) (s : Seg) : Int := if nmdE l b s = 0 then (if symsE l b s = 0 then relsE l b s ((symT l b s).length : Int) else symsE l b s) else nmdE l b s
theorem firstE_mem {α : Type} {f : α -> Int} : ∀ {l : List α}, firstE f l ≠ 0 -> ∃ x ∈ l, firstE f l = f x
 | [], h => absurd rfl h
 | x :: xs, h => by
  rw [firstE] at h ⊢
  split
  · rename_i hx
    rw [if_pos hx] at h
    obtain ⟨y, h1, h2⟩ := firstE_mem h
    exact ⟨y, by simp [h1], h2⟩
  · exact ⟨x, by simp, rfl⟩
theorem chkY_cases (l : List Sym) : chkY l = 0 \/ chkY l = 11 := by
 cases l with
 | nil => exact .inl rfl
 | cons s l =>
  by_cases hn : nilY s = true
  · have e : chkY (s :: l) = firstE errY l := by rw [chkY, if_pos hn]
    rw [e]
    by_cases h : firstE errY l = 0
    · exact .inl h
    · obtain ⟨x, _, hx⟩ := firstE_mem h
      rw [hx] at h ⊢
      unfold errY at h ⊢
      cases hm : mayY x
      · exact .inr (if_neg (by decide))
      · rw [hm] at h
        exact absurd (if_pos rfl) h
  · exact .inr (by rw [chkY, if_neg hn])
theorem symT_wf {b : List Int} (hB : Bytes b) (l : List Seg) (s : Seg) : ∀ y ∈ symT l b s, Wf06 y := by
 unfold symT tabYo
 split
 · intro y h; simp at h
 · split
   · exact wf_tabY (bytesS_bytes hB _ _ _)
   · intro y h; simp at h
theorem symT_len (l : List Seg) (b : List Int) (s : Seg) : (symT l b s).length <= b.length := by
 unfold symT tabYo
 split
 · simp
 · split
   · have := len_tabY (symC l b s).1
     have := bytesS_len b l (dv b s 3) (24 * dv b s 4)
     show (tabY (symC l b s).1).length <= _
     unfold symC at *
     omega
   · simp
theorem relT_wf {b : List Int} (hB : Bytes b) (l : List Seg) (s : Seg) : ∀ y ∈ relT l b s, Wf07 y := by
 unfold relT tabSo
 split
 · intro y h; simp at h
 · split
   · exact wf_tabS (bytesS_bytes hB _ _ _)
   · intro y h; simp at h
theorem relT_len (l : List Seg) (b : List Int) (s : Seg) : (relT l b s).length <= b.length := by
 unfold relT tabSo
 split
 · simp
 · split
   · have := len_tabS (relC l b s).1
     have := bytesS_len b l (dv b s 5) (dv b s 6)
     show (tabS (relC l b s).1).length <= _
     unfold relC at *
     omega
   · simp
theorem wf24 {n : Int} (h0 : 0 <= n) (h : n <= 1024) : InK .u64 (24 * n) := ⟨by show (0 : Int) <= _; omega, by show _ <= (18446744073709551615 : Int); omega⟩
theorem symbols_run {P : Option (Int × Rdr) -> Prop} {l : List Seg} (hl : l.length <= 100) (hw : ∀ s ∈ l, Wf04 s) {b : List Int} (hb : b.length <= 65536) (hB : Bytes b) {s : Seg} (h : Int × Int × Int × Int) (so : List UInt8) (nd : List (List UInt8)) (rl : List Rel7)
    (hE : ∀ e R', e ≠ 0 -> symsE l b s = e -> P (some (e, R'))) (hF : symsE l b s = 0 -> P (some (0, ((h, l, so, nd, symN l b s, symT l b s, rl, b), infOf (dynX b s), tabT l b s)))) :
    P (image_reader_symbols ((h, l, so, nd, [], [], rl, b), infOf (dynX b s), tabT l b s)) := by
 have hCB := segC_bytes hB s
 have hTl : (tabT l b s).length <= b.length := bytesS_len b l (dv b s 1) (dv b s 2)
 have hv : ∀ k, InK .u64 (dv b s k) := fun k => wf_dval hCB k
 have h4 := inK_u64 (hv 4)
 have hTw := symT_wf hB l s
 have hTn := symT_len l b s
 unfold image_reader_symbols
 refine deP (fun h1 => ?_) (fun h1 => ?_)
 · have h1 : dv b s 4 > 1024 := h1
   exact hE _ _ (by decide) (by unfold symsE; rw [if_pos h1])
 have h1 : ¬ dv b s 4 > 1024 := h1
 refine eqP (fun h2 => ?_) (fun h2 => ?_)
 · have h2 : dv b s 4 = 0 := h2
   have e : symT l b s = [] := by unfold symT; rw [if_pos h2]
   have := hF (by unfold symsE; rw [if_neg h1, if_pos h2])
   unfold symN at this
   rw [e] at this
   exact this
 have h2 : dv b s 4 ≠ 0 := h2
 have e24 : u64.wrap (24 * dv b s 4) = 24 * dv b s 4 := u64w (by omega)
 refine bdP (x := symC l b s) (by
  show image_reader_at ((h, l, so, nd, [], [], rl, b), infOf (dynX b s), tabT l b s) (dv b s 3) (u64.wrap (24 * dv b s 4)) = _
  rw [e24]
  exact at_eq hl hw hb (hv 3) (wf24 (by omega) (by omega)) h so nd [] [] rl _ _) ?_
 have eT : symT l b s = (tabYo (symC l b s).1).1 := by unfold symT; rw [if_neg h2]
 have hCl : (symC l b s).1.length <= b.length := bytesS_len b l (dv b s 3) (24 * dv b s 4)
 refine neP (fun h3 => ?_) (fun h3 => ?_)
 rotate_left
 · exact hE _ _ h3 (by unfold symsE; rw [if_neg h1, if_neg h2, if_neg h3])
 refine bdP (x := (symT l b s, (tabYo (symC l b s).1).2)) (by
  rw [eT]
  exact symbols_Table_eq (b := (symC l b s).1) (by omega) (bytesS_bytes hB _ _ _)) ?_
 refine bdP (x := chkY (symT l b s)) (symbols_Check_eq (l := symT l b s) (by omega) hTw) ?_
 refine neP (fun h5 => ?_) (fun h5 => ?_)
 rotate_left
 · rw [(chkY_cases _).resolve_left h5]
   exact hE _ _ (by decide) (by unfold symsE; rw [if_neg h1, if_neg h2, if_pos h3, if_neg h5])
 have e : symsE l b s = firstE (fun y => (atS (tabT l b s) y.1).2) (symT l b s) := by unfold symsE; rw [if_neg h1, if_neg h2, if_pos h3, if_pos h5]
 refine jnC (fun R => symsE l b s = 0 /\ R = ((h, l, so, nd, symN l b s, symT l b s, rl, b), infOf (dynX b s), tabT l b s)) ?_ (fun kk hkk => ?_)
 · rintro _ ⟨h0, rfl⟩
   exact hF h0
 refine scan_Q (symT l b s) (by omega) (fun y => (atS (tabT l b s) y.1).2)
  (fun i => ((i : Int), ((h, l, so, nd, ((symT l b s).take i).map (fun y => (atS (tabT l b s) y.1).1), symT l b s, rl, b), infOf (dynX b s), tabT l b s)))
  (kk ((h, l, so, nd, symN l b s, symT l b s, rl, b), infOf (dynX b s), tabT l b s))
  (fun i e => some (e, ((h, l, so, nd, ((symT l b s).take i).map (fun y => (atS (tabT l b s) y.1).1), symT l b s, rl, b), infOf (dynX b s), tabT l b s))) rfl
  (fun hz => hkk _ ⟨by rw [e, hz], rfl⟩) (fun k hz => hE _ _ hz e) (fun i rec hi Q q0 q1 => ?_) (fun rec Q q => ?_)
 · have hda := inK_u32 (hTw _ (List.getElem_mem hi)).1
   have hgi : gt (symT l b s) (i : Int) = (symT l b s)[i] := gt_nat hi
   refine tP (dif_lt hi) ?_
   refine gdP (by show (0 : Int) <= i /\ (i : Int) < (((symT l b s).length : Nat) : Int); omega) ?_
   refine bdP (by show names_At (tabT l b s) (u64.wrap ((gt (symT l b s) (i : Int)).1)) = _; rw [hgi, u64w (by omega)]; exact names_At_eq (by omega) (by omega)) ?_
   refine neP (fun h6 => ?_) (fun h6 => ?_)
   · refine gdP (by show ((((symT l b s).take i).map _).length + 1) * 16 <= _; rw [List.length_map, List.length_take]; omega) ?_
     have q := q0 h6
     rw [<- i64s (by omega), take_succ hi, List.map_append, List.map_singleton] at q
     exact q
   · exact q1 h6
 · refine fP (by show ¬ decide ((((symT l b s).length : Nat) : Int) < (((symT l b s).length : Nat) : Int)) = true; simp) ?_
   rw [List.take_length]
   exact q
theorem relocations_run {P : Option (Int × Rdr) -> Prop} {l : List Seg} (hl : l.length <= 100) (hw : ∀ s ∈ l, Wf04 s) {b : List Int} (hb : b.length <= 65536) (hB : Bytes b) {s : Seg} (h : Int × Int × Int × Int) (so : List UInt8) (nd nm : List (List UInt8)) {sy : List Sym} (hsy : sy.length <= 1000000)
    (hE : ∀ e R', e ≠ 0 -> relsE l b s (sy.length : Int) = e -> P (some (e, R'))) (hF : relsE l b s (sy.length : Int) = 0 -> P (some (0, ((h, l, so, nd, nm, sy, relT l b s, b), infOf (dynX b s), tabT l b s)))) :
    P (image_reader_relocations ((h, l, so, nd, nm, sy, [], b), infOf (dynX b s), tabT l b s)) := by
 have hCB := segC_bytes hB s
 have hv : ∀ k, InK .u64 (dv b s k) := fun k => wf_dval hCB k
 have hTw := relT_wf hB l s
 have hTn := relT_len l b s
 unfold image_reader_relocations
 refine deP (fun h1 => ?_) (fun h1 => ?_)
 · have h1 : dv b s 6 > 65536 := h1
   exact hE _ _ (by decide) (by unfold relsE; rw [if_pos h1])
 have h1 : ¬ dv b s 6 > 65536 := h1
 refine eqP (fun h2 => ?_) (fun h2 => ?_)
 · have h2 : dv b s 6 = 0 := h2
   have e : relT l b s = [] := by unfold relT; rw [if_pos h2]
   have := hF (by unfold relsE; rw [if_neg h1, if_pos h2])
   rw [e] at this
   exact this
 have h2 : dv b s 6 ≠ 0 := h2
 refine bdP (x := relC l b s) (at_eq hl hw hb (hv 5) (hv 6) h so nd nm sy [] _ _) ?_
 have eT : relT l b s = (tabSo (relC l b s).1).1 := by unfold relT; rw [if_neg h2]
 have hCl : (relC l b s).1.length <= b.length := bytesS_len b l (dv b s 5) (dv b s 6)
 refine neP (fun h3 => ?_) (fun h3 => ?_)
 rotate_left
 · exact hE _ _ h3 (by unfold relsE; rw [if_neg h1, if_neg h2, if_neg h3])
 refine bdP (x := (relT l b s, (tabSo (relC l b s).1).2)) (by
  rw [eT]
  exact rela_Table_eq (b := (relC l b s).1) (by omega) (bytesS_bytes hB _ _ _)) ?_
 refine neP (fun h4 => ?_) (fun h4 => ?_)
 rotate_left
 · exact hE _ _ h4 (by unfold relsE; rw [if_neg h1, if_neg h2, if_pos h3, if_neg h4])
 refine bdP (x := firstE (errR (sy.length : Int)) (relT l b s)) (by
  exact rela_Check_eq (l := relT l b s) (symbols := (sy.length : Int)) (by omega) hTw ⟨by show (-9223372036854775808 : Int) <= _; omega, by show _ <= (9223372036854775807 : Int); omega⟩) ?_
 have e : relsE l b s (sy.length : Int) = firstE (errR (sy.length : Int)) (relT l b s) := by unfold relsE; rw [if_neg h1, if_neg h2, if_pos h3, if_pos h4]
 by_cases hz : firstE (errR (sy.length : Int)) (relT l b s) = 0
 · rw [hz]
   exact hF (by rw [e, hz])
 · exact hE _ _ hz e
end Dm

namespace Dm
open Go
open IntKind (u64 i64 u8 u32)
abbrev Def9 := List UInt8 × Int × Int × Bool
abbrev Fix9 := Int × Int × Int × Int × Int
abbrev Spec9 := Int × List UInt8 × List (List UInt8) × Int × List Int × List Int × Int × List Int × Int × List Def9 × List Fix9
abbrev WfS (x : Spec9) : Prop := InK .i64 x.1 /\ x.2.1.length <= 9223372036854775807 /\ (x.2.2.1.length <= 9223372036854775807 /\ ∀ y0 ∈ x.2.2.1, y0.length <= 9223372036854775807) /\ InK .u64 x.2.2.2.1 /\ (x.2.2.2.2.1.length <= 9223372036854775807 /\ ∀ y0 ∈ x.2.2.2.2.1, InK .u8 y0) /\ (x.2.2.2.2.2.1.length <= 9223372036854775807 /\ ∀ y0 ∈ x.2.2.2.2.2.1, InK .u8 y0) /\ InK .u64 x.2.2.2.2.2.2.1 /\ (x.2.2.2.2.2.2.2.1.length <= 9223372036854775807 /\ ∀ y0 ∈ x.2.2.2.2.2.2.2.1, InK .u8 y0) /\ InK .u64 x.2.2.2.2.2.2.2.2.1 /\ (x.2.2.2.2.2.2.2.2.2.1.length <= 9223372036854775807 /\ ∀ y0 ∈ x.2.2.2.2.2.2.2.2.2.1, (y0.1.length <= 9223372036854775807 /\ InK .i64 y0.2.1 /\ InK .u64 y0.2.2.1 /\ True)) /\ (x.2.2.2.2.2.2.2.2.2.2.length <= 9223372036854775807 /\ ∀ y0 ∈ x.2.2.2.2.2.2.2.2.2.2, (InK .i64 y0.1 /\ InK .u64 y0.2.1 /\ InK .u32 y0.2.2.1 /\ InK .i64 y0.2.2.2.1 /\ InK .i64 y0.2.2.2.2))
structure Few (so : List UInt8) (nd : List (List UInt8)) (code data tls : List Int) (defs : List Def9) (fixes : List Fix9) : Prop where
 c1 : code.length <= 3000
 c2 : data.length <= 3000
 c3 : tls.length <= 3000
 c4 : defs.length <= 30
 c5 : fixes.length <= 30
 c6 : nd.length <= 20
 c7 : so.length <= 300
 dn : ∀ d ∈ defs, d.1.length <= 300
 nn : ∀ n ∈ nd, n.length <= 300
def badD (d : Def9) : Bool := decide (d.2.1 < 0) || decide (d.2.1 > 3)
def badF (n : Nat) (f : Fix9) : Bool := (f.1 != 1 && f.1 != 2) || decide (f.2.2.2.1 >= (n : Int))
def badK (k : Int) : Bool := k != 2 && k != 3
def bigS (code data tls : List Int) (bss tb : Int) : Bool := decide (bss > 1048576) || (decide (tb > 1048576) || decide (((code.length + data.length + tls.length : Nat) : Int) > 65536))
def mayS (k : Int) (code data tls : List Int) (bss tb : Int) (defs : List Def9) (fixes : List Fix9) : Int :=
 if (badK k || (defs.any badD || fixes.any (badF defs.length))) = true then 1 else if bigS code data tls bss tb = true then 13 else 0
theorem may1_eq (d : Def9) : image_may_1 d = some (badD d) := by
 unfold image_may_1 badD
 rw [jn_eq]
 by_cases h : d.2.1 < 0
 · rw [if_pos (by simpa using h), decide_eq_true h]; rfl
 · rw [if_neg (by simpa using h), decide_eq_false h]; rfl
theorem may2_eq (f : Fix9) (q : Spec9) : image_may_2 f q = some (badF q.2.2.2.2.2.2.2.2.2.1.length f) := by
 unfold image_may_2 badF
 rw [jn_eq]
 by_cases h1 : f.1 = 1
 · rw [if_neg (by simpa using h1), show (f.1 != 1) = false by simpa using h1]; rfl
 · rw [if_pos (by simpa using h1), show (f.1 != 1) = true by simpa using h1]
   by_cases h2 : f.1 = 2
   · rw [if_neg (by simpa using h2), show (f.1 != 2) = false by simpa using h2]; rfl
   · rw [if_pos (by simpa using h2), show (f.1 != 2) = true by simpa using h2]; rfl
theorem may_big {ρ : Type} {P : Option ρ -> Prop} {code data tls : List Int} {bss tb : Int} (h : code.length + data.length + tls.length <= 1000000) {k : Bool -> Option ρ} (hk : P (k (bigS code data tls bss tb))) :
    P (if (decide (bss > 1048576)) = true then k true else (if (decide (tb > 1048576)) = true then k true else k (decide ((i64.wrap ((i64.wrap (((code.length : Nat) : Int) + ((data.length : Nat) : Int))) + ((tls.length : Nat) : Int))) > 65536)))) := by
 unfold bigS at hk
 refine deP (fun c => ?_) (fun c => ?_)
 · rw [decide_eq_true c] at hk; exact hk
 · rw [decide_eq_false c] at hk
   refine deP (fun d => ?_) (fun d => ?_)
   · rw [decide_eq_true d] at hk; exact hk
   · rw [decide_eq_false d] at hk
     have e1 : i64.wrap (((code.length : Nat) : Int) + ((data.length : Nat) : Int)) = ((code.length : Nat) : Int) + ((data.length : Nat) : Int) := i64w (by omega)
     rw [e1, i64w (by omega), show ((code.length : Nat) : Int) + ((data.length : Nat) : Int) + ((tls.length : Nat) : Int) = ((code.length + data.length + tls.length : Nat) : Int) by omega]
     exact hk
theorem image_may_eq {kind : Int} {so : List UInt8} {nd : List (List UInt8)} {en : Int} {code data : List Int} {bss : Int} {tls : List Int} {tb : Int} {defs : List Def9} {fixes : List Fix9} (hd : defs.length <= 1000) (hf : fixes.length <= 1000) (h : code.length + data.length + tls.length <= 1000000) :
    image_may (kind, so, nd, en, code, data, bss, tls, tb, defs, fixes) = some (mayS kind code data tls bss tb defs fixes) := by
 have hI1 : slices_IndexFunc_image_Def_image_Def_may_1 defs = some (ixN 0 (fI badD defs)) := by
  unfold slices_IndexFunc_image_Def_image_Def_may_1
  rw [jn_eq]
  refine scan_ix defs (by omega) _ ?_ ?_
  · intro i rec hi
    rw [dif_lt hi, if_pos rfl, gd_pos (by omega), gt_nat hi, bd_eq (may1_eq _), i64s (by omega)]
  · intro rec
    rw [dif_ge (Nat.le_refl _), if_neg (by simp)]
 have hI2 : slices_IndexFunc_image_Fix_image_Fix_may_2 fixes (kind, so, nd, en, code, data, bss, tls, tb, defs, fixes) = some (ixN 0 (fI (badF defs.length) fixes)) := by
  unfold slices_IndexFunc_image_Fix_image_Fix_may_2
  rw [jn_eq]
  refine scan_ix fixes (by omega) _ ?_ ?_
  · intro i rec hi
    rw [dif_lt hi, if_pos rfl, gd_pos (by omega), gt_nat hi, bd_eq (may2_eq _ _), i64s (by omega)]
  · intro rec
    rw [dif_ge (Nat.le_refl _), if_neg (by simp)]
 have hC1 : slices_ContainsFunc_image_Def_image_Def_may_1 defs = some (defs.any badD) := by
  unfold slices_ContainsFunc_image_Def_image_Def_may_1
  rw [bd_eq hI1, ixN_ge, fI_isSome]
 have hC2 : slices_ContainsFunc_image_Fix_image_Fix_may_2 fixes (kind, so, nd, en, code, data, bss, tls, tb, defs, fixes) = some (fixes.any (badF defs.length)) := by
  unfold slices_ContainsFunc_image_Fix_image_Fix_may_2
  rw [bd_eq hI2, ixN_ge, fI_isSome]
 generalize hR : some (mayS kind code data tls bss tb defs fixes) = R
 unfold mayS at hR
 unfold image_may
 refine jnC (P := (· = R)) (fun c => c = (defs.any badD || fixes.any (badF defs.length))) ?_ (fun kk hkk => ?_)
 · rintro _ rfl
   refine jnC (P := (· = R)) (fun c => c = (badK kind || (defs.any badD || fixes.any (badF defs.length)))) ?_ (fun kk hkk => ?_)
   · rintro _ rfl
     refine ifP (P := (· = R)) (fun c => ?_) (fun c => ?_)
     · rw [if_pos c] at hR; exact hR
     · rw [if_neg c] at hR
       refine jnC (P := (· = R)) (fun c => c = bigS code data tls bss tb) ?_ (fun kk hkk => ?_)
       · rintro _ rfl
         refine ifP (P := (· = R)) (fun c => ?_) (fun c => ?_)
         · rw [if_pos c] at hR; exact hR
         · rw [if_neg c] at hR; exact hR
       exact may_big (P := (· = R)) h (hkk _ rfl)
   refine neP (P := (· = R)) (fun c => ?_) (fun c => ?_)
   · have c : kind = 2 := c
     refine hkk _ ?_
     unfold badK; rw [c]; rfl
   · have c : kind ≠ 2 := c
     refine neP (P := (· = R)) (fun d => ?_) (fun d => ?_)
     · have d : kind = 3 := d
       refine hkk _ ?_
       unfold badK; rw [d]; rfl
     · have d : kind ≠ 3 := d
       refine hkk _ ?_
       unfold badK
       rw [show (kind != 2) = true by simpa using c, show (kind != 3) = true by simpa using d]; rfl
 refine bdP (P := (· = R)) hC1 ?_
 refine ifP (P := (· = R)) (fun c => ?_) (fun c => ?_)
 · exact hkk _ (by rw [c]; rfl)
 · have c : defs.any badD = false := by simpa using c
   refine bdP (P := (· = R)) hC2 ?_
   exact hkk _ (by rw [c]; rfl)
end Dm

namespace Dm
open Go
open IntKind (u64 i64 u8 u32)
def hasD9 (data tls : List Int) (bss : Int) : Bool := decide (((data.length : Nat) : Int) > 0) || (decide (((tls.length : Nat) : Int) > 0) || decide (bss > 0))
def hasT9 (tls : List Int) (tb : Int) : Bool := decide (((tls.length : Nat) : Int) > 0) || decide (tb > 0)
def nD9 (pa pt : Int) (data tls : List Int) : Int := if tls.length = 0 then (data.length : Int) else u64.wrap (u64.wrap (pt + (tls.length : Int)) - pa)
def segA (pe : Int) : Seg := (1, 4, 0, 0, pe, pe, 256)
def segB (pc : Int) (code : List Int) : Seg := (1, 5, pc, pc, (code.length : Int), (code.length : Int), 256)
def segD (pa pt : Int) (data tls : List Int) (bss : Int) : Seg := (1, 6, if nD9 pa pt data tls = 0 then 0 else pa, pa, nD9 pa pt data tls, u64.wrap (nD9 pa pt data tls + bss), 256)
def segY (pd dyn : Int) : Seg := (2, 4, pd, pd, dyn, dyn, 8)
def segT (pt : Int) (tls : List Int) (tb : Int) : Seg := (7, 4, if tls.length = 0 then 0 else pt, if tls.length = 0 then 0 else pt, (tls.length : Int), u64.wrap ((tls.length : Int) + tb), 8)
def sgB (pc : Int) (code : List Int) : List Seg := if code.length = 0 then [] else [segB pc code]
def sgD (pa pt : Int) (data tls : List Int) (bss : Int) : List Seg := if hasD9 data tls bss = true then [segD pa pt data tls bss] else []
def sgT (pt : Int) (tls : List Int) (tb : Int) : List Seg := if hasT9 tls tb = true then [segT pt tls tb] else []
def segG (pd pc pa pt pe dyn : Int) (code data : List Int) (bss : Int) (tls : List Int) (tb : Int) : List Seg :=
 ((([segA pe] ++ sgB pc code) ++ sgD pa pt data tls bss) ++ [segY pd dyn]) ++ sgT pt tls tb
def cnt9 (code data : List Int) (bss : Int) (tls : List Int) (tb : Int) : Nat := 2 + (if code.length = 0 then 0 else 1) + (if hasD9 data tls bss = true then 1 else 0) + (if hasT9 tls tb = true then 1 else 0)
theorem segG_len (pd pc pa pt pe dyn : Int) (code data : List Int) (bss : Int) (tls : List Int) (tb : Int) : (segG pd pc pa pt pe dyn code data bss tls tb).length = cnt9 code data bss tls tb := by
 unfold segG cnt9 sgB sgD sgT
 simp only [List.length_append, List.length_singleton]
 split <;> split <;> split <;> simp
theorem hasD_eq {kind : Int} {so : List UInt8} {nd : List (List UInt8)} {en : Int} {code data : List Int} {bss : Int} {tls : List Int} {tb : Int} {defs : List Def9} {fixes : List Fix9} : image_hasData (kind, so, nd, en, code, data, bss, tls, tb, defs, fixes) = some (hasD9 data tls bss) := by
 unfold image_hasData hasD9
 rw [jn_eq]
 dsimp only
 cases decide (((data.length : Nat) : Int) > 0)
 · rw [if_neg (by decide)]
   cases decide (((tls.length : Nat) : Int) > 0)
   · rw [if_neg (by decide)]; rfl
   · rfl
 · rfl
theorem hasT_eq {kind : Int} {so : List UInt8} {nd : List (List UInt8)} {en : Int} {code data : List Int} {bss : Int} {tls : List Int} {tb : Int} {defs : List Def9} {fixes : List Fix9} : image_hasTls (kind, so, nd, en, code, data, bss, tls, tb, defs, fixes) = some (hasT9 tls tb) := by
 unfold image_hasTls hasT9
 rw [jn_eq]
 dsimp only
 cases decide (((tls.length : Nat) : Int) > 0)
 · rw [if_neg (by decide)]; rfl
 · rfl
theorem segments_eq (pd x y z pc pa pt pe dyn : Int) {kind : Int} {so : List UInt8} {nd : List (List UInt8)} {en : Int} {code data : List Int} {bss : Int} {tls : List Int} {tb : Int} {defs : List Def9} {fixes : List Fix9} (h1 : code.length <= 100000) (h2 : data.length <= 100000) (h3 : tls.length <= 100000) :
    image_plan_segments (pd, x, y, z, pc, pa, pt, pe) (kind, so, nd, en, code, data, bss, tls, tb, defs, fixes) dyn = some (segG pd pc pa pt pe dyn code data bss tls tb) := by
 generalize hR : some (segG pd pc pa pt pe dyn code data bss tls tb) = R
 have u1 : u64.wrap ((code.length : Nat) : Int) = ((code.length : Nat) : Int) := u64w (by omega)
 have u2 : u64.wrap ((data.length : Nat) : Int) = ((data.length : Nat) : Int) := u64w (by omega)
 have u3 : u64.wrap ((tls.length : Nat) : Int) = ((tls.length : Nat) : Int) := u64w (by omega)
 have lB : (sgB pc code).length <= 1 := by unfold sgB; split <;> simp
 have lD : (sgD pa pt data tls bss).length <= 1 := by unfold sgD; split <;> simp
 unfold image_plan_segments
 dsimp only
 rw [u1, u2, u3]
 refine letP (P := (· = R)) ?_
 refine jnC (P := (· = R)) (fun c => c = [segA pe] ++ sgB pc code) ?_ (fun kk hkk => ?_)
 · rintro _ rfl
   refine bdP (P := (· = R)) hasD_eq ?_
   refine jnC (P := (· = R)) (fun c => c = ([segA pe] ++ sgB pc code) ++ sgD pa pt data tls bss) ?_ (fun kk hkk => ?_)
   · rintro _ rfl
     refine gdP (P := (· = R)) (by simp only [List.length_append, List.length_singleton]; omega) ?_
     refine bdP (P := (· = R)) hasT_eq ?_
     refine jnC (P := (· = R)) (fun c => c = segG pd pc pa pt pe dyn code data bss tls tb) ?_ (fun kk hkk => ?_)
     · rintro _ rfl; exact hR
     refine ifP (P := (· = R)) (fun c => ?_) (fun c => ?_)
     · refine letP (P := (· = R)) ?_
       refine jnC (P := (· = R)) (fun c => c = if tls.length = 0 then 0 else pt) ?_ (fun k2 hk2 => ?_)
       · rintro _ rfl
         refine gdP (P := (· = R)) (by simp only [List.length_append, List.length_singleton]; omega) ?_
         refine hkk _ ?_
         unfold segG sgT
         rw [if_pos c]
         rfl
       refine eqP (P := (· = R)) (fun c => hk2 _ ?_) (fun c => hk2 _ ?_)
       · rw [if_pos (by omega)]
       · rw [if_neg (by omega)]
     · refine hkk _ ?_
       unfold segG sgT
       rw [if_neg c, List.append_nil]
       rfl
   refine ifP (P := (· = R)) (fun c => ?_) (fun c => ?_)
   · refine letP (P := (· = R)) ?_
     refine jnC (P := (· = R)) (fun c => c = nD9 pa pt data tls) ?_ (fun k2 hk2 => ?_)
     · rintro _ rfl
       refine jnC (P := (· = R)) (fun c => c = if nD9 pa pt data tls = 0 then 0 else pa) ?_ (fun k3 hk3 => ?_)
       · rintro _ rfl
         refine gdP (P := (· = R)) (by simp only [List.length_append, List.length_singleton]; omega) ?_
         refine hkk _ ?_
         unfold sgD
         rw [if_pos c]
         rfl
       refine eqP (P := (· = R)) (fun c => hk3 _ ?_) (fun c => hk3 _ ?_)
       · rw [if_pos c]
       · rw [if_neg c]
     refine eqP (P := (· = R)) (fun c => ?_) (fun c => hk2 _ ?_)
     · refine letP (P := (· = R)) (hk2 _ ?_)
       unfold nD9
       rw [if_pos (by omega)]
     · unfold nD9
       rw [if_neg (by omega)]
   · refine hkk _ ?_
     unfold sgD
     rw [if_neg c, List.append_nil]
 refine deP (P := (· = R)) (fun c => ?_) (fun c => ?_)
 · refine gdP (P := (· = R)) (by simp) ?_
   refine hkk _ ?_
   unfold sgB
   rw [if_neg (by omega)]
   rfl
 · refine hkk _ ?_
   unfold sgB
   rw [if_pos (by omega)]
   rfl
def kindv (w : Int) : Int := if w = 0 then 0 else if w = 1 then 2 else if w = 2 then 1 else 6
def placev (pc pa w : Int) : Int := if w = 1 then pc else if w = 2 then pa else 0
def symOf (pc pa a : Int) (d : Def9) : Sym := (u32.wrap a, (if d.2.2.2 = true then 32 else 16) + kindv d.2.1, 0, if d.2.1 = 0 then 0 else 1, if d.2.1 = 0 then 0 else u64.wrap (placev pc pa d.2.1 + d.2.2.1), 0)
def symsI (pc pa : Int) (ats : List Int) (defs : List Def9) (i : Nat) : List Int := yput (0, 0, 0, 0, 0, 0) ++ ((List.range i).map fun (k : Nat) => yput (symOf pc pa (gt ats (k : Int)) (gt defs (k : Int)))).flatten
def symsG (pc pa : Int) (ats : List Int) (defs : List Def9) : List Int := if defs.length = 0 then [] else symsI pc pa ats defs defs.length
theorem symsI_succ (pc pa : Int) (ats : List Int) (defs : List Def9) (i : Nat) : symsI pc pa ats defs (i + 1) = symsI pc pa ats defs i ++ yput (symOf pc pa (gt ats (i : Int)) (gt defs (i : Int))) := by
 unfold symsI
 rw [List.range_succ, List.map_append, List.flatten_append, List.append_assoc]
 simp
theorem symsI_zero (pc pa : Int) (ats : List Int) (defs : List Def9) : symsI pc pa ats defs 0 = yput (0, 0, 0, 0, 0, 0) := by unfold symsI; simp
theorem symsI_len (pc pa : Int) (ats : List Int) (defs : List Def9) : ∀ i, (symsI pc pa ats defs i).length = 24 + 24 * i
 | 0 => by unfold symsI; rw [List.length_append, yput_length]; rfl
 | i + 1 => by rw [symsI_succ, List.length_append, yput_length, symsI_len pc pa ats defs i]; omega
theorem symsI_bytes (pc pa : Int) (ats : List Int) (defs : List Def9) : ∀ i, Bytes (symsI pc pa ats defs i)
 | 0 => by rw [symsI_zero]; exact yput_bytes _
 | i + 1 => by rw [symsI_succ]; exact (symsI_bytes pc pa ats defs i).append (yput_bytes _)
theorem symsG_bytes (pc pa : Int) (ats : List Int) (defs : List Def9) : Bytes (symsG pc pa ats defs) := by
 unfold symsG; split
 · exact Bytes.nil
 · exact symsI_bytes _ _ _ _ _
theorem u32k (a : Int) : InK .u32 (u32.wrap a) := ⟨by show (0 : Int) <= _; rw [wrap_u32]; omega, by show _ <= (4294967295 : Int); rw [wrap_u32]; omega⟩
theorem u64k (a : Int) : InK .u64 (u64.wrap a) := ⟨by show (0 : Int) <= _; rw [wrap_u64]; omega, by show _ <= (18446744073709551615 : Int); rw [wrap_u64]; omega⟩
theorem symOf_wf (pc pa a : Int) (d : Def9) : Wf06 (symOf pc pa a d) := by
 refine ⟨u32k _, ?_, by show InK .u8 (0 : Int); decide, ?_, ?_, by show InK .u64 (0 : Int); decide⟩
 · show InK .u8 ((if d.2.2.2 = true then 32 else 16) + kindv d.2.1)
   unfold kindv
   split <;> split <;> (try split) <;> (try split) <;> decide
 · show InK .u16 (if d.2.1 = 0 then 0 else 1)
   split <;> decide
 · show InK .u64 (if d.2.1 = 0 then 0 else u64.wrap (placev pc pa d.2.1 + d.2.2.1))
   split
   · decide
   · exact u64k _
def OkD (d : Def9) : Prop := 0 <= d.2.1 /\ d.2.1 <= 3 /\ InK .u64 d.2.2.1
theorem place_eq (a b c d pc pa e f w : Int) : image_plan_place (a, b, c, d, pc, pa, e, f) w = some (placev pc pa w) := by
 unfold image_plan_place placev
 dsimp only
 by_cases h1 : w = 1
 · rw [if_pos (by simpa using h1), if_pos h1]
 · rw [if_neg (by simpa using h1), if_neg h1]
   by_cases h2 : w = 2
   · rw [if_pos (by simpa using h2), if_pos h2]
   · rw [if_neg (by simpa using h2), if_neg h2]
theorem kind_eq {w : Int} (h0 : 0 <= w) (h3 : w <= 3) : image_kind w = some (kindv w) := by
 unfold image_kind
 rw [gd_pos (by omega)]
 have : w = 0 \/ w = 1 \/ w = 2 \/ w = 3 := by omega
 rcases this with rfl | rfl | rfl | rfl <;> rfl
theorem kindv_bd (w : Int) : 0 <= kindv w /\ kindv w <= 6 := by
 unfold kindv
 split
 · omega
 · split
   · omega
   · split <;> omega
theorem entries_eq (a b c d pc pa e f : Int) {kind : Int} {so : List UInt8} {nd : List (List UInt8)} {en : Int} {code data : List Int} {bss : Int} {tls : List Int} {tb : Int} {defs : List Def9} {fixes : List Fix9} (hd : defs.length <= 1000) (hok : ∀ x ∈ defs, OkD x) {ats : List Int} (hat : defs.length <= ats.length) :
    image_plan_entries (a, b, c, d, pc, pa, e, f) (kind, so, nd, en, code, data, bss, tls, tb, defs, fixes) ats = some (symsG pc pa ats defs) := by
 generalize hR : some (symsG pc pa ats defs) = R
 unfold symsG at hR
 unfold image_plan_entries
 refine eqP (P := (· = R)) (fun c => ?_) (fun c => ?_)
 · have c : ((defs.length : Nat) : Int) = 0 := c
   rw [if_pos (by omega)] at hR; exact hR
 have c : ((defs.length : Nat) : Int) ≠ 0 := c
 rw [if_neg (by omega)] at hR
 refine bdP (P := (· = R)) (symbols_Put_eq (by decide : Wf06 ((0, 0, 0, 0, 0, 0) : Sym))) ?_
 refine gdP (P := (· = R)) (by simp [yput_length]) ?_
 refine jnC (P := (· = R)) (fun c => c = symsI pc pa ats defs defs.length) ?_ (fun kk hkk => ?_)
 · rintro _ rfl; exact hR
 refine scan_Q (P := (· = R)) defs (by omega) (fun _ => 0) (fun i => (symsI pc pa ats defs i, (i : Int))) (kk (symsI pc pa ats defs defs.length)) (fun _ _ => none) (by show (([] : List Int) ++ yput (0, 0, 0, 0, 0, 0), (0 : Int)) = (symsI pc pa ats defs 0, ((0 : Nat) : Int)); rw [symsI_zero]; rfl) (fun _ => hkk _ rfl) (fun _ h => absurd (firstE_zero _ _ fun _ _ => rfl) h) (fun i rec hi Q q0 _ => ?_) (fun rec Q q => ?_)
 · have hgi : gt defs (i : Int) = defs[i] := gt_nat hi
   obtain ⟨o1, o2, o3⟩ := hok _ (List.getElem_mem hi)
   have hkb := kindv_bd defs[i].2.1
   refine tP (dif_lt hi) ?_
   refine gdP (by show (0 : Int) <= i /\ (i : Int) < ((defs.length : Nat) : Int); omega) ?_
   refine gdP (by show (0 : Int) <= i /\ (i : Int) < ((ats.length : Nat) : Int); omega) ?_
   refine bdP (place_eq _ _ _ _ _ _ _ _ _) ?_
   refine jnC (fun c => c = (u32.wrap (gt ats (i : Int)), (if defs[i].2.2.2 = true then 32 else 16), 0, 1, u64.wrap (placev pc pa defs[i].2.1 + defs[i].2.2.1), 0)) ?_ (fun k2 hk2 => ?_)
   · rintro _ rfl
     have hkd : image_kind (gt defs (i : Int)).2.1 = some (kindv defs[i].2.1) := by rw [hgi]; exact kind_eq o1 o2
     refine bdP hkd ?_
     have e8 : u8.wrap ((if defs[i].2.2.2 = true then 32 else 16) + kindv defs[i].2.1) = (if defs[i].2.2.2 = true then 32 else 16) + kindv defs[i].2.1 := by
      apply u8w
      split <;> omega
     refine jnC (fun c => c = symOf pc pa (gt ats (i : Int)) defs[i]) ?_ (fun k3 hk3 => ?_)
     · rintro _ rfl
       refine bdP (symbols_Put_eq (symOf_wf _ _ _ _)) ?_
       refine gdP (by show ((symsI pc pa ats defs i).length + (yput _).length) * 1 <= _; rw [symsI_len, yput_length]; omega) ?_
       have q := q0 rfl
       rw [<- i64s (by omega), symsI_succ, hgi] at q
       exact q
     refine eqP (fun c => ?_) (fun c => ?_)
     · have c : defs[i].2.1 = 0 := by rw [<- hgi]; exact c
       refine hk3 _ ?_
       dsimp only
       rw [e8]
       unfold symOf
       rw [if_pos c, if_pos c]
     · have c : defs[i].2.1 ≠ 0 := by rw [<- hgi]; exact c
       refine hk3 _ ?_
       dsimp only
       rw [e8]
       unfold symOf
       rw [if_neg c, if_neg c]
   refine ifP (fun c => ?_) (fun c => ?_)
   · have c : defs[i].2.2.2 = true := by rw [<- hgi]; exact c
     refine hk2 _ ?_
     rw [if_pos c, hgi]
   · have c : ¬ defs[i].2.2.2 = true := by rw [<- hgi]; exact c
     refine hk2 _ ?_
     rw [if_neg c, hgi]
 · exact fP (by show ¬ decide (((defs.length : Nat) : Int) < ((defs.length : Nat) : Int)) = true; simp) q
def symnF (f : Fix9) : Int := if f.2.2.2.1 >= 0 then u32.wrap (i64.wrap (f.2.2.2.1 + 1)) else 0
def relOf (pc pa : Int) (f : Fix9) : Rel7 := (u64.wrap (placev pc pa f.1 + f.2.1), f.2.2.1, symnF f, f.2.2.2.2)
def relsG (pc pa : Int) (fixes : List Fix9) : List Int := (fixes.map fun f => rput (relOf pc pa f)).flatten
theorem relsG_len (pc pa : Int) : ∀ fixes : List Fix9, (relsG pc pa fixes).length = 24 * fixes.length
 | [] => rfl
 | f :: l => by
  have := relsG_len pc pa l
  unfold relsG at this ⊢
  rw [List.map_cons, List.flatten_cons, List.length_append, rput_length, this, List.length_cons]; omega
theorem relsG_bytes (pc pa : Int) : ∀ fixes : List Fix9, Bytes (relsG pc pa fixes)
 | [] => Bytes.nil
 | f :: l => by
  have := relsG_bytes pc pa l
  unfold relsG at this ⊢
  rw [List.map_cons, List.flatten_cons]
  exact (rput_bytes _).append this
def OkF (f : Fix9) : Prop := (f.1 = 1 \/ f.1 = 2) /\ InK .u64 f.2.1 /\ InK .u32 f.2.2.1 /\ InK .i64 f.2.2.2.1 /\ f.2.2.2.1 <= 100000 /\ InK .i64 f.2.2.2.2
theorem relOf_wf {pc pa : Int} {f : Fix9} (h : OkF f) : Wf07 (relOf pc pa f) := by
 refine ⟨u64k _, h.2.2.1, ?_, h.2.2.2.2.2⟩
 show InK .u32 (symnF f)
 unfold symnF
 split
 · exact u32k _
 · decide
theorem fixes_eq (a b c d pc pa e f : Int) {kind : Int} {so : List UInt8} {nd : List (List UInt8)} {en : Int} {code data : List Int} {bss : Int} {tls : List Int} {tb : Int} {defs : List Def9} {fixes : List Fix9} (hf : fixes.length <= 1000) (hok : ∀ x ∈ fixes, OkF x) :
    image_plan_fixes (a, b, c, d, pc, pa, e, f) (kind, so, nd, en, code, data, bss, tls, tb, defs, fixes) = some (relsG pc pa fixes) := by
 generalize hR : some (relsG pc pa fixes) = R
 unfold image_plan_fixes
 refine jnC (P := (· = R)) (fun c => c = relsG pc pa fixes) ?_ (fun kk hkk => ?_)
 · rintro _ rfl; exact hR
 refine scan_Q (P := (· = R)) fixes (by omega) (fun _ => 0) (fun i => (relsG pc pa (fixes.take i), (i : Int))) (kk (relsG pc pa fixes)) (fun _ _ => none) rfl (fun _ => hkk _ rfl) (fun _ h => absurd (firstE_zero _ _ fun _ _ => rfl) h) (fun i rec hi Q q0 _ => ?_) (fun rec Q q => ?_)
 · have hgi : gt fixes (i : Int) = fixes[i] := gt_nat hi
   have ho := hok _ (List.getElem_mem hi)
   obtain ⟨o1, o2, o3, o4, o5, o6⟩ := ho
   have o4 := inK_i64 o4
   refine tP (dif_lt hi) ?_
   refine gdP (by show (0 : Int) <= i /\ (i : Int) < ((fixes.length : Nat) : Int); omega) ?_
   refine bdP (place_eq _ _ _ _ _ _ _ _ _) ?_
   have es : u32.wrap (imax (i64.wrap (fixes[i].2.2.2.1 + 1)) 0) = symnF fixes[i] := by
    unfold symnF imax
    rw [i64w (by omega)]
    by_cases h : fixes[i].2.2.2.1 >= 0
    · rw [if_pos h, if_neg (by omega)]
    · rw [if_neg h]
      by_cases h2 : (0 : Int) > fixes[i].2.2.2.1 + 1
      · rw [if_pos h2]; rfl
      · rw [if_neg h2, show fixes[i].2.2.2.1 + 1 = 0 by omega]; rfl
   refine bdP (x := rput (relOf pc pa fixes[i])) (by
    show rela_Put (u64.wrap (placev pc pa (gt fixes (i : Int)).1 + (gt fixes (i : Int)).2.1), (gt fixes (i : Int)).2.2.1, u32.wrap (imax (i64.wrap ((gt fixes (i : Int)).2.2.2.1 + 1)) 0), (gt fixes (i : Int)).2.2.2.2) = _
    rw [hgi, es]
    exact rela_Put_eq (relOf_wf (hok _ (List.getElem_mem hi)))) ?_
   refine gdP (by show ((relsG pc pa (fixes.take i)).length + (rput _).length) * 1 <= _; rw [relsG_len, rput_length, List.length_take]; omega) ?_
   have q := q0 rfl
   have ea : relsG pc pa (fixes.take (i + 1)) = relsG pc pa (fixes.take i) ++ rput (relOf pc pa fixes[i]) := by
    unfold relsG
    rw [take_succ hi, List.map_append, List.flatten_append, List.map_singleton, List.flatten_singleton]
   rw [<- i64s (by omega), ea] at q
   exact q
 · refine fP (by show ¬ decide (((fixes.length : Nat) : Int) < ((fixes.length : Nat) : Int)) = true; simp) ?_
   rw [List.take_length]
   exact q
def padTo (o : List Int) (n : Nat) : List Int := o ++ List.replicate (n - o.length) 0
def putIf (o b : List Int) (n : Nat) : List Int := if b.length = 0 then o else padTo o n ++ b
theorem padTo_len (o : List Int) (n : Nat) : (padTo o n).length = max o.length n := by unfold padTo; rw [List.length_append, List.length_replicate]; omega
theorem padTo_self {o : List Int} {n : Nat} (h : n <= o.length) : padTo o n = o := by unfold padTo; rw [show n - o.length = 0 by omega]; simp
theorem zeros_bytes (n : Nat) : Bytes (List.replicate n 0) := fun x hx => by rw [List.mem_replicate] at hx; obtain ⟨_, rfl⟩ := hx; decide
theorem padTo_bytes {o : List Int} (h : Bytes o) (n : Nat) : Bytes (padTo o n) := h.append (zeros_bytes _)
theorem putIf_bytes {o b : List Int} (h : Bytes o) (hb : Bytes b) (n : Nat) : Bytes (putIf o b n) := by
 unfold putIf; split
 · exact h
 · exact (padTo_bytes h n).append hb
theorem putB_eq {o b : List Int} {n : Nat} (h : b.length = 0 \/ o.length <= n) (hn : n <= 10000000) (hb : b.length <= 10000000) : image_Build_1 (n : Int) b o = some (putIf o b n) := by
 unfold image_Build_1 putIf
 rw [jn_eq]
 by_cases h0 : b.length = 0
 · rw [if_neg (by rw [decide_eq_true_eq]; omega), if_pos h0]
 · have hl : o.length <= n := h.resolve_left h0
   have e1 : u64.wrap ((o.length : Nat) : Int) = ((o.length : Nat) : Int) := u64w (by omega)
   have e2 : u64.wrap ((n : Int) - ((o.length : Nat) : Int)) = ((n - o.length : Nat) : Int) := by rw [u64w (by omega)]; omega
   rw [if_pos (by rw [decide_eq_true_eq]; omega), if_neg h0, e1, e2]
   refine (gd_pos (by omega)).trans ?_
   refine (gd_pos (by rw [List.length_append, List.length_replicate]; omega)).trans ?_
   rfl
def upN (x n : Nat) : Nat := (x + n - 1) / n * n
theorem up8_eq {x : Nat} (hx : x <= 10000000) : image_up (x : Int) 8 = some ((upN x 8 : Nat) : Int) := by
 have hd : octets_Down (x : Int) 8 = some (((x / 8 * 8 : Nat) : Int), 0) := by
  unfold octets_Down
  rw [jn_eq, if_neg (by decide)]
  have e : (band .u64 8 (u64.wrap (8 - 1)) != 0) = false := by decide
  rw [e]
  have hb := bandn_pow (x := x) (k := 3) (by omega) (by omega)
  have e2 : u64.wrap (8 - 1) = ((2 ^ 3 - 1 : Nat) : Int) := by rw [u64w (by omega)]; rfl
  rw [e2, hb]
  dsimp only
  rw [if_neg (by simp)]
 unfold image_up octets_Up upN
 rw [bd_eq hd, jn_eq, if_neg (by simp)]
 dsimp only
 by_cases he : x / 8 * 8 = x
 · rw [if_pos (by simp; omega), some_bind]
   congr 2; omega
 · have e : u64.wrap (((x / 8 * 8 : Nat) : Int) + 8) = ((x / 8 * 8 + 8 : Nat) : Int) := by rw [u64w (by omega)]; omega
   rw [if_neg (by simp; omega), e, if_neg (by simp; omega), some_bind]
   congr 2; omega
theorem up256_eq {x : Nat} (hx : x <= 10000000) : image_up (x : Int) 256 = some ((upN x 256 : Nat) : Int) := by
 unfold image_up upN
 rw [bd_eq (up256 (by omega) (by omega))]
 dsimp only
 congr 1
theorem upN_ge (x : Nat) {n : Nat} (hn : n = 8 \/ n = 256) : x <= upN x n /\ upN x n < x + n := by
 unfold upN
 rcases hn with rfl | rfl <;> omega
end Dm

namespace Dm
open Go
open IntKind (u64 i64 u8 u32)
abbrev K9 (s : Spec9) := s.1
abbrev So9 (s : Spec9) := s.2.1
abbrev Nd9 (s : Spec9) := s.2.2.1
abbrev En9 (s : Spec9) := s.2.2.2.1
abbrev Co9 (s : Spec9) := s.2.2.2.2.1
abbrev Da9 (s : Spec9) := s.2.2.2.2.2.1
abbrev Bs9 (s : Spec9) := s.2.2.2.2.2.2.1
abbrev Tl9 (s : Spec9) := s.2.2.2.2.2.2.2.1
abbrev Tb9 (s : Spec9) := s.2.2.2.2.2.2.2.2.1
abbrev De9 (s : Spec9) := s.2.2.2.2.2.2.2.2.2.1
abbrev Fi9 (s : Spec9) := s.2.2.2.2.2.2.2.2.2.2
def l9 (s : Spec9) : List (List UInt8) := ([So9 s] ++ Nd9 s) ++ (De9 s).map (·.1)
def tb9 (s : Spec9) : List Int := (bfold (l9 s)).1
def at9 (s : Spec9) : List Int := (bfold (l9 s)).2.1
def nm9 (s : Spec9) : List Int := cutL (at9 s) 1 (((1 + (Nd9 s).length : Nat)) : Int)
def so9 (s : Spec9) : Int := gt (at9 s) 0
def sn9 (s : Spec9) : Nat := if (De9 s).length = 0 then 0 else (De9 s).length + 1
def rz9 (s : Spec9) : Nat := 24 * (Fi9 s).length
def inf9 (s : Spec9) (a b c : Int) : Inf := (nm9 s, so9 s, a, ((tb9 s).length : Int), b, (sn9 s : Int), c, (rz9 s : Int))
def dn9 (s : Spec9) : Nat := (dput (inf9 s 0 0 0)).length
def ct9 (s : Spec9) : Nat := cnt9 (Co9 s) (Da9 s) (Bs9 s) (Tl9 s) (Tb9 s)
def pd9 (s : Spec9) : Nat := 64 + 56 * ct9 s
def pt9 (s : Spec9) : Nat := pd9 s + dn9 s
def ps9 (s : Spec9) : Nat := upN (pt9 s + (tb9 s).length) 8
def pr9 (s : Spec9) : Nat := ps9 s + 24 * sn9 s
def pe9 (s : Spec9) : Nat := pr9 s + rz9 s
def pc9 (s : Spec9) : Nat := upN (pe9 s) 256
def pa9 (s : Spec9) : Nat := upN (pc9 s + (Co9 s).length) 256
def pl9 (s : Spec9) : Nat := upN (pa9 s + (Da9 s).length) 8
def en9 (s : Spec9) : Int := if (Co9 s).length = 0 then 0 else u64.wrap ((pc9 s : Int) + En9 s)
def sg9 (s : Spec9) : List Seg := segG (pd9 s) (pc9 s) (pa9 s) (pl9 s) (pe9 s) (dn9 s) (Co9 s) (Da9 s) (Bs9 s) (Tl9 s) (Tb9 s)
def hd9 (s : Spec9) : List Int := hput (K9 s, en9 s, 64, (ct9 s : Int))
def dp9 (s : Spec9) : List Int := dput (inf9 s (pt9 s) (ps9 s) (pr9 s))
def oh9 (s : Spec9) : List Int := hd9 s ++ ((sg9 s).map sput).flatten
def oa9 (s : Spec9) : List Int := (oh9 s ++ dp9 s) ++ tb9 s
def ob9 (s : Spec9) : List Int := padTo (oa9 s) (ps9 s)
def sy9 (s : Spec9) : List Int := symsG (pc9 s) (pa9 s) ((at9 s).drop (1 + (Nd9 s).length)) (De9 s)
def rl9 (s : Spec9) : List Int := relsG (pc9 s) (pa9 s) (Fi9 s)
def oc9 (s : Spec9) : List Int := putIf (ob9 s) (sy9 s) (ps9 s)
def od9 (s : Spec9) : List Int := putIf (oc9 s) (rl9 s) (pr9 s)
def oe9 (s : Spec9) : List Int := putIf (od9 s) (Co9 s) (pc9 s)
def of9 (s : Spec9) : List Int := putIf (oe9 s) (Da9 s) (pa9 s)
def og9 (s : Spec9) : List Int := putIf (of9 s) (Tl9 s) (pl9 s)
def may9 (s : Spec9) : Int := mayS (K9 s) (Co9 s) (Da9 s) (Tl9 s) (Bs9 s) (Tb9 s) (De9 s) (Fi9 s)
def BuildS (s : Spec9) : List Int × Int :=
 if may9 s = 0 then (if (buildS (l9 s)).2.2 = 0 then (if (og9 s).length > 65536 then ([], 13) else (og9 s, 0)) else ([], (buildS (l9 s)).2.2)) else ([], may9 s)
abbrev FewS (s : Spec9) : Prop := Few (So9 s) (Nd9 s) (Co9 s) (Da9 s) (Tl9 s) (De9 s) (Fi9 s)
structure Bd (s : Spec9) : Prop where
 tot : tot (l9 s) <= 16000
 tb : 1 <= (tb9 s).length /\ (tb9 s).length <= 16001
 at_ : (at9 s).length = 1 + (Nd9 s).length + (De9 s).length
 val : ∀ a ∈ at9 s, 0 <= a /\ a < (tb9 s).length
 nm : (nm9 s).length = (Nd9 s).length
 nmv : ∀ a ∈ nm9 s, 0 <= a /\ a < (tb9 s).length
 sov : 0 <= so9 s /\ so9 s < (tb9 s).length
 ct : 2 <= ct9 s /\ ct9 s <= 5
 dn : dn9 s <= 448
 dp : ∀ a b c, (dput (inf9 s a b c)).length = dn9 s
 sn : sn9 s <= 31
 rz : rz9 s <= 720
 ps : pt9 s + (tb9 s).length <= ps9 s /\ ps9 s < pt9 s + (tb9 s).length + 8
 pc : pe9 s <= pc9 s /\ pc9 s < pe9 s + 256
 pa : pc9 s + (Co9 s).length <= pa9 s /\ pa9 s < pc9 s + (Co9 s).length + 256
 pl : pa9 s + (Da9 s).length <= pl9 s /\ pl9 s < pa9 s + (Da9 s).length + 8
theorem tot_le {l : List (List UInt8)} {m : Nat} (h : ∀ x ∈ l, x.length <= m) : tot l <= (m + 1) * l.length := by
 induction l with
 | nil => simp [tot]
 | cons x xs ih =>
  have h1 := ih fun y hy => h y (by simp [hy])
  have h2 := h x (by simp)
  have e : tot (x :: xs) = x.length + 1 + tot xs := by unfold tot; rw [List.map_cons, List.sum_cons]
  rw [e, List.length_cons, Nat.mul_add]
  omega
theorem dput_len_eq {x y : Inf} (h0 : x.1 = y.1) (h1 : x.2.1 = y.2.1) (h2 : x.2.2.2.2.2.1 = y.2.2.2.2.2.1) (h3 : x.2.2.2.2.2.2.2 = y.2.2.2.2.2.2.2) : (dput x).length = (dput y).length := by
 have hp : ∀ i, (dpart x i).length = (dpart y i).length := by
  intro i
  unfold dpart
  rw [h1, h2, h3]
  split <;> (try split) <;> simp [ent_len]
 have ha : ∀ i, (dacc x i).length = (dacc y i).length := by
  intro i
  induction i with
  | zero => unfold dacc dneed; rw [h0]; rfl
  | succ i ih => rw [dacc_succ, dacc_succ, List.length_append, List.length_append, ih, hp]
 unfold dput
 rw [List.length_append, List.length_append, ha]
theorem zip_mem {α β : Type} : ∀ {l : List α} {m : List β}, m.length = l.length -> ∀ b ∈ m, ∃ a, (a, b) ∈ l.zip m
 | [], [], _, b, h => by simp at h
 | x :: l, y :: m, h, b, hb => by
  rw [List.mem_cons] at hb
  rcases hb with rfl | hb
  · exact ⟨x, by simp⟩
  · obtain ⟨a, ha⟩ := zip_mem (l := l) (m := m) (by simpa using h) b hb
    exact ⟨a, by rw [List.zip_cons_cons, List.mem_cons]; exact .inr ha⟩
 | [], _ :: _, h, _, _ => by simp at h
 | _ :: _, [], h, _, _ => by simp at h
theorem cutL_mem {α : Type} {xs : List α} {a b : Int} {x : α} (h : x ∈ cutL xs a b) : x ∈ xs := by
 unfold cutL at h
 exact List.mem_of_mem_take (List.mem_of_mem_drop h)
theorem bd9 {s : Spec9} (hf : FewS s) : Bd s := by
 have hl : (l9 s).length = 1 + (Nd9 s).length + (De9 s).length := by unfold l9; rw [List.length_append, List.length_append, List.length_map, List.length_singleton]
 have hB := BI.all (l9 s)
 have ht : tot (l9 s) <= 16000 := by
  have h1 := tot_le (l := l9 s) (m := 300) (fun x hx => by
   unfold l9 at hx
   rw [List.mem_append, List.mem_append, List.mem_singleton, List.mem_map] at hx
   rcases hx with (rfl | hx) | ⟨d, hd, rfl⟩
   · exact hf.c7
   · exact hf.nn x hx
   · exact hf.dn d hd)
  have := hf.c6
  have := hf.c4
  have h2 : (300 + 1) * (l9 s).length <= (300 + 1) * 51 := Nat.mul_le_mul_left _ (by omega)
  omega
 have hlen : (at9 s).length = 1 + (Nd9 s).length + (De9 s).length := by rw [<- hl]; exact hB.len
 have htb : 1 <= (tb9 s).length /\ (tb9 s).length <= 16001 := ⟨hB.pos, by have := hB.top; unfold tb9; omega⟩
 have hval : ∀ a ∈ at9 s, 0 <= a /\ a < (tb9 s).length := fun a ha => by
  obtain ⟨x, hx⟩ := zip_mem (l := l9 s) (m := at9 s) hB.len a ha
  exact hB.val x a (hB.own x a hx)
 have hnm : (nm9 s).length = (Nd9 s).length := by
  unfold nm9 cutL
  rw [List.length_drop, List.length_take]
  have := hf.c6
  simp only [Int.toNat_natCast]
  have : Int.toNat 1 = 1 := rfl
  omega
 have hct : 2 <= ct9 s /\ ct9 s <= 5 := by
  unfold ct9 cnt9
  split <;> split <;> split <;> omega
 have hdn : dn9 s <= 448 := by
  have := dput_len (inf9 s 0 0 0)
  have e : (inf9 s 0 0 0).1.length = (Nd9 s).length := hnm
  have := hf.c6
  unfold dn9; omega
 have hps := upN_ge (pt9 s + (tb9 s).length) (n := 8) (.inl rfl)
 have hpc := upN_ge (pe9 s) (n := 256) (.inr rfl)
 have hpa := upN_ge (pc9 s + (Co9 s).length) (n := 256) (.inr rfl)
 have hpl := upN_ge (pa9 s + (Da9 s).length) (n := 8) (.inl rfl)
 refine ⟨ht, htb, hlen, hval, hnm, fun a ha => hval a (cutL_mem ha), ?_, hct, hdn, fun a b c => dput_len_eq rfl rfl rfl rfl, ?_, ?_, hps, hpc, hpa, hpl⟩
 · have h0 : 0 < (at9 s).length := by omega
   have e : so9 s = (at9 s)[0] := gt_nat (i := 0) h0
   rw [e]
   exact hval _ (List.getElem_mem h0)
 · have := hf.c4
   unfold sn9; split <;> omega
 · have := hf.c5
   unfold rz9; omega
theorem k64 {n : Nat} (h : n <= 1000000000) : InK .u64 (n : Int) := ⟨by show (0 : Int) <= _; omega, by show _ <= (18446744073709551615 : Int); omega⟩
structure Pl (s : Spec9) : Prop where
 pd : pd9 s <= 344
 pt : pt9 s <= 800
 ps : ps9 s <= 17000
 pr : pr9 s <= 18000
 pe : pe9 s <= 19000
 pc : pc9 s <= 20000
 pa : pa9 s <= 24000
 pl : pl9 s <= 28000
theorem pl9_le {s : Spec9} (hf : FewS s) : Pl s := by
 have b := bd9 hf
 have h1 : pd9 s <= 344 := by have := b.ct; unfold pd9; omega
 have h2 : pt9 s <= 800 := by have := b.dn; unfold pt9; omega
 have h3 : ps9 s <= 17000 := by have := b.ps; have := b.tb; omega
 have h4 : pr9 s <= 18000 := by have := b.sn; unfold pr9; omega
 have h5 : pe9 s <= 19000 := by have := b.rz; unfold pe9; omega
 have h6 : pc9 s <= 20000 := by have := b.pc; omega
 have h7 : pa9 s <= 24000 := by have := b.pa; have := hf.c1; omega
 have h8 : pl9 s <= 28000 := by have := b.pl; have := hf.c2; omega
 exact ⟨h1, h2, h3, h4, h5, h6, h7, h8⟩
theorem sg9_wf {s : Spec9} (hf : FewS s) : ∀ y ∈ sg9 s, Wf04 y := by
 have p := pl9_le hf
 have b := bd9 hf
 have kd := k64 (n := pd9 s) (by have := p.pd; omega)
 have kc := k64 (n := pc9 s) (by have := p.pc; omega)
 have ka := k64 (n := pa9 s) (by have := p.pa; omega)
 have kl := k64 (n := pl9 s) (by have := p.pl; omega)
 have ke := k64 (n := pe9 s) (by have := p.pe; omega)
 have kn := k64 (n := dn9 s) (by have := b.dn; omega)
 have kco := k64 (n := (Co9 s).length) (by have := hf.c1; omega)
 have kda := k64 (n := (Da9 s).length) (by have := hf.c2; omega)
 have ktl := k64 (n := (Tl9 s).length) (by have := hf.c3; omega)
 have z : InK .u64 (0 : Int) := by decide
 have knd : InK .u64 (nD9 (pa9 s) (pl9 s) (Da9 s) (Tl9 s)) := by
  unfold nD9
  split
  · exact kda
  · exact u64k _
 intro y hy
 unfold sg9 segG at hy
 simp only [List.mem_append, List.mem_singleton] at hy
 rcases hy with (((rfl | hy) | hy) | rfl) | hy
 · exact ⟨by show InK .u32 (1 : Int); decide, by show InK .u32 (4 : Int); decide, z, z, ke, ke, by show InK .u64 (256 : Int); decide⟩
 · unfold sgB at hy
   split at hy
   · simp at hy
   · have : y = segB (pc9 s) (Co9 s) := by simpa using hy
     subst this
     exact ⟨by show InK .u32 (1 : Int); decide, by show InK .u32 (5 : Int); decide, kc, kc, kco, kco, by show InK .u64 (256 : Int); decide⟩
 · unfold sgD at hy
   split at hy
   · have : y = segD (pa9 s) (pl9 s) (Da9 s) (Tl9 s) (Bs9 s) := by simpa using hy
     subst this
     refine ⟨by show InK .u32 (1 : Int); decide, by show InK .u32 (6 : Int); decide, ?_, ka, knd, u64k _, by show InK .u64 (256 : Int); decide⟩
     show InK .u64 (if nD9 (pa9 s) (pl9 s) (Da9 s) (Tl9 s) = 0 then 0 else ((pa9 s : Nat) : Int))
     split
     · exact z
     · exact ka
   · simp at hy
 · exact ⟨by show InK .u32 (2 : Int); decide, by show InK .u32 (4 : Int); decide, kd, kd, kn, kn, by show InK .u64 (8 : Int); decide⟩
 · unfold sgT at hy
   split at hy
   · have : y = segT (pl9 s) (Tl9 s) (Tb9 s) := by simpa using hy
     subst this
     have kp : InK .u64 (if (Tl9 s).length = 0 then 0 else ((pl9 s : Nat) : Int)) := by
      split
      · exact z
      · exact kl
     exact ⟨by show InK .u32 (7 : Int); decide, by show InK .u32 (4 : Int); decide, kp, kp, ktl, u64k _, by show InK .u64 (8 : Int); decide⟩
   · simp at hy
theorem oh9_len (s : Spec9) : (oh9 s).length = pd9 s := by
 unfold oh9 hd9 pd9
 rw [List.length_append, hput_length, sputs_len]
 unfold sg9
 rw [segG_len]
 rfl
theorem oa9_len {s : Spec9} (hf : FewS s) : (oa9 s).length = pt9 s + (tb9 s).length := by
 have b := bd9 hf
 unfold oa9 dp9
 rw [List.length_append, List.length_append, oh9_len, b.dp]
 rfl
theorem ob9_len {s : Spec9} (hf : FewS s) : (ob9 s).length = ps9 s := by
 have b := bd9 hf
 unfold ob9
 rw [padTo_len, oa9_len hf]
 have := b.ps; omega
theorem sy9_len (s : Spec9) : (sy9 s).length = 24 * sn9 s := by
 unfold sy9 symsG sn9
 split
 · rfl
 · rw [symsI_len]; omega
theorem oc9_len {s : Spec9} (hf : FewS s) : (oc9 s).length = pr9 s := by
 have hs := sy9_len s
 unfold oc9 putIf
 split
 · rename_i h
   rw [ob9_len hf]
   unfold pr9; omega
 · rw [List.length_append, padTo_len, ob9_len hf, hs]
   unfold pr9; omega
theorem rl9_len (s : Spec9) : (rl9 s).length = rz9 s := relsG_len _ _ _
theorem od9_len {s : Spec9} (hf : FewS s) : (od9 s).length = pe9 s := by
 have hs := rl9_len s
 unfold od9 putIf
 split
 · rename_i h
   rw [oc9_len hf]
   unfold pe9; omega
 · rw [List.length_append, padTo_len, oc9_len hf, hs]
   unfold pe9; omega
theorem oe9_len {s : Spec9} (hf : FewS s) : (oe9 s).length = if (Co9 s).length = 0 then pe9 s else pc9 s + (Co9 s).length := by
 have b := bd9 hf
 have := b.pc
 unfold oe9 putIf
 split
 · exact od9_len hf
 · rw [List.length_append, padTo_len, od9_len hf]; omega
theorem of9_len {s : Spec9} (hf : FewS s) : (of9 s).length = if (Da9 s).length = 0 then (oe9 s).length else pa9 s + (Da9 s).length := by
 have b := bd9 hf
 have h1 := b.pc
 have h2 := b.pa
 have h3 := oe9_len hf
 unfold of9 putIf
 split
 · rfl
 · rw [List.length_append, padTo_len]
   split at h3 <;> omega
theorem og9_len {s : Spec9} (hf : FewS s) : (og9 s).length <= 40000 := by
 have p := pl9_le hf
 have h3 := oe9_len hf
 have h4 := of9_len hf
 have := hf.c1
 have := hf.c2
 have := hf.c3
 have := p.pc
 have := p.pa
 have := p.pl
 have := p.pe
 unfold og9 putIf
 split
 · split at h4 <;> split at h3 <;> omega
 · rw [List.length_append, padTo_len]
   split at h4 <;> split at h3 <;> omega
theorem oe9_le {s : Spec9} (hf : FewS s) : (oe9 s).length <= pa9 s := by
 have b := bd9 hf
 have h3 := oe9_len hf
 have := b.pc
 have := b.pa
 split at h3 <;> omega
theorem of9_le {s : Spec9} (hf : FewS s) : (of9 s).length <= pl9 s := by
 have b := bd9 hf
 have h3 := of9_len hf
 have := oe9_le hf
 have := b.pl
 split at h3 <;> omega
theorem may9_ok {s : Spec9} (h : may9 s = 0) : (K9 s = 2 \/ K9 s = 3) /\ (∀ d ∈ De9 s, 0 <= d.2.1 /\ d.2.1 <= 3) /\ ∀ f ∈ Fi9 s, (f.1 = 1 \/ f.1 = 2) /\ f.2.2.2.1 < ((De9 s).length : Int) := by
 unfold may9 mayS at h
 split at h
 · cases h
 · rename_i hb
   simp only [Bool.or_eq_true, not_or] at hb
   obtain ⟨h1, h2, h3⟩ := hb
   refine ⟨?_, fun d hd => ?_, fun f hf => ?_⟩
   · unfold badK at h1
     simp only [Bool.and_eq_true, bne_iff_ne, not_and, Decidable.not_not] at h1
     by_cases hk : K9 s = 2
     · exact .inl hk
     · exact .inr (h1 hk)
   · have : badD d = false := by
      cases e : badD d
      · rfl
      · exact absurd (List.any_eq_true.2 ⟨d, hd, e⟩) h2
     unfold badD at this
     rw [Bool.or_eq_false_iff, decide_eq_false_iff_not, decide_eq_false_iff_not] at this
     omega
   · have : badF (De9 s).length f = false := by
      cases e : badF (De9 s).length f
      · rfl
      · exact absurd (List.any_eq_true.2 ⟨f, hf, e⟩) h3
     unfold badF at this
     rw [Bool.or_eq_false_iff, decide_eq_false_iff_not, Bool.and_eq_false_iff] at this
     refine ⟨?_, by omega⟩
     rcases this.1 with h | h
     · exact .inl (by simpa using h)
     · exact .inr (by simpa using h)
theorem buildS_cases (l : List (List UInt8)) : ((buildS l).2.2 ≠ 0 /\ buildS l = ([], [], (buildS l).2.2)) \/ buildS l = ((bfold l).1, (bfold l).2.1, 0) := by
 unfold buildS
 split
 · exact .inl ⟨by decide, rfl⟩
 · split
   · exact .inl ⟨by decide, rfl⟩
   · exact .inr rfl
end Dm

namespace Dm
open Go
open IntKind (u64 i64 u8 u32)
theorem names_loop {ρ : Type} {P : Option ρ -> Prop} {b0 : List (List UInt8)} {defs : List Def9} (hd : defs.length <= 1000) (hb : b0.length <= 1000) {kk : List (List UInt8) -> Option ρ} (hk : P (kk (b0 ++ defs.map (·.1)))) :
    P (loopK (fun (s2 : (List (List UInt8)) × Int) rec1 =>
        (if (decide (s2.2 < ((defs.length : Nat) : Int))) = true then
         gd ((0 : Int) <= s2.2 /\ s2.2 < ((defs.length : Nat) : Int)) <|
         gd ((s2.1.length + ([(gt defs s2.2).1] : List (List UInt8)).length) * 16 <= 140737488355328) <|
         rec1 ((s2.1 ++ ([(gt defs s2.2).1] : List (List UInt8))), i64.wrap (s2.2 + 1))
        else
         kk s2.1)) bigF (b0, 0)) := by
 refine scan_Q (P := P) defs (by omega) (fun _ => 0) (fun i => (b0 ++ (defs.take i).map (·.1), (i : Int))) (kk (b0 ++ defs.map (·.1))) (fun _ _ => none) (by simp) (fun _ => hk) (fun _ h => absurd (firstE_zero _ _ fun _ _ => rfl) h) (fun i rec hi Q q0 _ => ?_) (fun rec Q q => ?_)
 · have hgi : gt defs (i : Int) = defs[i] := gt_nat hi
   refine tP (dif_lt hi) ?_
   refine gdP (by show (0 : Int) <= i /\ (i : Int) < ((defs.length : Nat) : Int); omega) ?_
   refine gdP (by show ((b0 ++ (defs.take i).map (·.1)).length + 1) * 16 <= _; rw [List.length_append, List.length_map, List.length_take]; omega) ?_
   have q := q0 rfl
   rw [<- i64s (by omega), take_succ hi, List.map_append, List.map_singleton, <- List.append_assoc, <- hgi] at q
   exact q
 · refine fP (by show ¬ decide (((defs.length : Nat) : Int) < ((defs.length : Nat) : Int)) = true; simp) ?_
   rw [List.take_length]
   exact q
theorem segs_loop {ρ : Type} {P : Option ρ -> Prop} {b0 : List Int} {l : List Seg} (hl : l.length <= 1000) (hw : ∀ y ∈ l, Wf04 y) (hb : b0.length <= 100000) {kk : List Int -> Option ρ} (hk : P (kk (b0 ++ (l.map sput).flatten))) :
    P (loopK (fun (s6 : Int × (List Int)) rec2 =>
                (if (decide (s6.1 < ((l.length : Nat) : Int))) = true then
                 gd ((0 : Int) <= s6.1 /\ s6.1 < ((l.length : Nat) : Int)) <|
                 (segs_Put ((gt l s6.1).1, (gt l s6.1).2.1, (gt l s6.1).2.2.1, (gt l s6.1).2.2.2.1, (gt l s6.1).2.2.2.2.1, (gt l s6.1).2.2.2.2.2.1, (gt l s6.1).2.2.2.2.2.2)).bind fun z11 =>
                 gd ((s6.2.length + z11.length) * 1 <= 140737488355328) <|
                 rec2 (i64.wrap (s6.1 + 1), (s6.2 ++ z11))
                else
                 kk s6.2)) bigF (0, b0)) := by
 refine scan_Q (P := P) l (by omega) (fun _ => 0) (fun i => ((i : Int), b0 ++ ((l.take i).map sput).flatten)) (kk (b0 ++ (l.map sput).flatten)) (fun _ _ => none) (by simp) (fun _ => hk) (fun _ h => absurd (firstE_zero _ _ fun _ _ => rfl) h) (fun i rec hi Q q0 _ => ?_) (fun rec Q q => ?_)
 · have hgi : gt l (i : Int) = l[i] := gt_nat hi
   refine tP (dif_lt hi) ?_
   refine gdP (by show (0 : Int) <= i /\ (i : Int) < ((l.length : Nat) : Int); omega) ?_
   refine bdP (x := sput l[i]) (by
    show segs_Put (gt l (i : Int)) = _
    rw [hgi]
    exact segs_Put_eq (hw _ (List.getElem_mem hi))) ?_
   refine gdP (by show ((b0 ++ ((l.take i).map sput).flatten).length + (sput l[i]).length) * 1 <= _; rw [List.length_append, sputs_len, sput_length, List.length_take]; omega) ?_
   have q := q0 rfl
   rw [<- i64s (by omega), take_succ hi, List.map_append, List.flatten_append, List.map_singleton, List.flatten_singleton, <- List.append_assoc] at q
   exact q
 · refine fP (by show ¬ decide (((l.length : Nat) : Int) < ((l.length : Nat) : Int)) = true; simp) ?_
   rw [List.take_length]
   exact q
theorem okD_of {s : Spec9} (hw : WfS s) (hm : may9 s = 0) : ∀ d ∈ De9 s, OkD d := fun d hd => ⟨((may9_ok hm).2.1 d hd).1, ((may9_ok hm).2.1 d hd).2, (hw.2.2.2.2.2.2.2.2.2.1.2 d hd).2.2.1⟩
theorem okF_of {s : Spec9} (hw : WfS s) (hf : FewS s) (hm : may9 s = 0) : ∀ f ∈ Fi9 s, OkF f := fun f hd => by
 obtain ⟨h1, h2⟩ := (may9_ok hm).2.2 f hd
 obtain ⟨k1, k2, k3, k4, k5⟩ := hw.2.2.2.2.2.2.2.2.2.2.2 f hd
 have := hf.c4
 exact ⟨h1, k2, k3, k4, by omega, k5⟩
theorem en9_k {s : Spec9} : InK .u64 (en9 s) := by
 unfold en9
 split
 · decide
 · exact u64k _
theorem headS_ok {s : Spec9} (hf : FewS s) (hm : may9 s = 0) : headS (K9 s, en9 s, 64, (ct9 s : Int)) = (hd9 s, 0) := by
 have b := bd9 hf
 have := (may9_ok hm).1
 unfold headS hd9
 rw [if_neg]
 unfold badH
 simp only [Bool.or_eq_true, decide_eq_true_eq]
 have := b.ct
 omega
theorem build_run {P : Option (List Int × Int) -> Prop} {s : Spec9} (hw : WfS s) (hf : FewS s) (hP : P (some (BuildS s))) : P (image_Build s) := by
 have b := bd9 hf
 have p := pl9_le hf
 have f1 := hf.c1
 have f2 := hf.c2
 have f3 := hf.c3
 have f4 := hf.c4
 have f5 := hf.c5
 have f6 := hf.c6
 unfold BuildS at hP
 unfold image_Build
 refine bdP (image_may_eq (kind := K9 s) (so := So9 s) (nd := Nd9 s) (en := En9 s) (code := Co9 s) (data := Da9 s) (bss := Bs9 s) (tls := Tl9 s) (tb := Tb9 s) (defs := De9 s) (fixes := Fi9 s) (by omega) (by omega) (by omega)) ?_
 refine neP (fun hm => ?_) (fun hm => ?_)
 rotate_left
 · have hm : may9 s ≠ 0 := hm
   rw [if_neg hm] at hP; exact hP
 have hm : may9 s = 0 := hm
 rw [if_pos hm] at hP
 refine gdP (by show (1 + (Nd9 s).length) * 16 <= _; omega) ?_
 refine jnC (fun c => c = l9 s) ?_ (fun kk hkk => ?_)
 rotate_left
 · refine names_loop (P := P) (by show (De9 s).length <= 1000; omega) (by show ([So9 s] ++ Nd9 s).length <= 1000; rw [List.length_append, List.length_singleton]; omega) ?_
   exact hkk _ rfl
 rintro _ rfl
 refine bdP (names_Build_eq (by have := b.tot; omega)) ?_
 rcases buildS_cases (l9 s) with ⟨he, hB⟩ | hB
 · rw [if_neg he] at hP
   refine neP (fun h => absurd h he) (fun _ => hP)
 have hB : buildS (l9 s) = (tb9 s, at9 s, 0) := hB
 rw [hB] at hP ⊢
 rw [if_pos rfl] at hP
 refine neP (fun _ => ?_) (fun h => absurd rfl h)
 have w1 : i64.wrap (1 + (((Nd9 s).length : Nat) : Int)) = ((1 + (Nd9 s).length : Nat) : Int) := by rw [i64w (by omega)]; omega
 have ha := b.at_
 have htb := b.tb
 refine gdP (by
  show (0 : Int) <= 1 /\ (1 : Int) <= i64.wrap (1 + (((Nd9 s).length : Nat) : Int)) /\ i64.wrap (1 + (((Nd9 s).length : Nat) : Int)) <= (((at9 s).length : Nat) : Int)
  rw [w1]; omega) ?_
 refine gdP (by show (0 : Int) <= 0 /\ (0 : Int) < (((at9 s).length : Nat) : Int); omega) ?_
 refine jnC (fun c => c = inf9 s 0 0 0) ?_ (fun kk hkk => ?_)
 rotate_left
 · have e1 : u64.wrap (((tb9 s).length : Nat) : Int) = (((tb9 s).length : Nat) : Int) := u64w (by omega)
   have e2 : u64.wrap (i64.wrap ((((Fi9 s).length : Nat) : Int) * 24)) = ((rz9 s : Nat) : Int) := by
    have : (((Fi9 s).length : Nat) : Int) * 24 = ((rz9 s : Nat) : Int) := by unfold rz9; omega
    have hz := b.rz
    rw [this, i64w (by omega), u64w (by omega)]
   refine deP (fun c => ?_) (fun c => ?_)
   · have c : (((De9 s).length : Nat) : Int) > 0 := c
     have e3 : u64.wrap (i64.wrap (1 + (((De9 s).length : Nat) : Int))) = ((sn9 s : Nat) : Int) := by
      have : 1 + (((De9 s).length : Nat) : Int) = ((sn9 s : Nat) : Int) := by unfold sn9; rw [if_neg (by omega)]; omega
      have hz := b.sn
      rw [this, i64w (by omega), u64w (by omega)]
     refine hkk _ ?_
     show ((cutL (at9 s) 1 (i64.wrap (1 + (((Nd9 s).length : Nat) : Int)))), gt (at9 s) 0, (0 : Int), u64.wrap (((tb9 s).length : Nat) : Int), (0 : Int), u64.wrap (i64.wrap (1 + (((De9 s).length : Nat) : Int))), (0 : Int), u64.wrap (i64.wrap ((((Fi9 s).length : Nat) : Int) * 24))) = _
     rw [w1, e1, e2, e3]
     rfl
   · have c : ¬ (((De9 s).length : Nat) : Int) > 0 := c
     have e3 : (0 : Int) = ((sn9 s : Nat) : Int) := by unfold sn9; rw [if_pos (by omega)]; rfl
     refine hkk _ ?_
     show ((cutL (at9 s) 1 (i64.wrap (1 + (((Nd9 s).length : Nat) : Int)))), gt (at9 s) 0, (0 : Int), u64.wrap (((tb9 s).length : Nat) : Int), (0 : Int), (0 : Int), (0 : Int), u64.wrap (i64.wrap ((((Fi9 s).length : Nat) : Int) * 24))) = (nm9 s, so9 s, (0 : Int), (((tb9 s).length : Nat) : Int), (0 : Int), ((sn9 s : Nat) : Int), (0 : Int), ((rz9 s : Nat) : Int))
     rw [w1, e1, e2, <- e3]
     rfl
 rintro _ rfl
 have hnm : (nm9 s).length <= 1000 := by rw [b.nm]; omega
 refine bdP (dynamic_Put_eq (x := inf9 s 0 0 0) hnm) ?_
 have hdn := b.dn
 have hsn := b.sn
 have hrz := b.rz
 have hct := b.ct
 have hp1 := p.pd
 have hp2 := p.pt
 have hp3 := p.ps
 have hp4 := p.pr
 have hp5 := p.pe
 have hp6 := p.pc
 have hp7 := p.pa
 have hp8 := p.pl
 refine letP ?_
 rw [show u64.wrap (((dput (inf9 s 0 0 0)).length : Nat) : Int) = ((dn9 s : Nat) : Int) from u64w (by unfold dn9 at hdn; omega)]
 refine bdP (segments_eq 0 0 0 0 0 0 0 0 0 (kind := K9 s) (so := So9 s) (nd := Nd9 s) (en := En9 s) (code := Co9 s) (data := Da9 s) (bss := Bs9 s) (tls := Tl9 s) (tb := Tb9 s) (defs := De9 s) (fixes := Fi9 s) (by omega) (by omega) (by omega)) ?_
 rw [segG_len]
 refine letP ?_
 rw [show u64.wrap (((cnt9 (Co9 s) (Da9 s) (Bs9 s) (Tl9 s) (Tb9 s) : Nat)) : Int) = ((ct9 s : Nat) : Int) from u64w (by unfold ct9 at hct; omega)]
 have v1 : u64.wrap (64 + u64.wrap (((ct9 s : Nat) : Int) * 56)) = ((pd9 s : Nat) : Int) := by
  have : ((pd9 s : Nat) : Int) = 64 + ((ct9 s : Nat) : Int) * 56 := by unfold pd9; omega
  rw [u64w (n := ((ct9 s : Nat) : Int) * 56) (by omega), <- this, u64w (by omega)]
 have v2 : u64.wrap (((pd9 s : Nat) : Int) + ((dn9 s : Nat) : Int)) = ((pt9 s : Nat) : Int) := by
  have : ((pt9 s : Nat) : Int) = ((pd9 s : Nat) : Int) + ((dn9 s : Nat) : Int) := by unfold pt9; omega
  rw [<- this, u64w (by omega)]
 have v3 : u64.wrap (((pt9 s : Nat) : Int) + (((tb9 s).length : Nat) : Int)) = ((pt9 s + (tb9 s).length : Nat) : Int) := by rw [u64w (by omega)]; omega
 have v4 : u64.wrap (((ps9 s : Nat) : Int) + u64.wrap (24 * ((sn9 s : Nat) : Int))) = ((pr9 s : Nat) : Int) := by
  have : ((pr9 s : Nat) : Int) = ((ps9 s : Nat) : Int) + 24 * ((sn9 s : Nat) : Int) := by unfold pr9; omega
  rw [u64w (n := 24 * ((sn9 s : Nat) : Int)) (by omega), <- this, u64w (by omega)]
 have v5 : u64.wrap (((pr9 s : Nat) : Int) + ((rz9 s : Nat) : Int)) = ((pe9 s : Nat) : Int) := by
  have : ((pe9 s : Nat) : Int) = ((pr9 s : Nat) : Int) + ((rz9 s : Nat) : Int) := by unfold pe9; omega
  rw [<- this, u64w (by omega)]
 have v6 : u64.wrap (((pc9 s : Nat) : Int) + u64.wrap (((Co9 s).length : Nat) : Int)) = ((pc9 s + (Co9 s).length : Nat) : Int) := by
  rw [u64w (n := (((Co9 s).length : Nat) : Int)) (by omega), u64w (by omega)]; omega
 have v7 : u64.wrap (((pa9 s : Nat) : Int) + u64.wrap (((Da9 s).length : Nat) : Int)) = ((pa9 s + (Da9 s).length : Nat) : Int) := by
  rw [u64w (n := (((Da9 s).length : Nat) : Int)) (by omega), u64w (by omega)]; omega
 dsimp only [inf9]
 rw [v1, v2, v3]
 refine bdP (up8_eq (x := pt9 s + (tb9 s).length) (by omega)) ?_
 rw [show ((upN (pt9 s + (tb9 s).length) 8 : Nat) : Int) = ((ps9 s : Nat) : Int) from rfl, v4, v5]
 refine bdP (up256_eq (x := pe9 s) (by omega)) ?_
 rw [show ((upN (pe9 s) 256 : Nat) : Int) = ((pc9 s : Nat) : Int) from rfl, v6]
 refine bdP (up256_eq (x := pc9 s + (Co9 s).length) (by omega)) ?_
 rw [show ((upN (pc9 s + (Co9 s).length) 256 : Nat) : Int) = ((pa9 s : Nat) : Int) from rfl, v7]
 refine bdP (up8_eq (x := pa9 s + (Da9 s).length) (by omega)) ?_
 rw [show ((upN (pa9 s + (Da9 s).length) 8 : Nat) : Int) = ((pl9 s : Nat) : Int) from rfl]
 refine jnC (fun c => c = en9 s) ?_ (fun kk hkk => ?_)
 rotate_left
 · refine deP (fun c => ?_) (fun c => ?_)
   · have c : (((Co9 s).length : Nat) : Int) > 0 := c
     refine letP (hkk _ ?_)
     unfold en9
     rw [if_neg (by omega)]
   · have c : ¬ (((Co9 s).length : Nat) : Int) > 0 := c
     refine hkk _ ?_
     unfold en9
     rw [if_pos (by omega)]
 rintro _ rfl
 rw [show i64.wrap ((ct9 s : Nat) : Int) = ((ct9 s : Nat) : Int) from i64w (by omega)]
 refine bdP (head_Put_eq (K9 s, en9 s, 64, ((ct9 s : Nat) : Int))) ?_
 rw [headS_ok hf hm]
 refine bdP (x := sg9 s) (segments_eq (pd9 s) _ _ _ (pc9 s) (pa9 s) (pl9 s) (pe9 s) (dn9 s) (kind := K9 s) (so := So9 s) (nd := Nd9 s) (en := En9 s) (code := Co9 s) (data := Da9 s) (bss := Bs9 s) (tls := Tl9 s) (tb := Tb9 s) (defs := De9 s) (fixes := Fi9 s) (by omega) (by omega) (by omega)) ?_
 have hsl : (sg9 s).length = ct9 s := segG_len _ _ _ _ _ _ _ _ _ _ _
 refine jnC (fun c => c = oh9 s) ?_ (fun kk hkk => ?_)
 rotate_left
 · refine segs_loop (P := P) (by omega) (sg9_wf hf) (by show (hd9 s).length <= 100000; unfold hd9; rw [hput_length]; omega) ?_
   exact hkk _ rfl
 rintro _ rfl
 refine bdP (x := dp9 s) (dynamic_Put_eq (x := inf9 s (pt9 s) (ps9 s) (pr9 s)) hnm) ?_
 have hoh := oh9_len s
 have hdp : (dp9 s).length = dn9 s := b.dp _ _ _
 refine gdP (by rw [hoh, hdp]; omega) ?_
 refine gdP (by rw [List.length_append, hoh, hdp]; omega) ?_
 have hoa := oa9_len hf
 have hps := b.ps
 show P (gd _ (gd _ _))
 have z1 : u64.wrap (((ps9 s : Nat) : Int) - u64.wrap ((((oa9 s).length : Nat)) : Int)) = ((ps9 s - (oa9 s).length : Nat) : Int) := by
  rw [u64w (n := (((oa9 s).length : Nat) : Int)) (by omega), u64w (by omega)]; omega
 have hobe : (((oh9 s ++ dp9 s) ++ tb9 s) ++ List.replicate (Int.toNat (u64.wrap (((ps9 s : Nat) : Int) - u64.wrap (((((oh9 s ++ dp9 s) ++ tb9 s).length : Nat)) : Int)))) (0 : Int)) = ob9 s := by
  show oa9 s ++ List.replicate (Int.toNat (u64.wrap (((ps9 s : Nat) : Int) - u64.wrap ((((oa9 s).length : Nat)) : Int)))) (0 : Int) = ob9 s
  rw [z1]; rfl
 refine gdP (by
  show (0 : Int) <= u64.wrap (((ps9 s : Nat) : Int) - u64.wrap ((((oa9 s).length : Nat)) : Int)) /\ ((oa9 s).length + Int.toNat (u64.wrap (((ps9 s : Nat) : Int) - u64.wrap ((((oa9 s).length : Nat)) : Int)))) * 1 <= 140737488355328
  rw [z1]; omega) ?_
 refine gdP (by
  show (0 : Int) <= i64.wrap (1 + (((Nd9 s).length : Nat) : Int)) /\ i64.wrap (1 + (((Nd9 s).length : Nat) : Int)) <= (((at9 s).length : Nat) : Int) /\ (((at9 s).length : Nat) : Int) <= (((at9 s).length : Nat) : Int)
  rw [w1]; omega) ?_
 refine bdP (x := sy9 s) (by
  show image_plan_entries _ _ (cutL (at9 s) (i64.wrap (1 + (((Nd9 s).length : Nat) : Int))) (((at9 s).length : Nat) : Int)) = _
  rw [w1, cutL_end, Int.toNat_natCast]
  exact entries_eq _ _ _ _ (pc9 s) (pa9 s) _ _ (kind := K9 s) (so := So9 s) (nd := Nd9 s) (en := En9 s) (code := Co9 s) (data := Da9 s) (bss := Bs9 s) (tls := Tl9 s) (tb := Tb9 s) (defs := De9 s) (fixes := Fi9 s) (by omega) (okD_of hw hm) (by rw [List.length_drop]; omega)) ?_
 rw [hobe]
 have hsy := sy9_len s
 have hrl := rl9_len s
 refine bdP (x := oc9 s) (putB_eq (n := ps9 s) (.inr (by rw [ob9_len hf]; omega)) (by omega) (by omega)) ?_
 refine bdP (x := rl9 s) (fixes_eq _ _ _ _ (pc9 s) (pa9 s) _ _ (kind := K9 s) (so := So9 s) (nd := Nd9 s) (en := En9 s) (code := Co9 s) (data := Da9 s) (bss := Bs9 s) (tls := Tl9 s) (tb := Tb9 s) (defs := De9 s) (fixes := Fi9 s) (by omega) (okF_of hw hf hm)) ?_
 refine bdP (x := od9 s) (putB_eq (n := pr9 s) (.inr (by rw [oc9_len hf]; omega)) (by omega) (by omega)) ?_
 refine bdP (x := oe9 s) (putB_eq (n := pc9 s) (.inr (by rw [od9_len hf]; have := b.pc; omega)) (by omega) (show (Co9 s).length <= 10000000 by omega)) ?_
 refine bdP (x := of9 s) (putB_eq (n := pa9 s) (.inr (oe9_le hf)) (by omega) (show (Da9 s).length <= 10000000 by omega)) ?_
 refine bdP (x := og9 s) (putB_eq (n := pl9 s) (.inr (of9_le hf)) (by omega) (show (Tl9 s).length <= 10000000 by omega)) ?_
 refine deP (fun c => ?_) (fun c => ?_)
 · rw [if_pos (by omega)] at hP; exact hP
 · rw [if_neg (by omega)] at hP; exact hP
end Dm

namespace Dm
open Go
open IntKind (u64 i64 u8 u32)
def imgH (b : List Int) : Int × Int × Int × Int := (getHS b).1
def imgL (b : List Int) : List Seg := (tabSS b (imgH b).2.2.1 (imgH b).2.2.2).1
def imgLE (b : List Int) : Int := (tabSS b (imgH b).2.2.1 (imgH b).2.2.2).2
def imgD (b : List Int) : Option Seg := (findS (imgL b) 2).map fun k => (imgL b).getD k default
def shE (b : List Int) : Int :=
 if (getHS b).2 = 0 then (if (imgH b).1 = 4 then 11 else if imgLE b = 0 then (if checkSS (b.length : Int) (imgL b) = 0 then (if (findS (imgL b) 1).isSome then 0 else 11) else checkSS (b.length : Int) (imgL b)) else imgLE b) else (getHS b).2
def bodE (b : List Int) : Int := match imgD b with
 | none => heldS (imgL b) [] []
 | some s => if totE (imgL b) b s = 0 then heldS (imgL b) (symT (imgL b) b s) (relT (imgL b) b s) else totE (imgL b) b s
def imgE (b : List Int) : Int := if b.length > 65536 then 13 else if shE b = 0 then bodE b else shE b
def imgV (b : List Int) : Img := match imgD b with
 | none => (imgH b, imgL b, [], [], [], [], [], b)
 | some s => (imgH b, imgL b, soV (tabT (imgL b) b s) (dv b s 0), nmdN (imgL b) b s, symN (imgL b) b s, symT (imgL b) b s, relT (imgL b) b s, b)
def img0 : Img := ((0, 0, 0, 0), [], [], [], [], [], [], [])
theorem imgH_wf {b : List Int} (hB : Bytes b) : 0 <= (imgH b).2.2.1 /\ InK .i64 (imgH b).2.2.2 := by
 have k1 := inK_u64 (cu8 hB 32)
 have k2 := inK_u16 (cu2 hB 56)
 unfold imgH getHS
 split
 · exact ⟨by decide, by decide⟩
 · split
   · exact ⟨k1.1, by show (-9223372036854775808 : Int) <= le (cu b 56 2); omega, by show le (cu b 56 2) <= (9223372036854775807 : Int); omega⟩
   · exact ⟨by decide, by decide⟩
theorem imgL_len (b : List Int) : (imgL b).length <= 100 := by have := tabSS_len b (imgH b).2.2.1 (imgH b).2.2.2; unfold imgL; omega
theorem imgL_wf {b : List Int} (hB : Bytes b) : ∀ s ∈ imgL b, Wf04 s := wf_tabSS hB _ _
theorem imgD_mem {b : List Int} {s : Seg} (h : imgD b = some s) : s ∈ imgL b /\ s.1 = 2 := by
 unfold imgD at h
 rw [Option.map_eq_some_iff] at h
 obtain ⟨k, h1, rfl⟩ := h
 obtain ⟨h2, h3⟩ := fI_some h1
 have e : (imgL b).getD k default = (imgL b)[k] := by rw [List.getD_eq_getElem?_getD, List.getElem?_eq_getElem h2]; rfl
 rw [e]
 exact ⟨List.getElem_mem h2, by simpa using h3⟩
theorem cut_ok {b : List Int} {s : Seg} (hs : Wf04 s) (ho : oneS (b.length : Int) s = 0) (h0 : s.1 ≠ 0) : (cutP b s.2.2.1 s.2.2.2.2.1).2 = 0 := by
 have := oneS_zero ho h0
 unfold cutP
 rw [if_pos]
 unfold insB
 rw [Bool.and_eq_true, decide_eq_true_eq, decide_eq_true_eq]
 exact ⟨this.1, this.2.1⟩
theorem shape_run {P : Option (Int × Rdr) -> Prop} {b : List Int} (hb : b.length <= 65536) (hB : Bytes b) (inf : Inf) (tb : List Int)
    (hE : ∀ e R', e ≠ 0 -> shE b = e -> P (some (e, R'))) (hF : shE b = 0 -> P (some (0, ((imgH b, imgL b, [], [], [], [], [], b), inf, tb)))) :
    P (image_reader_shape (((0, 0, 0, 0), [], [], [], [], [], [], b), inf, tb)) := by
 have hl := imgL_len b
 have hw := imgL_wf hB
 have hh := imgH_wf hB
 unfold image_reader_shape
 refine bdP (x := (imgH b, (getHS b).2)) (head_Get_eq (by show b.length <= _; omega) hB) ?_
 refine neP (fun h1 => ?_) (fun h1 => ?_)
 rotate_left
 · have h1 : (getHS b).2 ≠ 0 := h1
   exact hE _ _ h1 (by unfold shE; rw [if_neg h1])
 have h1 : (getHS b).2 = 0 := h1
 refine eqP (fun h2 => ?_) (fun h2 => ?_)
 · have h2 : (imgH b).1 = 4 := h2
   exact hE _ _ (by decide) (by unfold shE; rw [if_pos h1, if_pos h2])
 have h2 : (imgH b).1 ≠ 4 := h2
 refine bdP (x := (imgL b, imgLE b)) (segs_Table_eq (by show b.length <= _; omega) hB hh.1 hh.2) ?_
 refine neP (fun h3 => ?_) (fun h3 => ?_)
 rotate_left
 · have h3 : imgLE b ≠ 0 := h3
   exact hE _ _ h3 (by unfold shE; rw [if_pos h1, if_neg h2, if_neg h3])
 have h3 : imgLE b = 0 := h3
 have hz : InK .u64 (b.length : Int) := ⟨by show (0 : Int) <= _; omega, by show _ <= (18446744073709551615 : Int); omega⟩
 refine bdP (x := checkSS (b.length : Int) (imgL b)) (by
  show segs_Check (imgL b) (u64.wrap ((b.length : Nat) : Int)) = _
  rw [u64w (by omega)]
  exact segs_Check_eq (by omega) hw hz) ?_
 refine neP (fun h4 => ?_) (fun h4 => ?_)
 rotate_left
 · exact hE _ _ h4 (by unfold shE; rw [if_pos h1, if_neg h2, if_pos h3, if_neg h4])
 refine bdP (segs_Find_eq (l := imgL b) (by omega) 1) ?_
 cases hf : findS (imgL b) 1 with
 | none => exact hE _ _ (by decide) (by unfold shE; rw [if_pos h1, if_neg h2, if_pos h3, if_pos h4, hf]; rfl)
 | some k => exact hF (by unfold shE; rw [if_pos h1, if_neg h2, if_pos h3, if_pos h4, hf]; rfl)
theorem shE_good {b : List Int} (h : shE b = 0) : (∀ s ∈ imgL b, oneS (b.length : Int) s = 0) := by
 unfold shE at h
 split at h
 · split at h
   · cases h
   · split at h
     · split at h
       · rename_i hc; exact (good_of hc).one
       · rename_i hc; exact absurd h hc
     · rename_i hc; exact absurd h hc
 · rename_i hc; exact absurd h hc
theorem parse_run {P : Option (Img × Int) -> Prop} {b : List Int} (hb : b.length <= 100000) (hB : Bytes b)
    (hE : ∀ e, e ≠ 0 -> imgE b = e -> P (some (img0, e))) (hF : imgE b = 0 -> P (some (imgV b, 0))) : P (image_Parse b) := by
 unfold image_Parse
 refine deP (fun h1 => ?_) (fun h1 => ?_)
 · exact hE _ (by decide) (by unfold imgE; rw [if_pos (by omega)])
 have h1 : ¬ b.length > 65536 := by omega
 have hl := imgL_len b
 have hw := imgL_wf hB
 refine bdP (x := b) (by unfold slices_Clone_byte_byte; exact gd_pos (by omega)) ?_
 refine shape_run (P := fun r => P (Option.bind r _)) (by omega) hB _ _ (fun e R' h0 h2 => ?_) (fun h2 => ?_)
 · refine bdP rfl ?_
   refine neP (fun h3 => absurd h3 h0) (fun _ => ?_)
   exact hE _ h0 (by unfold imgE; rw [if_neg h1, h2, if_neg h0])
 refine bdP rfl ?_
 refine neP (fun _ => ?_) (fun h3 => absurd rfl h3)
 have hgood := shE_good h2
 have eI : imgE b = bodE b := by unfold imgE; rw [if_neg h1, if_pos h2]
 refine bdP (segs_Find_eq (l := imgL b) (by omega) 2) ?_
 cases hf : findS (imgL b) 2 with
 | none =>
  have hD : imgD b = none := by unfold imgD; rw [hf]; rfl
  have eB : bodE b = heldS (imgL b) [] [] := by unfold bodE; rw [hD]
  refine fP (by simp) ?_
  refine jnC (fun _ => imgE b = 0) ?_ (fun kk hkk => ?_)
  · intro _ h0
    have := hF h0
    unfold imgV at this
    rw [hD] at this
    exact this
  refine bdP (sound_eq (l := imgL b) (by omega) hw (sy := []) (by simp) (by simp) (rl := []) (by simp) (by simp) _ _ _ _ _ _ _) ?_
  refine neP (fun h3 => ?_) (fun h3 => ?_)
  · exact hkk _ (by rw [eI, eB, h3])
  · exact hE _ h3 (by rw [eI, eB])
 | some k =>
  have hD : imgD b = some ((imgL b).getD k default) := by unfold imgD; rw [hf]; rfl
  obtain ⟨hm, ht⟩ := imgD_mem hD
  generalize hsg : (imgL b).getD k default = s at hD hm ht
  have hs := hw s hm
  have eB : bodE b = if totE (imgL b) b s = 0 then heldS (imgL b) (symT (imgL b) b s) (relT (imgL b) b s) else totE (imgL b) b s := by unfold bodE; rw [hD]
  have hTw := symT_wf hB (imgL b) s
  have hTn := symT_len (imgL b) b s
  have hRw := relT_wf hB (imgL b) s
  have hRn := relT_len (imgL b) b s
  have tE : ∀ e, e ≠ 0 -> totE (imgL b) b s = e -> P (some (img0, e)) := fun e h0 he => hE e h0 (by rw [eI, eB, he, if_neg h0])
  refine tP rfl ?_
  refine jnC (fun R => imgE b = 0 /\ R.1 = imgV b) ?_ (fun kk hkk => ?_)
  · rintro ⟨R, inf, tb⟩ ⟨h0, rfl⟩
    exact hF h0
  unfold image_Parse_1_b
  dsimp only
  rw [hsg]
  refine named_run (P := fun r => P (Option.bind (Option.bind r _) _)) (by omega) hw (by omega) hB hs (cut_ok hs (hgood s hm) (by omega)) _ _ _ _ _ _ (fun e R' h0 he => ?_) (fun he => ?_)
  · refine bdP (m := Option.bind _ _) rfl ?_
    refine neP (fun h3 => absurd h3 h0) (fun _ => ?_)
    exact tE _ h0 (by unfold totE; rw [he, if_neg h0])
  refine bdP (m := Option.bind _ _) rfl ?_
  refine neP (fun _ => ?_) (fun h3 => absurd rfl h3)
  refine symbols_run (P := fun r => P (Option.bind r _)) (by omega) hw (by omega) hB _ _ _ _ (fun e R' h0 hy => ?_) (fun hy => ?_)
  · refine bdP rfl ?_
    refine neP (fun h3 => absurd h3 h0) (fun _ => ?_)
    exact tE _ h0 (by unfold totE; rw [if_pos he, hy, if_neg h0])
  refine bdP rfl ?_
  refine neP (fun _ => ?_) (fun h3 => absurd rfl h3)
  refine relocations_run (P := fun r => P (Option.bind r _)) (by omega) hw (by omega) hB _ _ _ _ (sy := symT (imgL b) b s) (by omega) (fun e R' h0 hr => ?_) (fun hr => ?_)
  · refine bdP rfl ?_
    refine neP (fun h3 => absurd h3 h0) (fun _ => ?_)
    exact tE _ h0 (by unfold totE; rw [if_pos he, if_pos hy, hr])
  refine bdP rfl ?_
  refine neP (fun _ => ?_) (fun h3 => absurd rfl h3)
  have htot : totE (imgL b) b s = 0 := by unfold totE; rw [if_pos he, if_pos hy, hr]
  refine bdP (sound_eq (l := imgL b) (by omega) hw (sy := symT (imgL b) b s) (by omega) hTw (rl := relT (imgL b) b s) (by omega) hRw _ _ _ _ _ _ _) ?_
  refine neP (fun h3 => ?_) (fun h3 => ?_)
  · refine hkk _ ⟨by rw [eI, eB, if_pos htot, h3], ?_⟩
    unfold imgV
    rw [hD]
  · exact hE _ h3 (by rw [eI, eB, if_pos htot])
def parseS (b : List Int) : Img × Int := if imgE b = 0 then (imgV b, 0) else (img0, imgE b)
theorem image_Parse_eq {b : List Int} (hb : b.length <= 100000) (hB : Bytes b) : image_Parse b = some (parseS b) := by
 refine parse_run (P := fun r => r = some (parseS b)) hb hB (fun e h0 he => ?_) (fun he => ?_)
 · unfold parseS; rw [he, if_neg h0]
 · unfold parseS; rw [if_pos he]
end Dm

namespace Dm
open Go
open IntKind (u64 i64 u8 u32)
theorem checkS_bfold (l : List Str) : checkS (bfold l).1 = 0 := by
 have hI := BI.all l
 obtain ⟨r, hr⟩ := hI.fst
 obtain ⟨q, hq⟩ := hI.lst
 unfold checkS
 have hp := hI.pos
 rw [if_neg (by omega), if_neg (by rw [hr]; simp), if_neg]
 rw [hq]
 simp
theorem cutP_mid {x y z : List Int} {p n : Int} (hp : p = (x.length : Int)) (hn : n = (y.length : Int)) : cutP (x ++ (y ++ z)) p n = (y, 0) := by
 subst hp hn
 unfold cutP insB
 rw [if_pos]
 · rw [Int.toNat_natCast, Int.toNat_natCast, List.drop_left, List.take_left]
 · rw [Bool.and_eq_true, decide_eq_true_eq, decide_eq_true_eq, List.length_append, List.length_append]; omega
theorem getSS_mid {a post : List Int} {l : List Seg} (hw : ∀ s ∈ l, Wf04 s) {i : Nat} (h : i < l.length) : getSS (a ++ ((l.map sput).flatten ++ post)) (a.length + 56 * i) = (l[i], 0) := by
 have e : a ++ ((l.map sput).flatten ++ post) = (a ++ ((l.take i).map sput).flatten) ++ (sput l[i] ++ (((l.drop (i + 1)).map sput).flatten ++ post)) := by
  have : l = l.take i ++ l[i] :: l.drop (i + 1) := by rw [<- List.drop_eq_getElem_cons h, List.take_append_drop]
  conv => lhs; rw [this]
  rw [List.map_append, List.flatten_append, List.map_cons, List.flatten_cons]
  simp only [List.append_assoc]
 rw [e]
 refine getSS_sput (hw _ (List.getElem_mem h)) ?_
 rw [List.length_append, sputs_len, List.length_take]; omega
theorem tabSS_mid {a post : List Int} {l : List Seg} (hw : ∀ s ∈ l, Wf04 s) (hl : l.length <= 64) {p n : Int} (hp : p = (a.length : Int)) (hn : n = (l.length : Int)) : tabSS (a ++ ((l.map sput).flatten ++ post)) p n = (l, 0) := by
 subst hp hn
 unfold tabSS
 rw [if_neg (by omega), if_pos]
 · have e : entQ (a ++ ((l.map sput).flatten ++ post)) (Int.toNat (a.length : Int)) (Int.toNat (l.length : Int)) = l.map fun s => (s, (0 : Int)) := by
    rw [Int.toNat_natCast, Int.toNat_natCast]
    apply List.ext_getElem (by rw [entS_length, List.length_map])
    intro i h1 h2
    rw [entS_get h1, List.getElem_map]
    exact getSS_mid hw (by rw [List.length_map] at h2; exact h2)
   rw [e]
   unfold tabO
   rw [if_pos (firstE_zero _ _ fun x hx => by rw [List.mem_map] at hx; obtain ⟨s, _, rfl⟩ := hx; rfl), List.map_map]
   congr 1
   conv => rhs; rw [<- List.map_id l]
   rfl
 · unfold insB
   rw [Bool.and_eq_true, decide_eq_true_eq, decide_eq_true_eq, List.length_append, List.length_append, sputs_len]; omega
theorem ent_at {pre post : List Int} {t v : Int} (ht : 0 <= t /\ t < 256 ^ 8) (hv : 0 <= v /\ v < 256 ^ 8) : le (cu (pre ++ (ent t v ++ post)) pre.length 8) = t /\ le (cu (pre ++ (ent t v ++ post)) (pre.length + 8) 8) = v := by
 have e1 : cu (pre ++ (ent t v ++ post)) pre.length 8 = leB 8 t := by
  unfold cu ent
  rw [List.drop_left, List.append_assoc, List.take_append_of_le_length (by rw [leB_length]; omega), List.take_of_length_le (by rw [leB_length]; omega)]
 have e2 : cu (pre ++ (ent t v ++ post)) (pre.length + 8) 8 = leB 8 v := by
  have d : ∀ r, (leB 8 t ++ r).drop 8 = r := fun r => by
   have := List.drop_left (l₁ := leB 8 t) (l₂ := r)
   rwa [leB_length] at this
  unfold cu ent
  rw [<- List.drop_drop, List.drop_left, List.append_assoc, d, List.take_append_of_le_length (by rw [leB_length]; omega), List.take_of_length_le (by rw [leB_length]; omega)]
 rw [e1, e2]
 exact ⟨le_leB ht.1 ht.2, le_leB hv.1 hv.2⟩
theorem u8p {v : Int} (h : InK .u64 v) : 0 <= v /\ v < 256 ^ 8 := by have := inK_u64 h; omega
theorem dynT_need : ∀ (l : List Int) (pre post : List Int) (nd : List Int) (v : Dvs), (∀ a ∈ l, InK .u64 a) -> dynT (pre ++ ((l.map (ent 1)).flatten ++ post)) pre.length nd v = dynT (pre ++ ((l.map (ent 1)).flatten ++ post)) (pre.length + 16 * l.length) (nd ++ l) v
 | [], pre, post, nd, v, _ => by simp
 | a :: l, pre, post, nd, v, h => by
  have e : pre ++ (((a :: l).map (ent 1)).flatten ++ post) = (pre ++ ent 1 a) ++ ((l.map (ent 1)).flatten ++ post) := by
   rw [List.map_cons, List.flatten_cons]; simp only [List.append_assoc]
  have e2 : pre ++ (((a :: l).map (ent 1)).flatten ++ post) = pre ++ (ent 1 a ++ ((l.map (ent 1)).flatten ++ post)) := by rw [e, List.append_assoc]
  obtain ⟨h1, h2⟩ := ent_at (pre := pre) (post := (l.map (ent 1)).flatten ++ post) (t := 1) (v := a) (by decide) (u8p (h a (by simp)))
  have ih := dynT_need l (pre ++ ent 1 a) post (nd ++ [a]) v fun x hx => h x (by simp [hx])
  rw [<- e2] at h1 h2
  rw [<- e] at ih
  have hlen : pre.length + 16 <= (pre ++ (((a :: l).map (ent 1)).flatten ++ post)).length := by rw [e2, List.length_append, List.length_append, ent_len]; omega
  rw [dynT_step hlen, h1, h2, if_neg (by decide), if_pos rfl]
  have el : (pre ++ ent 1 a).length = pre.length + 16 := by rw [List.length_append, ent_len]
  rw [el] at ih
  rw [ih, List.append_assoc, List.length_cons, show pre.length + 16 + 16 * l.length = pre.length + 16 * (l.length + 1) by omega]
  rfl
theorem dynT_opt {b pre post : List Int} {t x : Int} {c : Bool} {nd : List Int} {v : Dvs} (hb : b = pre ++ ((if c = true then [] else ent t x) ++ post)) {p : Nat} (hp : p = pre.length) (ht : 0 <= t /\ t < 256 ^ 8) (h0 : t ≠ 0) (h1 : t ≠ 1) (hk : kOf t < 7) (hx : InK .u64 x) (hd : dsome v (kOf t) = false) :
    dynT b p nd v = dynT b (pre ++ (if c = true then [] else ent t x)).length nd (if c = true then v else v.set (kOf t) (some x)) := by
 subst hp
 cases c
 · rw [if_neg (by decide)] at hb
   rw [if_neg (by decide), if_neg (by decide)]
   obtain ⟨g1, g2⟩ := ent_at (pre := pre) (post := post) (t := t) (v := x) ht (u8p hx)
   rw [<- hb] at g1 g2
   have hlen : pre.length + 16 <= b.length := by rw [hb, List.length_append, List.length_append, ent_len]; omega
   rw [dynT_step hlen, g1, g2, if_neg h0, if_neg h1, if_neg (by omega), if_neg (by rw [hd]; decide), List.length_append, ent_len]
 · rw [if_pos rfl, if_pos rfl, List.append_nil]
def dvv (x : Inf) : Dvs := [if x.2.1 = 0 then none else some x.2.1, some x.2.2.1, some x.2.2.2.1, if x.2.2.2.2.2.1 = 0 then none else some x.2.2.2.2.1, if x.2.2.2.2.2.1 = 0 then none else some x.2.2.2.2.2.1,
 if x.2.2.2.2.2.2.2 = 0 then none else some x.2.2.2.2.2.2.1, if x.2.2.2.2.2.2.2 = 0 then none else some x.2.2.2.2.2.2.2]
theorem dynG_dput {nd : List Int} {so st sz sy sn rl rz : Int} (hnd : ∀ a ∈ nd, InK .u64 a) (k0 : InK .u64 so) (k1 : InK .u64 st) (k2 : InK .u64 sz) (k3 : InK .u64 sy) (k4 : InK .u64 sn) (k5 : InK .u64 rl) (k6 : InK .u64 rz) :
    dynG (dput (nd, so, st, sz, sy, sn, rl, rz)) = ((nd, dvv (nd, so, st, sz, sy, sn, rl, rz)), 0) := by
 generalize hc0 : decide (so = 0) = c0
 generalize hc3 : decide (sn = 0) = c3
 generalize hc5 : decide (rz = 0) = c5
 have i0 : ∀ {α : Type} (x y : α), (if so = 0 then x else y) = if c0 = true then x else y := fun x y => by rw [<- hc0]; simp only [decide_eq_true_eq]
 have i3 : ∀ {α : Type} (x y : α), (if sn = 0 then x else y) = if c3 = true then x else y := fun x y => by rw [<- hc3]; simp only [decide_eq_true_eq]
 have i5 : ∀ {α : Type} (x y : α), (if rz = 0 then x else y) = if c5 = true then x else y := fun x y => by rw [<- hc5]; simp only [decide_eq_true_eq]
 generalize hP0 : (if c0 = true then [] else ent 14 so) = P0
 generalize hP1 : (if false = true then [] else ent 5 st) = P1
 generalize hP2 : (if false = true then [] else ent 10 sz) = P2
 generalize hP3 : (if c3 = true then [] else ent 6 sy) = P3
 generalize hP4 : (if c3 = true then [] else ent 1610612749 sn) = P4
 generalize hP5 : (if c5 = true then [] else ent 7 rl) = P5
 generalize hP6 : (if c5 = true then [] else ent 8 rz) = P6
 have e : dput (nd, so, st, sz, sy, sn, rl, rz) = (nd.map (ent 1)).flatten ++ (P0 ++ (P1 ++ (P2 ++ (P3 ++ (P4 ++ (P5 ++ (P6 ++ ent 0 0))))))) := by
  have d0 : dpart (nd, so, st, sz, sy, sn, rl, rz) 0 = P0 := by rw [<- hP0]; exact i0 _ _
  have d1 : dpart (nd, so, st, sz, sy, sn, rl, rz) 1 = P1 := by rw [<- hP1]; rfl
  have d2 : dpart (nd, so, st, sz, sy, sn, rl, rz) 2 = P2 := by rw [<- hP2]; rfl
  have d3 : dpart (nd, so, st, sz, sy, sn, rl, rz) 3 = P3 := by rw [<- hP3]; exact i3 _ _
  have d4 : dpart (nd, so, st, sz, sy, sn, rl, rz) 4 = P4 := by rw [<- hP4]; exact i3 _ _
  have d5 : dpart (nd, so, st, sz, sy, sn, rl, rz) 5 = P5 := by rw [<- hP5]; exact i5 _ _
  have d6 : dpart (nd, so, st, sz, sy, sn, rl, rz) 6 = P6 := by rw [<- hP6]; exact i5 _ _
  unfold dput
  rw [dacc_succ, dacc_succ, dacc_succ, dacc_succ, dacc_succ, dacc_succ, dacc_succ, d0, d1, d2, d3, d4, d5, d6]
  have z : dacc (nd, so, st, sz, sy, sn, rl, rz) 0 = (nd.map (ent 1)).flatten := by unfold dacc dneed; simp
  rw [z]
  simp only [List.append_assoc]
 have hN : ((nd.map (ent 1)).flatten).length = 16 * nd.length := dneed_len (nd, so, st, sz, sy, sn, rl, rz)
 have hne := dynT_need nd [] (P0 ++ (P1 ++ (P2 ++ (P3 ++ (P4 ++ (P5 ++ (P6 ++ ent 0 0))))))) [] dyn0 hnd
 rw [List.nil_append, <- e] at hne
 generalize hb : dput (nd, so, st, sz, sy, sn, rl, rz) = b at e hne
 generalize (nd.map (ent 1)).flatten = N at e hN
 have t0 := dynT_opt (b := b) (pre := N) (post := P1 ++ (P2 ++ (P3 ++ (P4 ++ (P5 ++ (P6 ++ ent 0 0)))))) (t := 14) (x := so) (c := c0) (nd := nd) (v := dyn0) (by rw [hP0, e]) (p := N.length) rfl (by decide) (by decide) (by decide) (by decide) k0 rfl
 rw [hP0] at t0
 have t1 := dynT_opt (b := b) (pre := N ++ P0) (post := P2 ++ (P3 ++ (P4 ++ (P5 ++ (P6 ++ ent 0 0))))) (t := 5) (x := st) (c := false) (nd := nd) (v := if c0 = true then dyn0 else dyn0.set 0 (some so)) (by rw [hP1, e]; simp only [List.append_assoc]) (p := (N ++ P0).length) rfl (by decide) (by decide) (by decide) (by decide) k1 (by cases c0 <;> rfl)
 rw [hP1] at t1
 have t2 := dynT_opt (b := b) (pre := N ++ P0 ++ P1) (post := P3 ++ (P4 ++ (P5 ++ (P6 ++ ent 0 0)))) (t := 10) (x := sz) (c := false) (nd := nd) (v := [if c0 = true then none else some so, some st, none, none, none, none, none]) (by rw [hP2, e]; simp only [List.append_assoc]) (p := (N ++ P0 ++ P1).length) rfl (by decide) (by decide) (by decide) (by decide) k2 rfl
 rw [hP2] at t2
 have t3 := dynT_opt (b := b) (pre := N ++ P0 ++ P1 ++ P2) (post := P4 ++ (P5 ++ (P6 ++ ent 0 0))) (t := 6) (x := sy) (c := c3) (nd := nd) (v := [if c0 = true then none else some so, some st, some sz, none, none, none, none]) (by rw [hP3, e]; simp only [List.append_assoc]) (p := (N ++ P0 ++ P1 ++ P2).length) rfl (by decide) (by decide) (by decide) (by decide) k3 rfl
 rw [hP3] at t3
 have t4 := dynT_opt (b := b) (pre := N ++ P0 ++ P1 ++ P2 ++ P3) (post := P5 ++ (P6 ++ ent 0 0)) (t := 1610612749) (x := sn) (c := c3) (nd := nd) (v := [if c0 = true then none else some so, some st, some sz, if c3 = true then none else some sy, none, none, none]) (by rw [hP4, e]; simp only [List.append_assoc]) (p := (N ++ P0 ++ P1 ++ P2 ++ P3).length) rfl (by decide) (by decide) (by decide) (by decide) k4 rfl
 rw [hP4] at t4
 have t5 := dynT_opt (b := b) (pre := N ++ P0 ++ P1 ++ P2 ++ P3 ++ P4) (post := P6 ++ ent 0 0) (t := 7) (x := rl) (c := c5) (nd := nd) (v := [if c0 = true then none else some so, some st, some sz, if c3 = true then none else some sy, if c3 = true then none else some sn, none, none]) (by rw [hP5, e]; simp only [List.append_assoc]) (p := (N ++ P0 ++ P1 ++ P2 ++ P3 ++ P4).length) rfl (by decide) (by decide) (by decide) (by decide) k5 rfl
 rw [hP5] at t5
 have t6 := dynT_opt (b := b) (pre := N ++ P0 ++ P1 ++ P2 ++ P3 ++ P4 ++ P5) (post := ent 0 0) (t := 8) (x := rz) (c := c5) (nd := nd) (v := [if c0 = true then none else some so, some st, some sz, if c3 = true then none else some sy, if c3 = true then none else some sn, if c5 = true then none else some rl, none]) (by rw [hP6, e]; simp only [List.append_assoc]) (p := (N ++ P0 ++ P1 ++ P2 ++ P3 ++ P4 ++ P5).length) rfl (by decide) (by decide) (by decide) (by decide) k6 rfl
 rw [hP6] at t6
 have hV : dvv (nd, so, st, sz, sy, sn, rl, rz) = [if c0 = true then none else some so, some st, some sz, if c3 = true then none else some sy, if c3 = true then none else some sn, if c5 = true then none else some rl, if c5 = true then none else some rz] := by
  unfold dvv
  dsimp only
  rw [i0, i3, i3, i5, i5]
 have t7 : dynT b (N ++ P0 ++ P1 ++ P2 ++ P3 ++ P4 ++ P5 ++ P6).length nd (dvv (nd, so, st, sz, sy, sn, rl, rz)) = ((nd, dvv (nd, so, st, sz, sy, sn, rl, rz)), 0) := by
  have eb : b = (N ++ P0 ++ P1 ++ P2 ++ P3 ++ P4 ++ P5 ++ P6) ++ (ent 0 0 ++ []) := by rw [e]; simp only [List.append_assoc, List.append_nil]
  obtain ⟨g1, _⟩ := ent_at (pre := N ++ P0 ++ P1 ++ P2 ++ P3 ++ P4 ++ P5 ++ P6) (post := []) (t := 0) (v := 0) (by decide) (by decide)
  rw [<- eb] at g1
  have hlen : (N ++ P0 ++ P1 ++ P2 ++ P3 ++ P4 ++ P5 ++ P6).length + 16 <= b.length := by
   rw [eb, List.length_append (bs := ent 0 0 ++ []), List.length_append (bs := []), ent_len]; omega
  rw [dynT_step hlen, g1, if_pos rfl, hV, if_pos]
  cases c0 <;> cases c3 <;> cases c5 <;> rfl
 unfold dynG
 have hne' : dynT b 0 [] dyn0 = dynT b N.length nd dyn0 := by rw [hN]; simpa using hne
 rw [hne', t0]
 refine t1.trans ?_
 refine Eq.trans ?_ (t2.trans (Eq.trans ?_ (t3.trans (Eq.trans ?_ (t4.trans (Eq.trans ?_ (t5.trans (Eq.trans ?_ (t6.trans (Eq.trans ?_ t7)))))))))) 
 · cases c0 <;> rfl
 · rfl
 · cases c3 <;> rfl
 · cases c3 <;> rfl
 · cases c5 <;> rfl
 · rw [hV]; cases c5 <;> rfl
theorem dval_dvv (x : Inf) : dval (dvv x) 0 = x.2.1 /\ dval (dvv x) 1 = x.2.2.1 /\ dval (dvv x) 2 = x.2.2.2.1 /\ dval (dvv x) 3 = (if x.2.2.2.2.2.1 = 0 then 0 else x.2.2.2.2.1) /\ dval (dvv x) 4 = x.2.2.2.2.2.1 /\ dval (dvv x) 6 = x.2.2.2.2.2.2.2 := by
 have k : ∀ (c x : Int), (if c = 0 then none else some x : Option Int).getD 0 = if c = 0 then 0 else x := fun c x => by split <;> rfl
 have k2 : ∀ x : Int, (if x = 0 then 0 else x) = x := fun x => by split <;> omega
 refine ⟨?_, rfl, rfl, ?_, ?_, ?_⟩
 · exact (k _ _).trans (k2 _)
 · exact k _ _
 · exact (k _ _).trans (k2 _)
 · exact (k _ _).trans (k2 _)
theorem putIf_pre (o b : List Int) (n : Nat) : ∃ r, putIf o b n = o ++ r := by
 unfold putIf padTo
 split
 · exact ⟨[], (List.append_nil _).symm⟩
 · exact ⟨_, List.append_assoc _ _ _⟩
theorem oc9_apd {s : Spec9} (hf : FewS s) : oc9 s = ob9 s ++ sy9 s := by
 unfold oc9 putIf
 split
 · rename_i h
   rw [List.length_eq_zero_iff.1 h, List.append_nil]
 · rw [padTo_self (by rw [ob9_len hf]; exact Nat.le_refl _)]
theorem og9_parts {s : Spec9} (hf : FewS s) : ∃ z r, og9 s = hd9 s ++ (((sg9 s).map sput).flatten ++ (dp9 s ++ (tb9 s ++ (z ++ (sy9 s ++ r))))) /\ z.length = ps9 s - (pt9 s + (tb9 s).length) := by
 obtain ⟨r1, h1⟩ := putIf_pre (of9 s) (Tl9 s) (pl9 s)
 obtain ⟨r2, h2⟩ := putIf_pre (oe9 s) (Da9 s) (pa9 s)
 obtain ⟨r3, h3⟩ := putIf_pre (od9 s) (Co9 s) (pc9 s)
 obtain ⟨r4, h4⟩ := putIf_pre (oc9 s) (rl9 s) (pr9 s)
 refine ⟨List.replicate (ps9 s - (oa9 s).length) 0, r4 ++ (r3 ++ (r2 ++ r1)), ?_, by rw [List.length_replicate, oa9_len hf]⟩
 have e : og9 s = ((((ob9 s ++ sy9 s) ++ r4) ++ r3) ++ r2) ++ r1 := by
  rw [<- oc9_apd hf, <- h4]
  show putIf _ _ _ = _
  rw [h1]
  show putIf _ _ _ ++ _ = _
  rw [h2]
  show (putIf _ _ _ ++ _) ++ _ = _
  rw [h3]
  rfl
 rw [e]
 unfold ob9 padTo oa9 oh9
 simp only [List.append_assoc]
theorem findS_sg9 (s : Spec9) : findS (sg9 s) 1 = some 0 /\ (findS (sg9 s) 2).map (fun k => (sg9 s).getD k default) = some (segY (pd9 s) (dn9 s)) /\ ∃ r, sg9 s = segA (pe9 s) :: r := by
 unfold sg9 segG sgB sgD
 refine ⟨rfl, ?_, ⟨_, rfl⟩⟩
 split <;> split <;> rfl
structure Rb9 (s : Spec9) : Prop where
 hd : getHS (og9 s) = ((K9 s, en9 s, 64, (ct9 s : Int)), 0)
 sg : tabSS (og9 s) 64 (ct9 s : Int) = (sg9 s, 0)
 dy : cutP (og9 s) (pd9 s) (dn9 s) = (dp9 s, 0)
 dx : dynG (dp9 s) = ((nm9 s, dvv (inf9 s (pt9 s) (ps9 s) (pr9 s))), 0)
 tb : cutP (og9 s) (pt9 s) ((tb9 s).length : Int) = (tb9 s, 0)
 sy : cutP (og9 s) (ps9 s) (24 * (sn9 s : Int)) = (sy9 s, 0)
theorem Rb9.of {s : Spec9} (hf : FewS s) (hm : may9 s = 0) : Rb9 s := by
 have b := bd9 hf
 have p := pl9_le hf
 obtain ⟨z, r, e, hz⟩ := og9_parts hf
 have hK := (may9_ok hm).1
 have hct := b.ct
 have hps := b.ps
 have l1 : (hd9 s).length = 64 := hput_length _
 have l2 : (((sg9 s).map sput).flatten).length = 56 * ct9 s := by rw [sputs_len]; unfold sg9; rw [segG_len]; rfl
 have l3 : (dp9 s).length = dn9 s := b.dp _ _ _
 have k1 := k64 (n := pt9 s) (by have := p.pt; omega)
 have k2 := k64 (n := (tb9 s).length) (by have := b.tb; omega)
 have k3 := k64 (n := ps9 s) (by have := p.ps; omega)
 have k4 := k64 (n := sn9 s) (by have := b.sn; omega)
 have k5 := k64 (n := pr9 s) (by have := p.pr; omega)
 have k6 := k64 (n := rz9 s) (by have := b.rz; omega)
 have hq : hread (og9 s) = (K9 s, en9 s, 64, (ct9 s : Int)) := by
  rw [e]
  exact hread_hput (by show 0 <= K9 s /\ K9 s < 65536; omega) en9_k (by show InK .u64 (64 : Int); decide) (by show 0 <= (ct9 s : Int) /\ (ct9 s : Int) < 65536; omega) _
 refine ⟨?_, ?_, ?_, ?_, ?_, ?_⟩
 · unfold getHS
   have hlen : ¬ (og9 s).length < 64 := by rw [e, List.length_append]; omega
   rw [if_neg hlen, hq, headS_ok hf hm, if_pos]
   refine ⟨rfl, ?_⟩
   show hd9 s = _
   rw [e, <- l1, List.take_left]
 · rw [e]
   exact tabSS_mid (sg9_wf hf) (by have : (sg9 s).length = ct9 s := by unfold sg9; rw [segG_len]; rfl
                                   omega) (by rw [l1]; rfl) (by have : (sg9 s).length = ct9 s := by unfold sg9; rw [segG_len]; rfl
                                                                rw [this])
 · rw [e, <- List.append_assoc]
   exact cutP_mid (by rw [List.length_append, l1, l2]; rfl) (by rw [l3])
 · unfold dp9 inf9
   exact dynG_dput (fun a ha => by have := b.nmv a ha; have := b.tb; exact ⟨by show (0 : Int) <= _; omega, by show _ <= (18446744073709551615 : Int); omega⟩) (by have := b.sov; have := b.tb; exact ⟨by show (0 : Int) <= _; omega, by show _ <= (18446744073709551615 : Int); omega⟩) k1 k2 k3 k4 k5 k6
 · rw [e, <- List.append_assoc, <- List.append_assoc]
   exact cutP_mid (by rw [List.length_append, List.length_append, l1, l2, l3]; rfl) rfl
 · rw [e, <- List.append_assoc, <- List.append_assoc, <- List.append_assoc, <- List.append_assoc]
   refine cutP_mid ?_ ?_
   · have : pt9 s = 64 + 56 * ct9 s + dn9 s := rfl
     simp only [List.length_append, l1, l2, l3, hz]
     omega
   · rw [sy9_len]; omega
theorem placeS_sg9 {s : Spec9} {a n : Int} (ha : 0 <= a) (hn : 0 < n) (h : a + n <= (pe9 s : Int)) (hp : (pe9 s : Int) < 1000000) : placeS (sg9 s) a n = (a, 0) := by
 obtain ⟨r, hr⟩ := (findS_sg9 s).2.2
 have hat : atP a n (segA (pe9 s)) = true := by
  unfold atP segA
  dsimp only
  rw [decide_eq_true hn, decide_eq_true (show a >= 0 from ha), decide_eq_true (show a - 0 <= (pe9 s : Int) by omega), decide_eq_true (show n <= (pe9 s : Int) - (a - 0) by omega)]
  rfl
 unfold placeS
 rw [hr, List.find?_cons_of_pos hat]
 show (u64.wrap (0 + (a - 0)), (0 : Int)) = _
 rw [u64w (by omega)]
 congr 1
 omega
theorem bytesS_sg9 {s : Spec9} {b : List Int} {a n : Int} {y : List Int} (ha : 0 <= a) (hn : 0 < n) (h : a + n <= (pe9 s : Int)) (hp : (pe9 s : Int) < 1000000) (hc : cutP b a n = (y, 0)) : bytesS (sg9 s) b a n = (y, 0) := by
 unfold bytesS
 rw [placeS_sg9 ha hn h hp, if_pos rfl, hc]
structure Im9 (s : Spec9) : Prop where
 L : imgL (og9 s) = sg9 s
 LE : imgLE (og9 s) = 0
 H : imgH (og9 s) = (K9 s, en9 s, 64, (ct9 s : Int))
 D : imgD (og9 s) = some (segY (pd9 s) (dn9 s))
 DE : dynE (og9 s) (segY (pd9 s) (dn9 s)) = 0
 X : dynX (og9 s) (segY (pd9 s) (dn9 s)) = (nm9 s, dvv (inf9 s (pt9 s) (ps9 s) (pr9 s)))
 d0 : dv (og9 s) (segY (pd9 s) (dn9 s)) 0 = so9 s
 d4 : dv (og9 s) (segY (pd9 s) (dn9 s)) 4 = (sn9 s : Int)
 d6 : dv (og9 s) (segY (pd9 s) (dn9 s)) 6 = (rz9 s : Int)
 T : bytesS (sg9 s) (og9 s) (dv (og9 s) (segY (pd9 s) (dn9 s)) 1) (dv (og9 s) (segY (pd9 s) (dn9 s)) 2) = (tb9 s, 0)
 S : (De9 s).length ≠ 0 -> (symC (sg9 s) (og9 s) (segY (pd9 s) (dn9 s))).1 = sy9 s
theorem pe9_ge {s : Spec9} (hf : FewS s) : (pt9 s : Int) + ((tb9 s).length : Int) <= (pe9 s : Int) /\ (ps9 s : Int) + 24 * (sn9 s : Int) <= (pe9 s : Int) := by
 have b := bd9 hf
 have := b.ps
 unfold pe9 pr9
 omega
theorem Im9.of {s : Spec9} (hf : FewS s) (hm : may9 s = 0) : Im9 s := by
 have rd := Rb9.of hf hm
 have b := bd9 hf
 have p := pl9_le hf
 have hpe := p.pe
 have hge := pe9_ge hf
 have htb := b.tb
 have hH : imgH (og9 s) = (K9 s, en9 s, 64, (ct9 s : Int)) := by unfold imgH; rw [rd.hd]
 have hL : imgL (og9 s) = sg9 s := by unfold imgL; rw [hH]; show (tabSS (og9 s) 64 (ct9 s : Int)).1 = _; rw [rd.sg]
 have hC : segC (og9 s) (segY (pd9 s) (dn9 s)) = dp9 s := by
  unfold segC
  show (cutP (og9 s) (pd9 s : Int) (dn9 s : Int)).1 = _
  rw [rd.dy]
 have hX : dynX (og9 s) (segY (pd9 s) (dn9 s)) = (nm9 s, dvv (inf9 s (pt9 s) (ps9 s) (pr9 s))) := by unfold dynX; rw [hC, rd.dx]
 obtain ⟨v0, v1, v2, v3, v4, v6⟩ := dval_dvv (inf9 s (pt9 s) (ps9 s) (pr9 s))
 have d1 : dv (og9 s) (segY (pd9 s) (dn9 s)) 1 = (pt9 s : Int) := by unfold dv; rw [hX]; exact v1
 have d2 : dv (og9 s) (segY (pd9 s) (dn9 s)) 2 = ((tb9 s).length : Int) := by unfold dv; rw [hX]; exact v2
 have d4 : dv (og9 s) (segY (pd9 s) (dn9 s)) 4 = (sn9 s : Int) := by unfold dv; rw [hX]; exact v4
 have d0 : dv (og9 s) (segY (pd9 s) (dn9 s)) 0 = so9 s := by unfold dv; rw [hX]; exact v0
 have d6 : dv (og9 s) (segY (pd9 s) (dn9 s)) 6 = (rz9 s : Int) := by unfold dv; rw [hX]; exact v6
 refine ⟨hL, ?_, hH, ?_, ?_, hX, d0, d4, d6, ?_, fun hd => ?_⟩
 · unfold imgLE; rw [hH]; show (tabSS (og9 s) 64 (ct9 s : Int)).2 = _; rw [rd.sg]
 · unfold imgD; rw [hL]; exact (findS_sg9 s).2.1
 · unfold dynE; rw [hC, rd.dx]
 · rw [d1, d2]
   exact bytesS_sg9 (by omega) (by omega) hge.1 (by omega) rd.tb
 · have hsn : sn9 s = (De9 s).length + 1 := by unfold sn9; rw [if_neg hd]
   have d3 : dv (og9 s) (segY (pd9 s) (dn9 s)) 3 = (ps9 s : Int) := by
    unfold dv
    rw [hX]
    refine v3.trans (if_neg ?_)
    show (sn9 s : Int) ≠ 0
    omega
   unfold symC
   rw [d3, d4, bytesS_sg9 (by omega) (by omega) hge.2 (by omega) rd.sy]
end Dm

namespace Dm
open Go
theorem awake09 : law09_awake = some true := by kernel_rfl
end Dm

namespace Dm
open Go
theorem ofStr_bytes (s : List UInt8) : Bytes (ofStr s) := fun x hx => by
 unfold ofStr at hx
 rw [List.mem_map] at hx
 obtain ⟨u, _, rfl⟩ := hx
 have := u.toNat_lt
 omega
theorem bst_bytes {S : BS} (h : Bytes S.1) (s : Str) : Bytes (bst S s).1 := by
 unfold bst
 split
 · exact h
 · have z : Bytes [0] := fun x hx => by have : x = 0 := by simpa using hx
                                        subst this; decide
   exact (h.append (ofStr_bytes s)).append z
theorem bfold_bytes (l : List Str) : Bytes (bfold l).1 := by
 have key : ∀ (l : List Str) (S : BS), Bytes S.1 -> Bytes (l.foldl bst S).1 := by
  intro l
  induction l with
  | nil => exact fun S h => h
  | cons s l ih => exact fun S h => ih _ (bst_bytes h s)
 refine key l _ fun x hx => ?_
 have : x = 0 := by simpa using hx
 subst this; decide
theorem BuildS_bytes {s : Spec9} (hw : WfS s) (hf : FewS s) : Bytes (BuildS s).1 /\ (BuildS s).1.length <= 65536 := by
 have hB := BI.all (l9 s)
 have htb : Bytes (tb9 s) := by
  exact bfold_bytes _
 have hco := bytes_of hw.2.2.2.2.1.2
 have hda := bytes_of hw.2.2.2.2.2.1.2
 have htl := bytes_of hw.2.2.2.2.2.2.2.1.2
 have ho : Bytes (og9 s) := by
  refine putIf_bytes (putIf_bytes (putIf_bytes (putIf_bytes (putIf_bytes (padTo_bytes ?_ _) (symsG_bytes _ _ _ _) _) (relsG_bytes _ _ _) _) hco _) hda _) htl _
  exact (((hput_bytes _).append (sputs_bytes _)).append (dput_bytes _)).append htb
 unfold BuildS
 split
 · split
   · split
     · exact ⟨Bytes.nil, by simp⟩
     · exact ⟨ho, by show (og9 s).length <= 65536; omega⟩
   · exact ⟨Bytes.nil, by simp⟩
 · exact ⟨Bytes.nil, by simp⟩
end Dm

namespace Dm
open Go
open IntKind (u64 i64 u8 u32)
theorem oneS_ok {size t f off va fi me al : Int} (hk : kindS t = true) (hf : f <= 7) (h0 : t ≠ 0) (h1 : off <= size) (h2 : fi <= size - off) (h3 : fi <= me) (h4 : va <= 4294967296) (h5 : me <= 4294967296 - va) (h6 : t = 1 -> va % 256 = off % 256 /\ me ≠ 0) : oneS size (t, f, off, va, fi, me, al) = 0 := by
 unfold oneS
 rw [if_neg (by rintro (h | h); · rw [show kindS t = true from hk] at h; cases h
                · have h : f > 7 := h
                  omega)]
 unfold restS
 dsimp only
 rw [if_neg h0, if_neg (by omega), if_neg (by omega), if_neg (by omega), if_neg]
 rintro ⟨a, b⟩
 obtain ⟨c, d⟩ := h6 a
 rcases b with b | b
 · exact b c
 · exact d b
theorem errS_ok {size : Int} {pre : List Seg} {s : Seg} (h1 : oneS size s = 0) (h2 : (singS s.1 && pre.any fun x => x.1 == s.1) = false) (h3 : s.1 = 1 -> hiS pre <= firstS s) : errS size pre s = 0 := by
 unfold errS
 rw [if_neg (fun h => h h1), if_neg (by rintro ⟨a, b⟩; rw [a, b] at h2; cases h2), if_neg (by rintro ⟨a, b⟩; have := h3 a; omega)]
def sp9 (code data : List Int) (entry : Int) : Spec9 := (2, [], [], entry, code, data, 0, [], 0, [], [])
theorem sp9_few {code data : List Int} {entry : Int} (h1 : code.length <= 3000) (h2 : data.length <= 3000) : FewS (sp9 code data entry) := by
 refine ⟨h1, h2, ?_, ?_, ?_, ?_, ?_, ?_, ?_⟩
 · show ([] : List Int).length <= 3000; simp
 · show ([] : List Def9).length <= 30; simp
 · show ([] : List Fix9).length <= 30; simp
 · show ([] : List (List UInt8)).length <= 20; simp
 · show ([] : List UInt8).length <= 300; simp
 · intro y hy; have hy : y ∈ ([] : List Def9) := hy; simp at hy
 · intro y hy; have hy : y ∈ ([] : List (List UInt8)) := hy; simp at hy
theorem sp9_wf {code data : List Int} {entry : Int} (h1 : code.length <= 3000) (h2 : data.length <= 3000) (b1 : ∀ y ∈ code, InK .u8 y) (b2 : ∀ y ∈ data, InK .u8 y) (he : InK .u64 entry) : WfS (sp9 code data entry) := by
 refine ⟨by show InK .i64 (2 : Int); decide, ?_, ⟨?_, ?_⟩, he, ⟨?_, b1⟩, ⟨?_, b2⟩, ?_, ⟨?_, ?_⟩, ?_, ⟨?_, ?_⟩, ⟨?_, ?_⟩⟩
 · show ([] : List UInt8).length <= _; simp
 · show ([] : List (List UInt8)).length <= _; simp
 · intro y hy; have hy : y ∈ ([] : List (List UInt8)) := hy; simp at hy
 · show code.length <= _; omega
 · show data.length <= _; omega
 · show InK .u64 (0 : Int); decide
 · show ([] : List Int).length <= _; simp
 · intro y hy; have hy : y ∈ ([] : List Int) := hy; simp at hy
 · show InK .u64 (0 : Int); decide
 · show ([] : List Def9).length <= _; simp
 · intro y hy; have hy : y ∈ ([] : List Def9) := hy; simp at hy
 · show ([] : List Fix9).length <= _; simp
 · intro y hy; have hy : y ∈ ([] : List Fix9) := hy; simp at hy
theorem sp9_may {code data : List Int} {entry : Int} (h1 : code.length <= 3000) (h2 : data.length <= 3000) : may9 (sp9 code data entry) = 0 := by
 show mayS 2 code data [] 0 0 [] [] = 0
 unfold mayS
 rw [if_neg (by decide), if_neg]
 unfold bigS
 rw [decide_eq_false (by simp only [List.length_nil]; omega : ¬ (((code.length + data.length + ([] : List Int).length : Nat) : Int) > 65536))]
 decide
theorem upN_mod (x : Nat) {n : Nat} : upN x n % n = 0 := Nat.mul_mod_left _ _
structure Pa9 (code data : List Int) (entry : Int) : Prop where
 pt : pt9 (sp9 code data entry) = pd9 (sp9 code data entry) + 48
 tb : (tb9 (sp9 code data entry)).length = 1
 pe : pe9 (sp9 code data entry) = ps9 (sp9 code data entry)
 c : pc9 (sp9 code data entry) % 256 = 0
 a : pa9 (sp9 code data entry) % 256 = 0
theorem Pa9.of (code data : List Int) (entry : Int) : Pa9 code data entry := by
 refine ⟨?_, rfl, ?_, upN_mod _, upN_mod _⟩
 · have : dn9 (sp9 code data entry) = 48 := rfl
   show pd9 (sp9 code data entry) + dn9 (sp9 code data entry) = _
   rw [this]
 · show ps9 (sp9 code data entry) + 24 * sn9 (sp9 code data entry) + rz9 (sp9 code data entry) = _
   have h1 : sn9 (sp9 code data entry) = 0 := rfl
   have h2 : rz9 (sp9 code data entry) = 0 := rfl
   rw [h1, h2]; rfl
theorem sg9_cd {code data : List Int} {entry : Int} (hc : code.length ≠ 0) (hd : data.length <= 3000) : sg9 (sp9 code data entry) =
    if data.length = 0 then [segA (pe9 (sp9 code data entry)), segB (pc9 (sp9 code data entry)) code, segY (pd9 (sp9 code data entry)) (dn9 (sp9 code data entry))]
    else [segA (pe9 (sp9 code data entry)), segB (pc9 (sp9 code data entry)) code, (1, 6, (pa9 (sp9 code data entry) : Int), (pa9 (sp9 code data entry) : Int), (data.length : Int), (data.length : Int), 256), segY (pd9 (sp9 code data entry)) (dn9 (sp9 code data entry))] := by
 have hB : sgB (pc9 (sp9 code data entry)) code = [segB (pc9 (sp9 code data entry)) code] := by unfold sgB; rw [if_neg hc]
 have hT : sgT (pl9 (sp9 code data entry)) [] 0 = [] := rfl
 show segG _ _ _ _ _ _ code data 0 [] 0 = _
 unfold segG
 rw [hB, hT]
 split
 · rename_i h
   have : sgD (pa9 (sp9 code data entry)) (pl9 (sp9 code data entry)) data [] 0 = [] := by
    unfold sgD hasD9
    rw [if_neg]
    rw [decide_eq_false (by omega)]
    decide
   rw [this]; rfl
 · rename_i h
   have hn : nD9 (pa9 (sp9 code data entry)) (pl9 (sp9 code data entry)) data [] = (data.length : Int) := rfl
   have : sgD (pa9 (sp9 code data entry)) (pl9 (sp9 code data entry)) data [] 0 = [(1, 6, (pa9 (sp9 code data entry) : Int), (pa9 (sp9 code data entry) : Int), (data.length : Int), (data.length : Int), 256)] := by
    unfold sgD hasD9
    rw [decide_eq_true (show ((data.length : Nat) : Int) > 0 by omega), Bool.true_or, if_pos rfl]
    unfold segD
    rw [hn, if_neg (by omega), u64w (by omega), Int.add_zero]
   rw [this]; rfl
theorem checkSS_cd {code data : List Int} {entry : Int} (h0 : code.length ≠ 0) (h1 : code.length <= 3000) (h2 : data.length <= 3000) {size : Int} (hs : (pc9 (sp9 code data entry) : Int) + code.length <= size) (hs2 : data.length ≠ 0 -> (pa9 (sp9 code data entry) : Int) + data.length <= size) : checkSS size (sg9 (sp9 code data entry)) = 0 := by
 have hf := sp9_few (entry := entry) h1 h2
 have b := bd9 hf
 have p := pl9_le hf
 have q := Pa9.of code data entry
 have q1 := q.pt
 have q2 := q.tb
 have q3 := q.pe
 have q4 := q.c
 have q5 := q.a
 have b1 := b.ps
 have b2 := b.pc
 have b3 : pc9 (sp9 code data entry) + code.length <= pa9 (sp9 code data entry) /\ pa9 (sp9 code data entry) < pc9 (sp9 code data entry) + code.length + 256 := b.pa
 have p1 := p.pc
 have p2 := p.pa
 have hdn : dn9 (sp9 code data entry) = 48 := rfl
 rw [sg9_cd h0 h2, hdn, show ((48 : Nat) : Int) = (48 : Int) from rfl]
 generalize pd9 (sp9 code data entry) = pd at *
 generalize pt9 (sp9 code data entry) = pt at *
 generalize ps9 (sp9 code data entry) = ps at *
 generalize pe9 (sp9 code data entry) = pe at *
 generalize pc9 (sp9 code data entry) = pc at *
 generalize pa9 (sp9 code data entry) = pa at *
 generalize (tb9 (sp9 code data entry)).length = tb at *
 have eA : errS size [] (segA pe) = 0 := errS_ok (oneS_ok (by decide) (by omega) (by omega) (by omega) (by omega) (by omega) (by omega) (by omega) (fun _ => by omega)) rfl (fun _ => by show (0 : Int) <= 0 / 256 * 256; omega)
 have eB : errS size [segA pe] (segB pc code) = 0 := errS_ok (oneS_ok (by decide) (by omega) (by omega) (by omega) (by omega) (by omega) (by omega) (by omega) (fun _ => by omega)) rfl (fun _ => by show ((0 : Int) + (pe : Int) + 255) / 256 * 256 <= (pc : Int) / 256 * 256; omega)
 have hw : winS (segY pd 48) (segA pe) = true := by
  unfold winS segY segA
  dsimp only
  rw [decide_eq_true (by omega : (pd : Int) >= 0), decide_eq_true (by omega : (pd : Int) + 48 <= 0 + (pe : Int)), decide_eq_true (by omega : ((0 : Int) - 0) % 18446744073709551616 = ((pd : Int) - (pd : Int)) % 18446744073709551616)]
  rfl
 have bA : ∀ (l : List Seg) (s : Seg), s.1 = 1 -> badS l s = 0 := fun l s h => by
  unfold badS
  rw [if_neg]
  rintro ⟨a, _⟩
  rw [h] at a; cases a
 have bY : ∀ r, badS (segA pe :: r) (segY pd 48) = 0 := fun r => by
  unfold badS
  rw [if_neg]
  rintro ⟨_, _, c⟩
  rw [List.any_cons, hw] at c; cases c
 have oY : oneS size (segY pd 48) = 0 := oneS_ok (by decide) (by omega) (by omega) (by omega) (by omega) (by omega) (by omega) (by omega) (fun h => by omega)
 have nY : (segY pd 48).1 = 1 -> False := fun h => by cases h
 split
 · have hY : errS size [segA pe, segB pc code] (segY pd 48) = 0 := errS_ok oY rfl (fun h => (nY h).elim)
   have hp : ph1 size [] [segA pe, segB pc code, segY pd 48] = 0 := by
    rw [ph1, if_pos eA, ph1, if_pos (by exact eB), ph1, if_pos (by exact hY), ph1]
   unfold checkSS
   rw [if_pos hp]
   refine firstE_zero _ _ fun x hx => ?_
   simp only [List.mem_cons, List.not_mem_nil, or_false] at hx
   rcases hx with rfl | rfl | rfl
   · exact bA _ _ rfl
   · exact bA _ _ rfl
   · exact bY _
 · rename_i hd
   have hs2 := hs2 hd
   have eD : errS size [segA pe, segB pc code] (1, 6, (pa : Int), (pa : Int), (data.length : Int), (data.length : Int), 256) = 0 := errS_ok (oneS_ok (by decide) (by omega) (by omega) (by omega) (by omega) (by omega) (by omega) (by omega) (fun _ => by omega)) rfl (fun _ => by show ((pc : Int) + (code.length : Int) + 255) / 256 * 256 <= (pa : Int) / 256 * 256; omega)
   have hY : errS size [segA pe, segB pc code, (1, 6, (pa : Int), (pa : Int), (data.length : Int), (data.length : Int), 256)] (segY pd 48) = 0 := errS_ok oY rfl (fun h => (nY h).elim)
   have hp : ph1 size [] [segA pe, segB pc code, (1, 6, (pa : Int), (pa : Int), (data.length : Int), (data.length : Int), 256), segY pd 48] = 0 := by
    rw [ph1, if_pos eA, ph1, if_pos (by exact eB), ph1, if_pos (by exact eD), ph1, if_pos (by exact hY), ph1]
   unfold checkSS
   rw [if_pos hp]
   refine firstE_zero _ _ fun x hx => ?_
   simp only [List.mem_cons, List.not_mem_nil, or_false] at hx
   rcases hx with rfl | rfl | rfl | rfl
   · exact bA _ _ rfl
   · exact bA _ _ rfl
   · exact bA _ _ rfl
   · exact bY _
theorem og9_cd {code data : List Int} {entry : Int} (h0 : code.length ≠ 0) (h1 : code.length <= 3000) (h2 : data.length <= 3000) :
    (∃ x r, og9 (sp9 code data entry) = x ++ (code ++ r) /\ x.length = pc9 (sp9 code data entry)) /\ (data.length = 0 -> (og9 (sp9 code data entry)).length = pc9 (sp9 code data entry) + code.length) /\
     (data.length ≠ 0 -> ∃ x, og9 (sp9 code data entry) = x ++ data /\ x.length = pa9 (sp9 code data entry)) := by
 have hf := sp9_few (entry := entry) h1 h2
 have b := bd9 hf
 have eg : og9 (sp9 code data entry) = of9 (sp9 code data entry) := by
  unfold og9 putIf
  exact if_pos rfl
 have ee : oe9 (sp9 code data entry) = padTo (od9 (sp9 code data entry)) (pc9 (sp9 code data entry)) ++ code := by
  unfold oe9 putIf
  exact if_neg h0
 have le : (padTo (od9 (sp9 code data entry)) (pc9 (sp9 code data entry))).length = pc9 (sp9 code data entry) := by
  have := b.pc
  rw [padTo_len, od9_len hf]; omega
 refine ⟨?_, fun hd => ?_, fun hd => ?_⟩
 · obtain ⟨r, hr⟩ := putIf_pre (oe9 (sp9 code data entry)) data (pa9 (sp9 code data entry))
   refine ⟨_, r, ?_, le⟩
   rw [eg]
   show putIf _ data _ = _
   rw [hr, ee, List.append_assoc]
 · have e2 : of9 (sp9 code data entry) = oe9 (sp9 code data entry) := by
    unfold of9 putIf
    exact if_pos hd
   rw [eg, e2, ee, List.length_append, le]
 · refine ⟨padTo (oe9 (sp9 code data entry)) (pa9 (sp9 code data entry)), ?_, ?_⟩
   · rw [eg]
     unfold of9 putIf
     exact if_neg hd
   · have := oe9_le hf
     rw [padTo_len]; omega
theorem og9_lens {code data : List Int} {entry : Int} (h0 : code.length ≠ 0) (h1 : code.length <= 3000) (h2 : data.length <= 3000) :
    pc9 (sp9 code data entry) + code.length <= (og9 (sp9 code data entry)).length /\ (data.length ≠ 0 -> (og9 (sp9 code data entry)).length = pa9 (sp9 code data entry) + data.length) := by
 obtain ⟨⟨x, r, e, l⟩, _, h⟩ := og9_cd (entry := entry) h0 h1 h2
 refine ⟨by rw [e, List.length_append, List.length_append]; omega, fun hd => ?_⟩
 obtain ⟨y, e2, l2⟩ := h hd
 rw [e2, List.length_append]; omega
theorem imgE_cd {code data : List Int} {entry : Int} (h0 : code.length ≠ 0) (h1 : code.length <= 3000) (h2 : data.length <= 3000) : imgE (og9 (sp9 code data entry)) = 0 := by
 have hf := sp9_few (entry := entry) h1 h2
 have hm := sp9_may (entry := entry) h1 h2
 have im := Im9.of hf hm
 have rd := Rb9.of hf hm
 have hl := og9_len hf
 obtain ⟨l1, l2⟩ := og9_lens (entry := entry) h0 h1 h2
 have hc : checkSS ((og9 (sp9 code data entry)).length : Int) (sg9 (sp9 code data entry)) = 0 := checkSS_cd h0 h1 h2 (by omega) (fun hd => by have := l2 hd; omega)
 have hsh : shE (og9 (sp9 code data entry)) = 0 := by
  unfold shE
  rw [if_pos (by rw [rd.hd]), if_neg (by rw [im.H]; show ¬ ((2 : Int) = 4); decide), if_pos im.LE, im.L, if_pos hc, (findS_sg9 _).1]
  rfl
 have hT : tabT (sg9 (sp9 code data entry)) (og9 (sp9 code data entry)) (segY (pd9 (sp9 code data entry)) (dn9 (sp9 code data entry))) = tb9 (sp9 code data entry) := by unfold tabT; rw [im.T]
 have hTE : tabTE (sg9 (sp9 code data entry)) (og9 (sp9 code data entry)) (segY (pd9 (sp9 code data entry)) (dn9 (sp9 code data entry))) = 0 := by unfold tabTE; rw [im.T]
 have hs0 : so9 (sp9 code data entry) = 0 := rfl
 have hck : checkS (tb9 (sp9 code data entry)) = 0 := checkS_bfold _
 have hso : soE (tb9 (sp9 code data entry)) 0 = 0 := if_pos rfl
 have hn0 : nm9 (sp9 code data entry) = [] := rfl
 have h40 : dv (og9 (sp9 code data entry)) (segY (pd9 (sp9 code data entry)) (dn9 (sp9 code data entry))) 4 = 0 := im.d4
 have h60 : dv (og9 (sp9 code data entry)) (segY (pd9 (sp9 code data entry)) (dn9 (sp9 code data entry))) 6 = 0 := im.d6
 have hN : nmdE (sg9 (sp9 code data entry)) (og9 (sp9 code data entry)) (segY (pd9 (sp9 code data entry)) (dn9 (sp9 code data entry))) = 0 := by
  unfold nmdE
  rw [if_pos im.DE, if_pos hTE, hT, if_pos hck, im.d0, hs0, if_pos hso, im.X, hn0]
  rfl
 have hY : symsE (sg9 (sp9 code data entry)) (og9 (sp9 code data entry)) (segY (pd9 (sp9 code data entry)) (dn9 (sp9 code data entry))) = 0 := by
  unfold symsE
  rw [h40, if_neg (by decide), if_pos rfl]
 have hR : ∀ n, relsE (sg9 (sp9 code data entry)) (og9 (sp9 code data entry)) (segY (pd9 (sp9 code data entry)) (dn9 (sp9 code data entry))) n = 0 := fun n => by
  unfold relsE
  rw [h60, if_neg (by decide), if_pos rfl]
 have hsT : symT (sg9 (sp9 code data entry)) (og9 (sp9 code data entry)) (segY (pd9 (sp9 code data entry)) (dn9 (sp9 code data entry))) = [] := by
  unfold symT
  rw [h40, if_pos rfl]
 have hrT : relT (sg9 (sp9 code data entry)) (og9 (sp9 code data entry)) (segY (pd9 (sp9 code data entry)) (dn9 (sp9 code data entry))) = [] := by
  unfold relT
  rw [h60, if_pos rfl]
 unfold imgE
 rw [if_neg (by omega), if_pos hsh]
 unfold bodE
 rw [im.D, im.L]
 dsimp only
 unfold totE
 rw [if_pos hN, if_pos hY, hR, if_pos rfl, hsT, hrT]
 rfl
theorem imgV_1 (b : List Int) : (imgV b).1 = imgH b /\ (imgV b).2.1 = imgL b := by
 unfold imgV
 split <;> exact ⟨rfl, rfl⟩
theorem BuildS_cd {code data : List Int} {entry : Int} (h1 : code.length <= 3000) (h2 : data.length <= 3000) : BuildS (sp9 code data entry) = (og9 (sp9 code data entry), 0) := by
 have hf := sp9_few (entry := entry) h1 h2
 have hm := sp9_may (entry := entry) h1 h2
 have hl := og9_len hf
 unfold BuildS
 rw [if_pos hm, if_pos (by rfl), if_neg (by omega)]
theorem cutL_mid {x y z : List Int} {p q : Int} (hp : p = (x.length : Int)) (hq : q = (x.length : Int) + y.length) : cutL (x ++ (y ++ z)) p q = y := by
 subst hp hq
 unfold cutL
 have e : ((x.length : Int) + (y.length : Int)).toNat = (x ++ y).length := by rw [List.length_append]; omega
 rw [e, <- List.append_assoc, List.take_left, Int.toNat_natCast, List.drop_left]
theorem ImageParts_true {code : List Int} (_ : code.length <= 9223372036854775807) (wc : ∀ y ∈ code, InK .u8 y) {data : List Int} (_ : data.length <= 9223372036854775807) (wd : ∀ y ∈ data, InK .u8 y) {entry : Int} (we : InK .u16 entry) : law09_ImageParts code data entry = some true := by
 have we := inK_u16 we
 unfold law09_ImageParts
 refine bdP (P := (· = some true)) awake09 ?_
 refine fP (P := (· = some true)) (by decide) ?_
 refine jnC (P := (· = some true)) (fun c => c = false -> code.length ≠ 0 /\ code.length <= 3000 /\ data.length <= 3000) ?_ (fun kk hkk => ?_)
 rotate_left
 · refine eqP (P := (· = some true)) (fun _ => hkk _ fun h => by cases h) (fun h1 => ?_)
   have h1 : ((code.length : Nat) : Int) ≠ 0 := h1
   refine deP (P := (· = some true)) (fun _ => hkk _ fun h => by cases h) (fun h2 => ?_)
   refine hkk _ fun h3 => ?_
   have h3 := of_decide_eq_false h3
   exact ⟨by omega, by omega, by omega⟩
 intro c hc
 refine ifP (P := (· = some true)) (fun _ => rfl) (fun h => ?_)
 obtain ⟨h0, h1, h2⟩ := hc (by simpa using h)
 have ew : u64.wrap entry = entry := u64w (by omega)
 rw [ew]
 have we64 : InK .u64 entry := ⟨by show (0 : Int) <= entry; omega, by show entry <= (18446744073709551615 : Int); omega⟩
 have hf := sp9_few (entry := entry) h1 h2
 have hw := sp9_wf (entry := entry) h1 h2 wc wd we64
 refine build_run (P := fun r => Option.bind r _ = some true) (s := sp9 code data entry) hw hf ?_
 obtain ⟨hB, _⟩ := BuildS_bytes hw hf
 rw [BuildS_cd h1 h2] at hB ⊢
 refine bdP (P := (· = some true)) rfl ?_
 have hB : Bytes (og9 (sp9 code data entry)) := hB
 have hl := og9_len hf
 refine bdP (P := (· = some true)) (image_Parse_eq (b := og9 (sp9 code data entry)) (by omega) hB) ?_
 unfold parseS
 rw [if_pos (imgE_cd h0 h1 h2)]
 have im := Im9.of hf (sp9_may (entry := entry) h1 h2)
 have hV : (imgV (og9 (sp9 code data entry))).1 = (2, en9 (sp9 code data entry), 64, (ct9 (sp9 code data entry) : Int)) /\ (imgV (og9 (sp9 code data entry))).2.1 = sg9 (sp9 code data entry) := by
  obtain ⟨a, b⟩ := imgV_1 (og9 (sp9 code data entry))
  exact ⟨a.trans im.H, b.trans im.L⟩
 have hen : en9 (sp9 code data entry) = u64.wrap ((pc9 (sp9 code data entry) : Int) + entry) := if_neg h0
 have q := Pa9.of code data entry
 have p := pl9_le hf
 have b := bd9 hf
 have q4 := q.c
 have q5 := q.a
 have p1 := p.pc
 have p2 := p.pa
 have b3 : pc9 (sp9 code data entry) + code.length <= pa9 (sp9 code data entry) /\ pa9 (sp9 code data entry) < pc9 (sp9 code data entry) + code.length + 256 := b.pa
 obtain ⟨⟨x, r, e1, e2⟩, e3, e4⟩ := og9_cd (entry := entry) h0 h1 h2
 obtain ⟨l1, l2⟩ := og9_lens (entry := entry) h0 h1 h2
 have hsg := sg9_cd (entry := entry) h0 h2
 generalize imgV (og9 (sp9 code data entry)) = I at hV
 obtain ⟨hV1, hV2⟩ := hV
 generalize og9 (sp9 code data entry) = B at *
 generalize pc9 (sp9 code data entry) = pc at *
 generalize pa9 (sp9 code data entry) = pa at *
 rw [hsg] at hV2
 have hcut : cutL B (pc : Int) ((pc : Int) + (code.length : Int)) = code := by
  rw [e1]
  exact cutL_mid (by rw [e2]) (by rw [e2])
 have hl3 : 3 <= I.2.1.length := by rw [hV2]; split <;> simp
 have hg1 : gt I.2.1 1 = segB pc code := by rw [hV2]; split <;> rfl
 have w1 : u64.wrap ((pc : Int) + (code.length : Int)) = (pc : Int) + (code.length : Int) := u64w (by omega)
 have wc : u64.wrap ((code.length : Nat) : Int) = ((code.length : Nat) : Int) := u64w (by omega)
 have f1 : (gt I.2.1 1).2.2.1 = (pc : Int) := by rw [hg1]; rfl
 have f2 : (gt I.2.1 1).2.2.2.1 = (pc : Int) := by rw [hg1]; rfl
 have f3 : (gt I.2.1 1).2.2.2.2.1 = (code.length : Int) := by rw [hg1]; rfl
 refine jnC (P := (· = some true)) (fun c => c = false) ?_ (fun kk hkk => ?_)
 rotate_left
 · refine neP (P := (· = some true)) (fun _ => ?_) (fun h => absurd rfl h)
   refine neP (P := (· = some true)) (fun _ => ?_) (fun h => absurd rfl h)
   exact hkk _ (decide_eq_false (by show ¬ ((I.2.1.length : Nat) : Int) < 3; omega))
 rintro _ rfl
 refine fP (P := (· = some true)) (by decide) ?_
 refine gdP (P := (· = some true)) (by show (0 : Int) <= 1 /\ (1 : Int) < ((I.2.1.length : Nat) : Int); omega) ?_
 refine jnC (P := (· = some true)) (fun c => c = false) ?_ (fun kk hkk => ?_)
 rotate_left
 · dsimp only
   rw [f1, f2, f3, w1, wc]
   refine neP (P := (· = some true)) (fun _ => ?_) (fun h => absurd (by rw [Int.tmod_eq_emod_of_nonneg (by omega)]; omega) h)
   refine neP (P := (· = some true)) (fun _ => ?_) (fun h => absurd rfl h)
   refine neP (P := (· = some true)) (fun _ => ?_) (fun h => absurd rfl h)
   refine gdP (P := (· = some true)) (by omega) ?_
   refine fP (P := (· = some true)) (by rw [hcut]; simp) ?_
   refine hkk _ ?_
   rw [hV1]
   show (en9 (sp9 code data entry) != u64.wrap ((pc : Int) + entry)) = false
   rw [hen]; simp
 rintro _ rfl
 refine fP (P := (· = some true)) (by decide) ?_
 refine eqP (P := (· = some true)) (fun hd => ?_) (fun hd => ?_)
 · have hd : ((data.length : Nat) : Int) = 0 := hd
   have hd : data.length = 0 := by omega
   rw [if_pos hd] at hV2
   refine jnP (P := (· = some true)) ?_
   refine tP (P := (· = some true)) (by show (((I.2.1.length : Nat) : Int) == 3) = true; rw [hV2]; rfl) ?_
   dsimp only
   rw [f1, f3, w1, e3 hd, u64w (by omega)]
   show some (((pc + code.length : Nat) : Int) == (pc : Int) + (code.length : Int)) = some true
   rw [show ((pc + code.length : Nat) : Int) = (pc : Int) + (code.length : Int) by omega]
   simp
 · have hd : ((data.length : Nat) : Int) ≠ 0 := hd
   have hd : data.length ≠ 0 := by omega
   rw [if_neg hd] at hV2
   have l2 := l2 hd
   obtain ⟨y, y1, y2⟩ := e4 hd
   have g1 : (gt I.2.1 2).2.2.1 = (pa : Int) := by rw [hV2]; rfl
   have w2 : u64.wrap (u64.wrap ((pa : Int) - (pc : Int)) - (code.length : Int)) = (pa : Int) - (pc : Int) - (code.length : Int) := by
    rw [u64w (n := (pa : Int) - (pc : Int)) (by omega), u64w (by omega)]
   have hcut2 : cutL B (pa : Int) ((B.length : Nat) : Int) = data := by
    rw [cutL_end, y1, Int.toNat_natCast, <- y2, List.drop_left]
   refine gdP (P := (· = some true)) (by show (0 : Int) <= 2 /\ (2 : Int) < ((I.2.1.length : Nat) : Int); omega) ?_
   refine jnP (P := (· = some true)) ?_
   dsimp only
   rw [g1, f1, f3, w1, w2]
   refine tP (P := (· = some true)) (by rw [hV2]; rfl) ?_
   refine tP (P := (· = some true)) (by rw [Int.tmod_eq_emod_of_nonneg (by omega)]; simp; omega) ?_
   refine tP (P := (· = some true)) (by simp; omega) ?_
   refine tP (P := (· = some true)) (by simp; omega) ?_
   refine gdP (P := (· = some true)) (by omega) ?_
   show some (toStr (cutL B (pa : Int) ((B.length : Nat) : Int)) == toStr data) = some true
   rw [hcut2]; simp
end Dm
