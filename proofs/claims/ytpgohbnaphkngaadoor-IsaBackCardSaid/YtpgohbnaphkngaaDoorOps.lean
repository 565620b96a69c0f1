/-
  More rules over things: append of texts and of zeros, texts joined, cut, read, slices of slices as elements. No condition; nothing of a program is named here.
-/
import Derived.Test.YtpgohbnaphkngaaDoorRul
import Derived.Lib.AppendStr
import Derived.Lib.AppendZerosOnto
namespace Dm
open Go Go.RowKit

theorem Sep.cast {w0 w : World} {F0 F : SH} {R : Nat → Prop} {Ts Ts' : List Th} (h : Sep w0 F0 R w F Ts) (e : Ts = Ts') : Sep w0 F0 R w F Ts' := e ▸ h
theorem allOne_map {α : Type} {enc : α → Value} (h : ∀ x, (enc x).oneCell' = true) : ∀ xs : List α, allOne (List.map enc xs) = true
  | [] => rfl
  | x :: xs => by simp only [List.map_cons, allOne, h x]; exact allOne_map h xs
/-- an element that is itself a slice -/
def tSl {α : Type} (t : Ty α) : Ty (List α) where
  size := 1
  rep := fun F x c => ∃ (ao : Option Addr) (cp : Nat), c = [.slice ao x.length cp] ∧ RO F t (.slice ao x.length cp) x
  mono := by
    rintro F F' x c hl ⟨ao, cp, rfl, h⟩
    exact ⟨ao, cp, rfl, h.mono hl⟩
  len := by
    rintro F x c ⟨ao, cp, rfl, _⟩
    rfl
  one := by
    rintro F x c ⟨ao, cp, rfl, _⟩
    exact allOne_ok rfl

section ops
variable {P : Program} {tb : Tb} {ops : Array Oper} {Q : Exit → Act → World → Prop} {N : Nat} {L : List (Nat × Value)} {a : Act} {w : World} {rest : List Oper} {o : Oper} {d : Nat}

/-! append, by its three ways -/
theorem ap_core {e s : Nat} (_ : 0 < s) {zc : Array Value} (hzs : zc.size = s) {α : Type} {t : Ty α} (ht : t.size = s) {F : SH} {v : Value} {xs ys : List α} {news : List Value} (hF : LeH F (hp w)) (hown : Own w 0 F e t v xs) (hrep : Reps t F ys news) (hmax : xs.length + ys.length ≤ maxLen)
    {run : Value → Result Value} (H0 : ys.length = 0 → run (.slice none 0 0) = .ok (.slice none 0 0) w)
    (H1 : 0 < ys.length → run (.slice none 0 0) = .ok (.slice (some ⟨w.heap.size, 0, none⟩) ys.length (grownCap w ys.length 0 e)) (w.drew.alloc (.cells (news.toArray ++ Builtin.zeroCells zc (grownCap w ys.length 0 e - ys.length)) e)))
    (H2 : ∀ g cap cur, w.heap[g]? = some (.cells cur e (0, 0)) → xs.length + ys.length ≤ cap → xs.length * s + news.length ≤ cur.size →
      run (.slice (some ⟨g, 0, none⟩) xs.length cap) = .ok (.slice (some ⟨g, 0, none⟩) (xs.length + ys.length) cap) (w.setRow g (cur.toList.take (xs.length * s) ++ news ++ cur.toList.drop (xs.length * s + news.length)).toArray))
    (H3 : ∀ (g cap : Nat) (olds : List Value), olds.length = xs.length * s → (∀ j u, olds[j]? = some u → w.cell? ((⟨g, 0, none⟩ : Addr).add j) = some u) → xs.length ≤ cap → cap < xs.length + ys.length →
      run (.slice (some ⟨g, 0, none⟩) xs.length cap) = .ok (.slice (some ⟨w.heap.size, 0, none⟩) (xs.length + ys.length) (grownCap w (xs.length + ys.length) cap e))
        (w.drew.alloc (.cells (olds.toArray ++ news.toArray ++ Builtin.zeroCells zc (grownCap w (xs.length + ys.length) cap e - (xs.length + ys.length))) e))) :
    ∃ v' w', run v = .ok v' w' ∧ Own w' 0 F e t v' (xs ++ ys) ∧ w.grownBy w' v.ownBlock ∧ (∀ k, v'.ownBlock = some k → v.ownBlock = some k ∨ w.heap.size ≤ k) := by
  obtain ⟨cs, hor, hr, hn⟩ := hown
  have hnl := hrep.length
  rw [ht] at hnl
  obtain ⟨hl, hor'⟩ := hor
  rw [ht] at hl
  have hlen : (cs ++ news).length = (xs ++ ys).length * s := by rw [List.length_append, hl, hnl, List.length_append, Nat.add_mul]
  have grown : ∀ (cap : Nat) (row : Option Nat),
      Own (w.drew.alloc (.cells (cs.toArray ++ news.toArray ++ Builtin.zeroCells zc (grownCap w (xs.length + ys.length) cap e - (xs.length + ys.length))) e)) 0 F e t
        (.slice (some ⟨w.heap.size, 0, none⟩) (xs.length + ys.length) (grownCap w (xs.length + ys.length) cap e)) (xs ++ ys) ∧
      w.grownBy (w.drew.alloc (.cells (cs.toArray ++ news.toArray ++ Builtin.zeroCells zc (grownCap w (xs.length + ys.length) cap e - (xs.length + ys.length))) e)) row := by
    intro cap row
    have hge := grownCap_ge w (xs.length + ys.length) cap e
    have hcm := grownCap_le_maxLen w (xs.length + ys.length) cap e hmax
    refine ⟨⟨cs ++ news, ⟨by rw [ht]; exact hlen, .inr ⟨w.heap.size, _, _, by rw [List.length_append], Nat.zero_le _, heap_alloc_new w.drew _, by rw [List.length_append]; exact hge, hcm, ?_, ?_⟩⟩, hr.append hrep, fun k hk => ?_⟩, ⟨rfl, rfl, rfl, by simp, fun k hk _ => Go.heap_alloc_old w.drew _ hk⟩⟩
    · rw [ht]
      simp only [Array.size_append, List.size_toArray, size_zeroCells, hzs, hl, hnl, ← Nat.add_mul]
      congr 1
      omega
    · simp only [Array.toList_append]
      rw [ht, ← hlen]
      exact List.take_left
    · simp only [Value.ownBlock, Option.some.injEq] at hk
      rw [← hk]; exact LeH_none hF (Nat.le_refl _)
  rcases hor' with ⟨rfl, h0⟩ | ⟨g, cap, cur, rfl, hbg, hg, hnc, hcm, hcs, htake⟩
  · have hx : xs = [] := List.eq_nil_of_length_eq_zero h0
    subst hx
    have hcs : cs = [] := hr
    subst hcs
    rcases Nat.eq_zero_or_pos ys.length with hy | hy
    · have : ys = [] := List.eq_nil_of_length_eq_zero hy
      subst this
      exact ⟨_, _, H0 rfl, ⟨[], World.ownsRow_nil _ _ _ _, rfl, hn⟩, ⟨rfl, rfl, rfl, Nat.le_refl _, fun _ _ _ => rfl⟩, fun k hk => .inl hk⟩
    · have h := grown 0 (Value.ownBlock (.slice none 0 0))
      simp only [List.length_nil, Nat.zero_add, List.nil_append, Array.empty_append] at h ⊢
      exact ⟨_, _, H1 hy, h.1, h.2, fun k hk => .inr (by simp only [Value.ownBlock, Option.some.injEq] at hk; omega)⟩
  · rw [ht] at hcs htake
    by_cases hroom : xs.length + ys.length ≤ cap
    · have hfit : xs.length * s + news.length ≤ cur.size := by rw [hnl, hcs, ← Nat.add_mul]; exact Nat.mul_le_mul_right _ hroom
      refine ⟨_, _, H2 g cap cur hg hroom hfit, ⟨cs ++ news, ⟨by rw [ht]; exact hlen, .inr ⟨g, cap, _, by rw [List.length_append], hbg, setRow_heap w g cur _ e _ hg, by rw [List.length_append]; exact hroom, hcm, ?_, ?_⟩⟩, hr.append hrep, fun k hk => hn k hk⟩,
        ⟨rfl, rfl, rfl, by simp, fun k _ hk => setRow_other w g k _ (fun e => hk (by simp [Value.ownBlock, e]))⟩, fun k hk => .inl hk⟩
      · simp only [List.size_toArray, List.length_append, List.length_take, List.length_drop, Array.length_toList, ht]
        rw [← hcs]; omega
      · rw [ht, htake, ← hlen]
        exact List.take_left
    · have holds : ∀ j u, cs[j]? = some u → w.cell? ((⟨g, 0, none⟩ : Addr).add j) = some u := by
        have : w.ownsRow 0 e s (.slice (some ⟨g, 0, none⟩) xs.length cap) xs.length cs := ⟨hl, .inr ⟨g, cap, cur, rfl, hbg, hg, hnc, hcm, hcs, htake⟩⟩
        exact this.cells (g := g) rfl
      have h := grown cap (Value.ownBlock (.slice (some ⟨g, 0, none⟩) xs.length cap))
      exact ⟨_, _, H3 g cap cs hl holds hnc (by omega), h.1, h.2, fun k hk => .inr (by simp only [Value.ownBlock, Option.some.injEq] at hk; omega)⟩
theorem apX {T U e : Nat} {α : Type} {t : Ty α} {F : SH} {v u : Value} {xs ys : List α} (hr : ∀ ty, ∃ v' w', (Builtin.append_ #[T, U] ty #[v, u]).run P w = .ok v' w' ∧ Own w' 0 F e t v' (xs ++ ys) ∧ w.grownBy w' v.ownBlock ∧ (∀ k, v'.ownBlock = some k → v.ownBlock = some k ∨ w.heap.size ≤ k))
    {x y : Operand} {g : Option (Nat × Bool)} {pos : String} {after : Array Edge} {ty : TypeId} (hf : Fr N L a) (hd : Nat.blt d N = true) (hg : grd ops L g = some true) (hx : evO L x = some v) (hy : evO L y = some u)
    (K : ∀ ao' cap' w' a', Own w' 0 F e t (.slice ao' (xs ++ ys).length cap') (xs ++ ys) → w.grownBy w' v.ownBlock → (∀ k, (Value.slice ao' (xs ++ ys).length cap').ownBlock = some k → v.ownBlock = some k ∨ w.heap.size ≤ k) → Fr N ((d, .slice ao' (xs ++ ys).length cap') :: er d L) a' → wpList P ops Q rest a' w') :
    wpList P ops Q ({ dst := some d, op := .call { callee := .builtin .append, args := #[x, y], argTypes := #[T, U] }, type := ty, pos := pos, after := after, guard := g } :: rest) a w := by
  obtain ⟨v', w', hrun, hown', hgr, hloc⟩ := hr ty
  obtain ⟨ao', cap', e1⟩ := hown'.shape
  subst e1
  refine stp hf (v := .slice ao' (xs ++ ys).length cap') (w' := w') hg ?_ (K ao' cap' w' _ hown' hgr hloc (hf.put hd _))
  refine exec_builtin (A := [x, y]) (vs := [v, u]) hf (by simp only [evL, hx, hy]) fun consts => ?_
  simp only [builtin, Sem.run_bind, hrun, Result.andThen, Sem.run_pure]
theorem strCells_of (l : List UInt8) : Lib.strCells ⟨l.toArray⟩ = (ofStr l).map (Value.int .u8) := by
  simp [Lib.strCells, ofStr]
theorem reps_ints {k : IntKind} {F : SH} : ∀ (xs : List Int), Reps (tI k) F xs (xs.map (Value.int k))
  | [] => rfl
  | x :: xs => ⟨[.int k x], xs.map (Value.int k), rfl, rfl, reps_ints xs⟩
/-- append(v, s...), s a text -/
theorem apS (htb : TbOk P tb) {T U e : Nat} (hu : asc tb.und T = some (.slice e)) (hs : asc tb.und U = some .string) (hti : asc tb.info e = some (.int .u8 0, 1, 1)) {F : SH} {v : Value} {xs : List Int} {y : List UInt8} (hF : LeH F (hp w)) (hown : Own w 0 F e (tI .u8) v xs) (hbd : xs.length + y.length ≤ 140737488355328)
    {x yo : Operand} {g : Option (Nat × Bool)} {pos : String} {after : Array Edge} {ty : TypeId} (hf : Fr N L a) (hd : Nat.blt d N = true) (hg : grd ops L g = some true) (hx : evO L x = some v) (hy : evO L yo = some (strV y))
    (K : ∀ ao' cap' w' a', Own w' 0 F e (tI .u8) (.slice ao' (xs ++ ofStr y).length cap') (xs ++ ofStr y) → w.grownBy w' v.ownBlock → (∀ k, (Value.slice ao' (xs ++ ofStr y).length cap').ownBlock = some k → v.ownBlock = some k ∨ w.heap.size ≤ k) → Fr N ((d, .slice ao' (xs ++ ofStr y).length cap') :: er d L) a' → wpList P ops Q rest a' w') :
    wpList P ops Q ({ dst := some d, op := .call { callee := .builtin .append, args := #[x, yo], argTypes := #[T, U] }, type := ty, pos := pos, after := after, guard := g } :: rest) a w := by
  obtain ⟨inf, hinf, hzero, hsz, hby⟩ := htb.i hti
  have hn : (⟨y.toArray⟩ : ByteArray).size = y.length := rfl
  have hn2 : (ofStr y).length = y.length := by simp [ofStr]
  refine apX (fun ty => ?_) hf hd hg hx hy K
  refine ap_core (run := fun v => (Builtin.append_ #[T, U] ty #[v, strV y]).run P w) (s := 1) (zc := (Value.int .u8 0).cells) (by omega) rfl rfl hF hown (reps_ints (ofStr y)) (by have := hn2; simp only [maxLen]; omega) (fun h0 => ?_) (fun h0 => ?_) (fun g cap cur hgg hroom hfit => ?_) (fun g cap olds hl holds hnc hc => ?_)
  · have hy0 : y = [] := List.eq_nil_of_length_eq_zero (by rw [← hn2]; exact h0)
    subst hy0
    rw [show strV [] = .string ByteArray.empty from rfl]
    simp [Builtin.append_, run_underlying (htb.u hu), run_underlying (htb.u hs), Go.sizeOf, typeInfo, hinf, Builtin.lenOf, Builtin.firstCells]
  · rw [hn2] at h0 ⊢
    have hr := run_append_nil_string (P := P) w T U ty e inf (.int .u8 0) (htb.u hu) (htb.u hs) hinf hzero ⟨y.toArray⟩ (by rw [hn]; exact h0) (by rw [hn]; omega) (by rw [hby, hn]; omega)
    rw [hn] at hr
    have e1 : ((⟨y.toArray⟩ : ByteArray).data.map fun b => Value.int .u8 b.toNat) = ((ofStr y).map (Value.int .u8)).toArray := by
      apply Array.ext'
      simp [ofStr]
    rw [e1] at hr
    exact hr
  · rw [hn2] at hroom ⊢
    have hlm : ((ofStr y).map (Value.int .u8)).length = y.length := by rw [List.length_map, hn2]
    have hr := Lib.run_append_room_string (P := P) w T U ty e inf (htb.u hu) (htb.u hs) hinf hsz g xs.length cap cur hgg ⟨y.toArray⟩ (by rw [hn]; exact hroom) (by rw [hn]; rw [hlm] at hfit; omega)
    rw [hn, strCells_of] at hr
    rw [hlm, Nat.mul_one]
    exact hr
  · rw [hn2] at hc ⊢
    have hr := Lib.run_append_grow_string (P := P) w T U ty e inf (.int .u8 0) (htb.u hu) (htb.u hs) hinf hzero ⟨g, 0, none⟩ xs.length cap olds (by rw [hl, hsz]) holds ⟨y.toArray⟩ (by rw [hn]; exact hc) (by rw [hn]; omega) (by rw [hby, hn]; exact growslice_fits (by omega) (by omega))
    rw [hn, strCells_of] at hr
    exact hr
theorem zeroCells_made (zc : Array Value) (n : Nat) : Builtin.zeroCells zc n = madeCells zc (n * zc.size) := rfl
/-- append(v, make([]T, n)...) -/
theorem apZ (htb : TbOk P tb) {T U e s b : Nat} {k : IntKind} {zv : Value} (hu : asc tb.und T = some (.slice e)) (hq : asc tb.und U = some (.int k)) (hti : asc tb.info e = some (zv, s, b)) (hs : Nat.blt 0 s = true) (hzs : zv.cells.size = s) (hb1 : Nat.blt 0 b = true) {α : Type} {t : Ty α} (ht : t.size = s) {F : SH} {v : Value} {xs : List α} (hF : LeH F (hp w)) (hown : Own w 0 F e t v xs) {n : Int} (z : α) (hz : t.rep F z zv.cells.toList) (hone : (zv.cells.toList.all Value.oneCell') = true) {kq : IntKind} (hbd : (0 : Int) ≤ n ∧ (xs.length + n.toNat) * b ≤ 140737488355328)
    {x yo : Operand} {g : Option (Nat × Bool)} {pos : String} {after : Array Edge} {ty : TypeId} (hf : Fr N L a) (hd : Nat.blt d N = true) (hg : grd ops L g = some true) (hx : evO L x = some v) (hy : evO L yo = some (.int kq n))
    (K : ∀ ao' cap' w' a', Own w' 0 F e t (.slice ao' (xs ++ List.replicate n.toNat z).length cap') (xs ++ List.replicate n.toNat z) → w.grownBy w' v.ownBlock → (∀ k, (Value.slice ao' (xs ++ List.replicate n.toNat z).length cap').ownBlock = some k → v.ownBlock = some k ∨ w.heap.size ≤ k) → Fr N ((d, .slice ao' (xs ++ List.replicate n.toNat z).length cap') :: er d L) a' → wpList P ops Q rest a' w') :
    wpList P ops Q ({ dst := some d, op := .call { callee := .builtin .append, args := #[x, yo], argTypes := #[T, U] }, type := ty, pos := pos, after := after, guard := g } :: rest) a w := by
  obtain ⟨inf, hinf, hzero, hsz, hby⟩ := htb.i hti
  obtain ⟨m, rfl⟩ := Int.eq_ofNat_of_zero_le hbd.1
  have hs' : 0 < s := Nat.le_of_ble_eq_true hs
  have hb' : 0 < b := Nat.le_of_ble_eq_true hb1
  have hbd2 := hbd.2
  simp only [Int.toNat_natCast] at hbd2 K ⊢
  have hlr : (List.replicate m z).length = m := List.length_replicate
  have hxm : xs.length + m ≤ (xs.length + m) * b := Nat.le_mul_of_pos_right _ hb'
  have hmb : m * b ≤ (xs.length + m) * b := Nat.mul_le_mul_right _ (by omega)
  have hzc : (Builtin.zeroCells zv.cells m) = ((List.replicate m zv.cells.toList).flatten).toArray := by
    rw [zeroCells_made]
    apply Array.ext'
    rw [made_any (by omega), List.toList_toArray]
  have hfl : ((List.replicate m zv.cells.toList).flatten).length = m * s := by
    have := (reps_rep hz m).length
    rw [this, hlr, ht]
  refine apX (fun ty => ?_) hf hd hg hx hy K
  refine ap_core (run := fun v => (Builtin.append_ #[T, U] ty #[v, .int kq m]).run P w) hs' hzs ht hF hown (reps_rep hz m) (by rw [hlr]; unfold maxLen; omega) (fun h0 => ?_) (fun h0 => ?_) (fun g cap cur hgg hroom hfit => ?_) (fun g cap olds hl holds hnc hc => ?_)
  · rw [hlr] at h0; subst h0
    have hw : IntKind.i64.wrap 0 = 0 := by decide
    simp [Builtin.append_, run_underlying (htb.u hu), run_underlying (htb.u hq), Go.sizeOf, typeInfo, hinf, asInt, asIntOf, hw]
  · rw [hlr] at h0 ⊢
    have hr := Lib.run_append_nil_zeros (P := P) w T U ty e inf zv kq k (htb.u hu) (htb.u hq) hinf hzero m h0 (by rw [hsz]; exact hs') (by omega) (by rw [hby]; omega)
    rw [hzc] at hr
    exact hr
  · rw [hlr] at hroom ⊢
    rw [hfl] at hfit ⊢
    have hw : IntKind.i64.wrap (m : Int) = m := by rw [IntKind.wrap_i64]; omega
    have hneg : ¬ ((m : Int) < 0) := by omega
    have h48i : ¬ (281474976710656 < (m : Int) * (inf.bytes : Int)) := by rw [hby, ← Int.natCast_mul]; omega
    have hst := run_storeCells_at P g (xs.length * s) e ((List.replicate m zv.cells.toList).flatten) 0 cur w hgg (by rw [hfl]; simpa using hfit) (fun u hu => by
      obtain ⟨l, hl, hu⟩ := List.mem_flatten.1 hu
      rw [(List.mem_replicate.1 hl).2] at hu
      exact List.all_eq_true.1 hone u hu)
    simp only [Nat.add_zero, hfl] at hst
    by_cases hm0 : m = 0
    · subst hm0
      have hw0 : IntKind.i64.wrap 0 = 0 := by decide
      simp only [List.replicate_zero, List.flatten_nil, Nat.zero_mul, Nat.add_zero, List.append_nil] at hst ⊢
      rw [Nat.add_zero] at hroom
      simp [Builtin.append_, run_underlying (htb.u hu), run_underlying (htb.u hq), Go.sizeOf, typeInfo, hinf, hsz, asInt, asIntOf, hw0, hroom, Addr.add_lit, hst]
    · have hns : ¬ (m * s = 0) := Nat.mul_ne_zero hm0 (by omega)
      simp [Builtin.append_, run_underlying (htb.u hu), run_underlying (htb.u hq), Go.sizeOf, typeInfo, zeroValue, hinf, hzero, hsz, asInt, asIntOf, hw, hneg, h48i, hroom, hns, hzc, Addr.add_lit, hst]
  · rw [hlr] at hc ⊢
    by_cases hm0 : m = 0
    · exfalso; omega
    · have hr := Lib.run_append_grow_zeros (P := P) w T U ty e inf zv kq k (htb.u hu) (htb.u hq) hinf hzero (some ⟨g, 0, none⟩) xs.length cap olds
        (run_firstCells_some (P := P) w.drew inf.size xs.length ⟨g, 0, none⟩ xs.length cap olds (by rw [hl, hsz]) (by simpa using holds)) m (by omega) (by rw [hsz]; exact hs') hc (by omega) (by rw [hby]; omega) (by rw [hby]; exact growslice_fits (by omega) hbd2)
      rw [hzc] at hr
      exact hr

/-! texts -/
theorem run_addS {p q : List UInt8} (h : p.length + q.length ≤ 9223372036854775807) (t : TypeId) (w : World) : (binOp .add t (strV p) (strV q)).run P w = .ok (strV (p ++ q)) w := by
  simp only [strV, binOp, Op.stringOp]
  have e1 : (⟨p.toArray⟩ : ByteArray).size = p.length := rfl
  have e2 : (⟨q.toArray⟩ : ByteArray).size = q.length := rfl
  have e3 : IntKind.i64.max = 9223372036854775807 := by decide
  rw [if_neg (by rw [e1, e2, e3]; omega)]
  have : (⟨p.toArray⟩ ++ ⟨q.toArray⟩ : ByteArray) = ⟨(p ++ q).toArray⟩ := by
    apply ByteArray.ext
    simp
  rw [this]; rfl
theorem addS {p q : List UInt8} {t t' : TypeId} (h : p.length + q.length ≤ 9223372036854775807) {x y : Operand} {g : Option (Nat × Bool)} {pos : String} {after : Array Edge} {ty : TypeId} (hf : Fr N L a) (hd : Nat.blt d N = true) (hg : grd ops L g = some true)
    (hx : evO L x = some (strV p)) (hy : evO L y = some (strV q)) (K : ∀ a', Fr N ((d, strV (p ++ q)) :: er d L) a' → wpList P ops Q rest a' w) :
    wpList P ops Q ({ dst := some d, op := .binOp .add t x y t', type := ty, pos := pos, after := after, guard := g } :: rest) a w := by
  refine stp hf (v := strV (p ++ q)) hg ?_ (K _ (hf.put hd _))
  simp only [execOp, evO_ok hf hx, evO_ok hf hy, Sem.run_bind]
  rw [show eqGuard .add t x y (strV p) (strV q) = pure () from rfl]
  simp only [Sem.run_pure, Result.andThen, run_addS h]
theorem addSQ {C : World → Prop} {R : Act → Prop} {p q : List UInt8} {t t' : TypeId} (h : p.length + q.length ≤ 9223372036854775807) {x y : Operand} {g : Option (Nat × Bool)} {pos : String} {after : Array Edge} {ty : TypeId} (hf : Fr N L a) (hd : Nat.blt d N = true) (hg : grd ops L g = some true)
    (hx : evO L x = some (strV p)) (hy : evO L y = some (strV q)) (K : ∀ a', Fr N ((d, strV (p ++ q)) :: er d L) a' → wpQuiet P ops C R rest a') :
    wpQuiet P ops C R ({ dst := some d, op := .binOp .add t x y t', type := ty, pos := pos, after := after, guard := g } :: rest) a := by
  refine stpQ hf (v := strV (p ++ q)) hg (fun w _ => ?_) (K _ (hf.put hd _))
  simp only [execOp, evO_ok hf hx, evO_ok hf hy, Sem.run_bind]
  rw [show eqGuard .add t x y (strV p) (strV q) = pure () from rfl]
  simp only [Sem.run_pure, Result.andThen, run_addS h]
/-- s[n] -/
theorem run_ixS (htb : TbOk P tb) {T : Nat} (hu : asc tb.und T = some .string) {p : List UInt8} {k : IntKind} {n : Int} (hn : 0 ≤ n ∧ n < p.length) (w : World) : (Instr.index T (strV p) (.int k n)).run P w = .ok (.int .u8 ((p.getD n.toNat 0).toNat : Int)) w := by
  obtain ⟨m, rfl⟩ := Int.eq_ofNat_of_zero_le hn.1
  have hm : m < p.length := by omega
  have hsz : (⟨p.toArray⟩ : ByteArray).size = p.length := rfl
  have h2 := run_index_string (P := P) w T ⟨p.toArray⟩ k (m : Int) (htb.u hu)
  have hix : (Instr.index T (strV p) (.int k m)) = Instr.index T (.string ⟨p.toArray⟩) (.int k m) := rfl
  rw [hix, h2, dif_pos ⟨by omega, by rw [hsz]; omega⟩]
  have e : (⟨p.toArray⟩ : ByteArray)[(m : Int).toNat]'(by rw [hsz]; omega) = p.getD (m : Int).toNat 0 := by
    show p.toArray[(m : Int).toNat]'_ = _
    simp [hm]
  rw [e]
theorem ixS (htb : TbOk P tb) {T : Nat} (hu : asc tb.und T = some .string) {p : List UInt8} {k : IntKind} {n : Int} (hn : 0 ≤ n ∧ n < p.length) {x y : Operand} {g : Option (Nat × Bool)} {pos : String} {after : Array Edge} {ty : TypeId} (hf : Fr N L a) (hd : Nat.blt d N = true) (hg : grd ops L g = some true)
    (hx : evO L x = some (strV p)) (hy : evO L y = some (.int k n)) (K : ∀ a', Fr N ((d, .int .u8 ((p.getD n.toNat 0).toNat : Int)) :: er d L) a' → wpList P ops Q rest a' w) :
    wpList P ops Q ({ dst := some d, op := .index T x y, type := ty, pos := pos, after := after, guard := g } :: rest) a w := by
  refine stp hf (v := .int .u8 ((p.getD n.toNat 0).toNat : Int)) hg ?_ (K _ (hf.put hd _))
  simp only [execOp, evO_ok hf hx, evO_ok hf hy, Sem.run_bind, run_ixS htb hu hn, Result.andThen, Sem.run_pure]
theorem ixSQ (htb : TbOk P tb) {C : World → Prop} {R : Act → Prop} {T : Nat} (hu : asc tb.und T = some .string) {p : List UInt8} {k : IntKind} {n : Int} (hn : 0 ≤ n ∧ n < p.length) {x y : Operand} {g : Option (Nat × Bool)} {pos : String} {after : Array Edge} {ty : TypeId} (hf : Fr N L a) (hd : Nat.blt d N = true) (hg : grd ops L g = some true)
    (hx : evO L x = some (strV p)) (hy : evO L y = some (.int k n)) (K : ∀ a', Fr N ((d, .int .u8 ((p.getD n.toNat 0).toNat : Int)) :: er d L) a' → wpQuiet P ops C R rest a') :
    wpQuiet P ops C R ({ dst := some d, op := .index T x y, type := ty, pos := pos, after := after, guard := g } :: rest) a := by
  refine stpQ hf (v := .int .u8 ((p.getD n.toNat 0).toNat : Int)) hg (fun w _ => ?_) (K _ (hf.put hd _))
  simp only [execOp, evO_ok hf hx, evO_ok hf hy, Sem.run_bind, run_ixS htb hu hn, Result.andThen, Sem.run_pure]
/-- s[lo:hi] -/
theorem run_cutS (htb : TbOk P tb) {T : Nat} (hu : asc tb.und T = some .string) {p : List UInt8} {lo hi : Int} (hb : 0 ≤ lo ∧ lo ≤ hi ∧ hi ≤ p.length) {lv hv : Option Value}
    (h1 : lv = none ∧ lo = 0 ∨ ∃ k, lv = some (.int k lo)) (h2 : hv = none ∧ hi = p.length ∨ ∃ k, hv = some (.int k hi)) (w : World) : (Instr.sliceAt T (strV p) lv hv none).run P w = .ok (strV (cutL p lo hi)) w := by
  obtain ⟨b0, b1, b2⟩ := hb
  have hsz : (⟨p.toArray⟩ : ByteArray).size = p.length := rfl
  have hrun : (Instr.sliceBounds false p.length p.length lv hv none).run P w = .ok (lo.toNat, hi.toNat, p.length) w := by
    unfold Instr.sliceBounds
    rcases h2 with ⟨rfl, rfl⟩ | ⟨kh, rfl⟩
    · rcases h1 with ⟨rfl, rfl⟩ | ⟨kl, rfl⟩
      · simp [Sem.run_pure]
      · simp [Result.andThen, run_sliceBound b0 b1]
    · have hh := run_sliceBound (P := P) (k := kh) (i := hi) (y := p.length) (c := .sliceAlen) (by omega) (by omega)
      rcases h1 with ⟨rfl, rfl⟩ | ⟨kl, rfl⟩
      · simp [Result.andThen, hh]
      · have hl := run_sliceBound (P := P) (k := kl) (i := lo) (y := hi.toNat) (c := .sliceB) b0 (by omega)
        simp [Sem.run_bind, Result.andThen, hh, hl]
  have e : (⟨p.toArray⟩ : ByteArray).extract lo.toNat hi.toNat = ⟨(cutL p lo hi).toArray⟩ := by
    apply ByteArray.ext
    apply Array.ext'
    rw [ByteArray.data_extract]
    simp [cutL, List.drop_take]
  unfold Instr.sliceAt Instr.slice
  simp only [strV, Sem.run_bind, asc_und htb hu, Result.andThen, Option.isSome_none, Bool.false_eq_true, if_false, hsz, hrun, e, Sem.run_pure]
theorem conv_isB {a : Act} (hf : Fr N L a) {q : Option Operand} {n : Int} (h : isB L n q) : ∃ k, q.map a.eval = some (.int k n) := by
  obtain ⟨y, k, rfl, hk⟩ := h
  exact ⟨k, by rw [Option.map_some, evO_ok hf hk]⟩
theorem cutS (htb : TbOk P tb) {T : Nat} (hu : asc tb.und T = some .string) {p : List UInt8} {lo hi : Int} (hb : 0 ≤ lo ∧ lo ≤ hi ∧ hi ≤ p.length) {x : Operand} {lv hv : Option Operand}
    (h1 : lv = none ∧ lo = 0 ∨ isB L lo lv) (h2 : hv = none ∧ hi = p.length ∨ isB L hi hv) {g : Option (Nat × Bool)} {pos : String} {after : Array Edge} {ty : TypeId} (hf : Fr N L a) (hd : Nat.blt d N = true) (hg : grd ops L g = some true)
    (hx : evO L x = some (strV p)) (K : ∀ a', Fr N ((d, strV (cutL p lo hi)) :: er d L) a' → wpList P ops Q rest a' w) :
    wpList P ops Q ({ dst := some d, op := .slice T x lv hv none, type := ty, pos := pos, after := after, guard := g } :: rest) a w := by
  refine stp hf (v := strV (cutL p lo hi)) hg ?_ (K _ (hf.put hd _))
  have hr := run_cutS (P := P) htb hu hb (lv := lv.map a.eval) (hv := hv.map a.eval) (h1.elim (fun q => .inl ⟨by rw [q.1]; rfl, q.2⟩) (fun q => .inr (conv_isB hf q))) (h2.elim (fun q => .inl ⟨by rw [q.1]; rfl, q.2⟩) (fun q => .inr (conv_isB hf q))) w
  simp only [execOp, evO_ok hf hx, Option.map_none, Sem.run_bind, hr, Result.andThen, Sem.run_pure]
theorem cutSQ (htb : TbOk P tb) {C : World → Prop} {R : Act → Prop} {T : Nat} (hu : asc tb.und T = some .string) {p : List UInt8} {lo hi : Int} (hb : 0 ≤ lo ∧ lo ≤ hi ∧ hi ≤ p.length) {x : Operand} {lv hv : Option Operand}
    (h1 : lv = none ∧ lo = 0 ∨ isB L lo lv) (h2 : hv = none ∧ hi = p.length ∨ isB L hi hv) {g : Option (Nat × Bool)} {pos : String} {after : Array Edge} {ty : TypeId} (hf : Fr N L a) (hd : Nat.blt d N = true) (hg : grd ops L g = some true)
    (hx : evO L x = some (strV p)) (K : ∀ a', Fr N ((d, strV (cutL p lo hi)) :: er d L) a' → wpQuiet P ops C R rest a') :
    wpQuiet P ops C R ({ dst := some d, op := .slice T x lv hv none, type := ty, pos := pos, after := after, guard := g } :: rest) a := by
  refine stpQ hf (v := strV (cutL p lo hi)) hg (fun w _ => ?_) (K _ (hf.put hd _))
  have hr := run_cutS (P := P) htb hu hb (lv := lv.map a.eval) (hv := hv.map a.eval) (h1.elim (fun q => .inl ⟨by rw [q.1]; rfl, q.2⟩) (fun q => .inr (conv_isB hf q))) (h2.elim (fun q => .inl ⟨by rw [q.1]; rfl, q.2⟩) (fun q => .inr (conv_isB hf q))) w
  simp only [execOp, evO_ok hf hx, Option.map_none, Sem.run_bind, hr, Result.andThen, Sem.run_pure]
/-- a pointer that is none but an address -/
theorem nck {p : Addr} {x : Operand} {g : Option (Nat × Bool)} {pos : String} {after : Array Edge} {ty : TypeId} (hf : Fr N L a) (hd : Nat.blt d N = true) (hg : grd ops L g = some true)
    (hx : evO L x = some (.pointer (some p))) (K : ∀ a', Fr N ((d, .pointer (some p)) :: er d L) a' → wpList P ops Q rest a' w) :
    wpList P ops Q ({ dst := some d, op := .nilCheck x, type := ty, pos := pos, after := after, guard := g } :: rest) a w := by
  refine stp hf (v := .pointer (some p)) hg ?_ (K _ (hf.put hd _))
  simp only [execOp, evO_ok hf hx, Sem.run_pure]
theorem nckN {p : Addr} {x : Operand} {g : Option (Nat × Bool)} {pos : String} {after : Array Edge} {ty : TypeId} (hf : Fr N L a) (hg : grd ops L g = some true)
    (hx : evO L x = some (.pointer (some p))) (K : ∀ a', Fr N L a' → wpList P ops Q rest a' w) :
    wpList P ops Q ({ dst := none, op := .nilCheck x, type := ty, pos := pos, after := after, guard := g } :: rest) a w := by
  refine stp hf (v := .pointer (some p)) hg ?_ (K _ (hf.put_none _))
  simp only [execOp, evO_ok hf hx, Sem.run_pure]
theorem nckQ {C : World → Prop} {R : Act → Prop} {p : Addr} {x : Operand} {g : Option (Nat × Bool)} {pos : String} {after : Array Edge} {ty : TypeId} (hf : Fr N L a) (hd : Nat.blt d N = true) (hg : grd ops L g = some true)
    (hx : evO L x = some (.pointer (some p))) (K : ∀ a', Fr N ((d, .pointer (some p)) :: er d L) a' → wpQuiet P ops C R rest a') :
    wpQuiet P ops C R ({ dst := some d, op := .nilCheck x, type := ty, pos := pos, after := after, guard := g } :: rest) a := by
  refine stpQ hf (v := .pointer (some p)) hg (fun w _ => ?_) (K _ (hf.put hd _))
  simp only [execOp, evO_ok hf hx, Sem.run_pure]
theorem nckNQ {C : World → Prop} {R : Act → Prop} {p : Addr} {x : Operand} {g : Option (Nat × Bool)} {pos : String} {after : Array Edge} {ty : TypeId} (hf : Fr N L a) (hg : grd ops L g = some true)
    (hx : evO L x = some (.pointer (some p))) (K : ∀ a', Fr N L a' → wpQuiet P ops C R rest a') :
    wpQuiet P ops C R ({ dst := none, op := .nilCheck x, type := ty, pos := pos, after := after, guard := g } :: rest) a := by
  refine stpQ hf (v := .pointer (some p)) hg (fun w _ => ?_) (K _ (hf.put_none _))
  simp only [execOp, evO_ok hf hx, Sem.run_pure]
end ops
end Dm
