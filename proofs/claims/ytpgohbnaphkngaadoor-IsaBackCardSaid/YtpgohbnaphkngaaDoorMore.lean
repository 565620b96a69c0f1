/-
  Still more rules over things: bytes of texts, arrays in variables, slices of arrays, maps. No condition; nothing of a program is named here.
-/
import Derived.Test.YtpgohbnaphkngaaDoorOps
import Derived.MapKept
namespace Dm
open Go Go.RowKit

theorem Sep.mpO {w0 w : World} {F0 F : SH} {R : Nat → Prop} {Ts : List Th} (hs : Sep w0 F0 R w F Ts) (i : Nat) {κ β : Type} {ek : κ → Value} {ev : β → Value} {r : Nat} {kvs : List (κ × β)} (h : Ts[i]? = some (.mp ek ev r kvs)) :
    ∃ es clock, w.heap[r]? = some (.map es clock) ∧ es.toList.map (fun e => (e.key, e.val)) = kvs.map fun p => (ek p.1, ev p.2) := hs.ok i _ h
theorem Sep.newMp {w0 w w' : World} {F0 F : SH} {R : Nat → Prop} {Ts : List Th} (hs : Sep w0 F0 R w F Ts) {κ β : Type} (ek : κ → Value) (ev : β → Value) (hw : w' = w.alloc (.map #[] 0)) (hx : Ext w w') : Sep w0 F0 R w' F (.mp ek ev w.heap.size ([] : List (κ × β)) :: Ts) := by
  subst hw
  refine hs.addNew hx ⟨#[], 0, ?_, rfl⟩ fun k hk => ?_
  · show (w.alloc (.map #[] 0)).heap[w.heap.size]? = _
    exact heap_alloc_new w _
  · simp only [Th.blk, Option.some.injEq] at hk
    subst hk; simp
theorem Sep.updMp {w0 w w' : World} {F0 F : SH} {R : Nat → Prop} {Ts : List Th} (hs : Sep w0 F0 R w F Ts) (i : Nat) {κ β : Type} {ek : κ → Value} {ev : β → Value} {r : Nat} {kvs kvs' : List (κ × β)} (h : Ts[i]? = some (.mp ek ev r kvs)) (hg : w.grownBy w' (some r))
    (ho : ∃ es clock, w'.heap[r]? = some (.map es clock) ∧ es.toList.map (fun e => (e.key, e.val)) = kvs'.map fun p => (ek p.1, ev p.2)) : Sep w0 F0 R w' F (Ts.set i (.mp ek ev r kvs')) :=
  hs.upd i h rfl hg ho fun k hk => by
    simp only [Th.blk, Option.some.injEq] at hk
    subst hk
    obtain ⟨es, c, h1, _⟩ := ho
    exact ⟨hp_lt (w := w') h1, .inl rfl⟩

section more
variable {P : Program} {tb : Tb} {ops : Array Oper} {Q : Exit → Act → World → Prop} {N : Nat} {L : List (Nat × Value)} {a : Act} {w : World} {rest : List Oper} {o : Oper} {d : Nat}

/-! maps -/
theorem mkm {T : Nat} {g : Option (Nat × Bool)} {pos : String} {after : Array Edge} {ty : TypeId} (hf : Fr N L a) (hd : Nat.blt d N = true) (hg : grd ops L g = some true)
    (K : ∀ w' a', w' = w.alloc (.map #[] 0) → Ext w w' → Fr N ((d, .map (some w.heap.size)) :: er d L) a' → wpList P ops Q rest a' w') :
    wpList P ops Q ({ dst := some d, op := .makeMap T none, type := ty, pos := pos, after := after, guard := g } :: rest) a w := by
  refine stp hf (v := .map (some w.heap.size)) (w' := w.alloc (.map #[] 0)) hg ?_ (K _ _ rfl (ext_alloc w _) (hf.put hd _))
  simp only [execOp, Option.map_none, Instr.makeMap, Sem.run_bind, Sem.run_pure, run_newObj_alloc, Result.andThen]
theorem find_get {κ β : Type} [BEq κ] {D : TypeDesc} {ek : κ → Value} {ev : β → Value} (heq : ∀ x y, Instr.sameNow D (ek x) (ek y) = some (x == y)) (k : κ) : ∀ (es : List MapEntry) (kvs : List (κ × β)) (i : Nat), es.map (fun e => (e.key, e.val)) = kvs.map (fun p => (ek p.1, ev p.2)) →
    (mpGet kvs k = none ∧ Instr.findNow D (ek k) es i = some none ∧ mpPut kvs k = fun v => kvs ++ [(k, v)]) ∨
    ∃ j b x, mpGet kvs k = some b ∧ Instr.findNow D (ek k) es i = some (some (i + j, ev b)) ∧ j < kvs.length ∧ (mpPut kvs k = fun v => kvs.set j (k, v)) ∧ kvs[j]? = some (x, b) ∧ (k == x) = true
  | [], [], i, _ => .inl ⟨rfl, rfl, rfl⟩
  | [], _ :: _, i, h => by simp at h
  | _ :: _, [], i, h => by simp at h
  | e :: es, p :: kvs, i, h => by
    simp only [List.map_cons, List.cons.injEq, Prod.mk.injEq] at h
    obtain ⟨⟨h1, h2⟩, h3⟩ := h
    have hs : Instr.sameNow D (ek k) e.key = some (k == p.1) := by rw [h1]; exact heq _ _
    cases hb : (k == p.1) with
    | true =>
      refine .inr ⟨0, p.2, p.1, by simp [mpGet, hb], ?_, by simp, by funext v; simp [mpPut, hb], by simp, hb⟩
      simp [Instr.findNow, hs, hb, h2]
    | false =>
      rcases find_get heq k es kvs (i + 1) h3 with ⟨a1, a2, a3⟩ | ⟨j, b, x, a1, a2, a3, a4, a5, a6⟩
      · refine .inl ⟨by simp [mpGet, hb, a1], by simp [Instr.findNow, hs, hb, a2], ?_⟩
        funext v; simp [mpPut, hb, a3]
      · refine .inr ⟨j + 1, b, x, by simp [mpGet, hb, a1], ?_, by simpa using a3, ?_, by simpa using a5, a6⟩
        · simp [Instr.findNow, hs, hb, a2]; omega
        · funext v; simp [mpPut, hb, a4]
/-- a kind of key -/
structure KeyOk {κ : Type} [BEq κ] (P : Program) (kt : TypeId) (ek : κ → Value) (D : TypeDesc) : Prop where
  und : P.underlying kt = some D
  eq : ∀ x y : κ, Instr.sameNow D (ek x) (ek y) = some (x == y)
  chk : ∀ (x : κ) e n w, (Instr.checkKey e (n + 1) kt (ek x)).run P w = .ok () w
  same : ∀ x y : κ, (x == y) = true → x = y
  stay : ∀ (x : κ) w, (Instr.keyThatStays (ek x) (ek x)).run P w = .ok (ek x) w
theorem key_str (htb : TbOk P tb) {kt : Nat} (h : asc tb.und kt = some .string) : KeyOk P kt strV .string where
  und := htb.u h
  eq := fun x y => by
    simp only [Instr.sameNow, strV]
    congr 1
    rw [Bool.eq_iff_iff, MapKept.bytes_beq]
    simp
  chk := fun x e n w => MapKept.run_checkKey (k := .string ⟨x.toArray⟩) (htb.u h) (by simp [MapKept.IsKey]) e n
  same := fun x y h => by simpa using h
  stay := fun x w => MapKept.run_keyThatStays (d := .string) (k := .string ⟨x.toArray⟩) (by simp [MapKept.IsKey])
theorem key_int (htb : TbOk P tb) {kt : Nat} {k : IntKind} (h : asc tb.und kt = some (.int k)) : KeyOk P kt (Value.int k) (.int k) where
  und := htb.u h
  eq := fun x y => by simp [Instr.sameNow]
  chk := fun x e n w => MapKept.run_checkKey (k := .int k x) (htb.u h) (by simp [MapKept.IsKey]) e n
  same := fun x y h => by simpa using h
  stay := fun x w => MapKept.run_keyThatStays (d := .int k) (k := .int k x) (by simp [MapKept.IsKey])
theorem run_mget (htb : TbOk P tb) {T kt et : Nat} (hu : asc tb.und T = some (.map kt et)) {κ β : Type} [BEq κ] {ek : κ → Value} {ev : β → Value} {D : TypeDesc} (hk : KeyOk P kt ek D) {zv : Value} {zb : β} {s b : Nat} (hti : asc tb.info et = some (zv, s, b)) (hz : zv = ev zb) {r : Nat} {kvs : List (κ × β)}
    (hm : ∃ es clock, w.heap[r]? = some (.map es clock) ∧ es.toList.map (fun e => (e.key, e.val)) = kvs.map fun p => (ek p.1, ev p.2)) (k : κ) (ok : Bool) :
    (Instr.lookup T (.map (some r)) (ek k) ok).run P w = .ok (if ok then .tuple #[ev ((mpGet kvs k).getD zb), .bool (mpGet kvs k).isSome] else ev ((mpGet kvs k).getD zb)) w := by
  obtain ⟨es, clock, h1, h2⟩ := hm
  obtain ⟨inf, hinf, hzero, _, _⟩ := htb.i hti
  have hc : ∀ e, (Instr.checkKey e 10000 kt (ek k)).run P w = .ok () w := fun e => hk.chk k e 9999 w
  unfold Instr.lookup
  rcases find_get hk.eq k es.toList kvs 0 h2 with ⟨a1, a2, _⟩ | ⟨j, b, x, a1, a2, _⟩
  · simp only [Sem.run_bind, asc_und htb hu, Result.andThen, Sem.run_pure, MapKept.run_getObj_map h1, hc, MapKept.run_findKey hk.und a2, zeroValue, typeInfo, run_program, hinf, hzero, a1]
    cases ok <;> simp [hz]
  · simp only [Sem.run_bind, asc_und htb hu, Result.andThen, Sem.run_pure, MapKept.run_getObj_map h1, hc, MapKept.run_findKey hk.und a2, a1]
    cases ok <;> simp
theorem mget (htb : TbOk P tb) {T kt et : Nat} (hu : asc tb.und T = some (.map kt et)) {κ β : Type} [BEq κ] {ek : κ → Value} {ev : β → Value} {D : TypeDesc} (hk : KeyOk P kt ek D) {zv : Value} {zb : β} {s b : Nat} (hti : asc tb.info et = some (zv, s, b)) (hz : zv = ev zb) {r : Nat} {kvs : List (κ × β)}
    (hm : ∃ es clock, w.heap[r]? = some (.map es clock) ∧ es.toList.map (fun e => (e.key, e.val)) = kvs.map fun p => (ek p.1, ev p.2)) (k : κ) {v : Value}
    {x y : Operand} {ok : Bool} (hv : (if ok then .tuple #[ev ((mpGet kvs k).getD zb), .bool (mpGet kvs k).isSome] else ev ((mpGet kvs k).getD zb)) = v) {g : Option (Nat × Bool)} {pos : String} {after : Array Edge} {ty : TypeId} (hf : Fr N L a) (hd : Nat.blt d N = true) (hg : grd ops L g = some true) (hx : evO L x = some (.map (some r))) (hy : evO L y = some (ek k))
    (K : ∀ a', Fr N ((d, v) :: er d L) a' → wpList P ops Q rest a' w) :
    wpList P ops Q ({ dst := some d, op := .lookup T x y ok, type := ty, pos := pos, after := after, guard := g } :: rest) a w := by
  refine stp hf (v := v) hg ?_ (K _ (hf.put hd _))
  simp only [execOp, evO_ok hf hx, evO_ok hf hy, Sem.run_bind, run_mget htb hu hk hti hz hm k ok, hv, Result.andThen, Sem.run_pure]
theorem run_mput (htb : TbOk P tb) {T kt et : Nat} (hu : asc tb.und T = some (.map kt et)) {κ β : Type} [BEq κ] {ek : κ → Value} {ev : β → Value} {D : TypeDesc} (hk : KeyOk P kt ek D) {r : Nat} {kvs : List (κ × β)}
    (hm : ∃ es clock, w.heap[r]? = some (.map es clock) ∧ es.toList.map (fun e => (e.key, e.val)) = kvs.map fun p => (ek p.1, ev p.2)) (k : κ) (b : β) :
    ∃ w', (Instr.mapUpdate T (.map (some r)) (ek k) (ev b)).run P w = .ok () w' ∧ w.grownBy w' (some r) ∧ ∃ es clock, w'.heap[r]? = some (.map es clock) ∧ es.toList.map (fun e => (e.key, e.val)) = (mpPut kvs k b).map fun p => (ek p.1, ev p.2) := by
  obtain ⟨es, clock, h1, h2⟩ := hm
  have hc : ∀ e, (Instr.checkKey e 10000 kt (ek k)).run P w = .ok () w := fun e => hk.chk k e 9999 w
  have hset : ∀ o' : Obj, w.grownBy { w with heap := w.heap.setIfInBounds r o' } (some r) ∧ ({ w with heap := w.heap.setIfInBounds r o' } : World).heap[r]? = some o' := fun o' => by
    have := MapKept.heap_set (o' := o') h1
    exact ⟨⟨rfl, rfl, rfl, by simp, fun q _ hq => this.2 q fun e => hq (by rw [e])⟩, this.1⟩
  unfold Instr.mapUpdate
  rcases find_get hk.eq k es.toList kvs 0 h2 with ⟨a1, a2, a3⟩ | ⟨j, b', x, a1, a2, a3, a4, a5, a6⟩
  · refine ⟨_, by simp only [Sem.run_bind, asc_und htb hu, Result.andThen, MapKept.run_getObj_map h1, hc, MapKept.run_findKey hk.und a2, MapKept.run_setObj_map _ h1]; rfl, (hset _).1, _, _, (hset _).2, ?_⟩
    rw [a3]; simp [h2]
  · have hx : k = x := hk.same _ _ a6
    subst hx
    have he : ∃ e, es[j]? = some e ∧ e.key = ek k := by
      have hlen : es.toList.length = kvs.length := by have := congrArg List.length h2; simpa using this
      have hj : j < es.size := by rw [← Array.length_toList, hlen]; exact a3
      refine ⟨es[j], by simp [hj], ?_⟩
      have h5 := congrArg (fun l => l[j]?) h2
      simp only [List.getElem?_map, a5, Option.map_some] at h5
      have h6 : es.toList[j]? = some es[j] := by simp [hj]
      rw [h6] at h5
      simp at h5
      exact h5.1
    obtain ⟨e, he1, he2⟩ := he
    refine ⟨_, by simp only [Sem.run_bind, asc_und htb hu, Result.andThen, MapKept.run_getObj_map h1, hc, MapKept.run_findKey hk.und a2, Nat.zero_add, he1, Option.map_some, Option.getD_some, he2, hk.stay, MapKept.run_setObj_map _ h1]; rfl, (hset _).1, _, _, (hset _).2, ?_⟩
    rw [a4]
    apply List.ext_getElem?
    intro q
    have h5 := congrArg (fun l => l[q]?) h2
    simp only [List.getElem?_map] at h5
    simp only [List.getElem?_map, Array.getElem?_toList, Array.getElem?_modify, List.getElem?_set]
    by_cases hq : j = q
    · subst hq
      simp [he1, a3]
    · simp only [hq, if_false]
      simpa using h5
theorem mput (htb : TbOk P tb) {T kt et : Nat} (hu : asc tb.und T = some (.map kt et)) {κ β : Type} [BEq κ] {ek : κ → Value} {ev : β → Value} {D : TypeDesc} (hk : KeyOk P kt ek D) {r : Nat} {kvs : List (κ × β)}
    (hm : ∃ es clock, w.heap[r]? = some (.map es clock) ∧ es.toList.map (fun e => (e.key, e.val)) = kvs.map fun p => (ek p.1, ev p.2)) (k : κ) (b : β)
    {x y z : Operand} {g : Option (Nat × Bool)} {pos : String} {after : Array Edge} {ty : TypeId} (hf : Fr N L a) (hg : grd ops L g = some true) (hx : evO L x = some (.map (some r))) (hy : evO L y = some (ek k)) (hz : evO L z = some (ev b))
    (K : ∀ w' a', w.grownBy w' (some r) → (∃ es clock, w'.heap[r]? = some (.map es clock) ∧ es.toList.map (fun e => (e.key, e.val)) = (mpPut kvs k b).map fun p => (ek p.1, ev p.2)) → Fr N L a' → wpList P ops Q rest a' w') :
    wpList P ops Q ({ dst := none, op := .mapUpdate T x y z, type := ty, pos := pos, after := after, guard := g } :: rest) a w := by
  obtain ⟨w', hrun, hgr, ho⟩ := run_mput htb hu hk hm k b
  refine stpS hf (w' := w') hg ?_ (K _ _ hgr ho (hf.put_none _))
  simp only [execOp, evO_ok hf hx, evO_ok hf hy, evO_ok hf hz, Sem.run_bind, hrun, Result.andThen, Sem.run_pure]
theorem mins (htb : TbOk P tb) {T kt et : Nat} (hu : asc tb.und T = some (.map kt et)) {κ β : Type} [BEq κ] {ek : κ → Value} {ev : β → Value} {D : TypeDesc} (hk : KeyOk P kt ek D) {r : Nat} {kvs : List (κ × β)}
    (hm : ∃ es clock, w.heap[r]? = some (.map es clock) ∧ es.toList.map (fun e => (e.key, e.val)) = kvs.map fun p => (ek p.1, ev p.2)) (k : κ) (b : β)
    {x y z : Operand} {g : Option (Nat × Bool)} {pos : String} {after : Array Edge} {ty : TypeId} (hf : Fr N L a) (hg : grd ops L g = some true) (hx : evO L x = some (.map (some r))) (hy : evO L y = some (ek k)) (hz : evO L z = some (ev b))
    (K : ∀ w' a', w.grownBy w' (some r) → (∃ es clock, w'.heap[r]? = some (.map es clock) ∧ es.toList.map (fun e => (e.key, e.val)) = (mpPut kvs k b).map fun p => (ek p.1, ev p.2)) → Fr N L a' → wpList P ops Q rest a' w') :
    wpList P ops Q ({ dst := none, op := .insert T x y z, type := ty, pos := pos, after := after, guard := g } :: rest) a w := by
  obtain ⟨w', hrun, hgr, ho⟩ := run_mput htb hu hk hm k b
  refine stpS hf (w' := w') hg ?_ (K _ _ hgr ho (hf.put_none _))
  simp only [execOp, evO_ok hf hx, evO_ok hf hy, evO_ok hf hz, Sem.run_bind, hrun, Result.andThen, Sem.run_pure]

/-! bytes of a text -/
theorem reps_ints_eq {k : IntKind} {h : SH} : ∀ {xs : List Int} {cs : List Value}, Reps (tI k) h xs cs → cs = xs.map (Value.int k)
  | [], _, e => e
  | _ :: _, _, ⟨c, r, e1, e2, e3⟩ => by rw [e1, show c = _ from e2, reps_ints_eq e3]; rfl
theorem bytesRow_take (l : List UInt8) (c : Nat) : (bytesRow ⟨l.toArray⟩ c).toList.take (ofStr l).length = (ofStr l).map (Value.int .u8) := by
  have h1 : (bytesRow ⟨l.toArray⟩ c).toList = (ofStr l).map (Value.int .u8) ++ List.replicate (c - l.length) (.int .u8 0) := by
    simp [bytesRow, ofStr]
    rfl
  rw [h1, List.take_append_of_le_length (by simp), List.take_of_length_le (by simp)]
theorem s2b (htb : TbOk P tb) {src dst e : Nat} (h1 : asc tb.und src = some .string) (h2 : asc tb.und dst = some (.slice e)) (h3 : asc tb.und e = some (.int .u8)) {w0 : World} {F0 F : SH} {R : Nat → Prop} {Ts : List Th} (hs : Sep w0 F0 R w F Ts) {y : List UInt8} (hl : y.length ≤ 140737488355328)
    {x : Operand} {g : Option (Nat × Bool)} {pos : String} {after : Array Edge} {ty : TypeId} (hf : Fr N L a) (hd : Nat.blt d N = true) (hg : grd ops L g = some true) (hx : evO L x = some (strV y))
    (K : ∀ ao cp w' a', Sep w0 F0 R w' F (.srow e (.slice ao (ofStr y).length cp) (ofStr y) :: Ts) → Fr N ((d, .slice ao (ofStr y).length cp) :: er d L) a' → wpList P ops Q rest a' w') :
    wpList P ops Q ({ dst := some d, op := .convert src dst x, type := ty, pos := pos, after := after, guard := g } :: rest) a w := by
  have hn : (ofStr y).length = y.length := by simp [ofStr]
  have hrun := run_bytes_of_string (P := P) w src dst e ⟨y.toArray⟩ (htb.u h1) (htb.u h2) (htb.u h3)
  have hsz : (⟨y.toArray⟩ : ByteArray).size = y.length := rfl
  rw [hsz] at hrun
  have hge := grownCap_ge w y.length 0 e
  have hcm : grownCap w y.length 0 e ≤ maxLen := grownCap_le_maxLen w _ 0 e (by unfold maxLen; omega)
  have hx2 : Ext w (w.drew.alloc (.cells (bytesRow ⟨y.toArray⟩ (grownCap w y.length 0 e)) e ((bytesRow ⟨y.toArray⟩ (grownCap w y.length 0 e)).size, (bytesRow ⟨y.toArray⟩ (grownCap w y.length 0 e)).size + 1))) :=
    ⟨rfl, rfl, rfl, by simp, fun k hk => Go.heap_alloc_old w.drew _ hk⟩
  have hnew : (w.drew.alloc (.cells (bytesRow ⟨y.toArray⟩ (grownCap w y.length 0 e)) e ((bytesRow ⟨y.toArray⟩ (grownCap w y.length 0 e)).size, (bytesRow ⟨y.toArray⟩ (grownCap w y.length 0 e)).size + 1))).heap[w.heap.size]? =
      some (.cells (bytesRow ⟨y.toArray⟩ (grownCap w y.length 0 e)) e ((bytesRow ⟨y.toArray⟩ (grownCap w y.length 0 e)).size, (bytesRow ⟨y.toArray⟩ (grownCap w y.length 0 e)).size + 1)) := heap_alloc_new w.drew _
  have hbs : (bytesRow ⟨y.toArray⟩ (grownCap w y.length 0 e)).size = grownCap w y.length 0 e := by
    simp [bytesRow]; omega
  refine stp hf (v := .slice (some ⟨w.heap.size, 0, none⟩) (ofStr y).length (grownCap w y.length 0 e)) hg ?_ (K _ _ _ _ (hs.addNew hx2 ?_ ?_) (hf.put hd _))
  · rw [hn]
    simp only [execOp, evO_ok hf hx, strV, Sem.run_bind, hrun, Result.andThen, Sem.run_pure]
  · refine ⟨w.heap.size, _, _, _, rfl, hnew, by rw [hn]; exact hge, hcm, hbs, bytesRow_take y _, .inr (Nat.le_refl _)⟩
  · intro k hk
    simp only [Th.blk, Value.ownBlock, Option.some.injEq] at hk
    subst hk
    simp
/-- append to such bytes -/
theorem apB (htb : TbOk P tb) {T e : Nat} (hu : asc tb.und T = some (.slice e)) (hti : asc tb.info e = some (.int .u8 0, 1, 1)) {w0 : World} {F0 F : SH} {R : Nat → Prop} {Ts : List Th} (hs : Sep w0 F0 R w F Ts) (i : Nat) {v : Value} {xs ys : List Int} (hT : Ts[i]? = some (.srow e v xs)) {G : SH} {ao : Option Addr} {n cap : Nat} (hro : RA (hp w) G (tI .u8) (.slice ao n cap) ys) (hbd : xs.length + ys.length ≤ 140737488355328)
    {x yo : Operand} {g : Option (Nat × Bool)} {pos : String} {after : Array Edge} {ty : TypeId} (hf : Fr N L a) (hd : Nat.blt d N = true) (hg : grd ops L g = some true) (hx : evO L x = some v) (hy : evO L yo = some (.slice ao n cap))
    (K : ∀ ao' cp' w' a', Sep w0 F0 R w' F (Ts.set i (.srow e (.slice ao' (xs ++ ys).length cp') (xs ++ ys))) → Fr N ((d, .slice ao' (xs ++ ys).length cp') :: er d L) a' → wpList P ops Q rest a' w') :
    wpList P ops Q ({ dst := some d, op := .call { callee := .builtin .append, args := #[x, yo], argTypes := #[T, T] }, type := ty, pos := pos, after := after, guard := g } :: rest) a w := by
  obtain ⟨inf, hinf, hzero, hsz, hby⟩ := htb.i hti
  obtain ⟨gb, cp, cur, fz, rfl, hob, hc1, hc2, hcs, htk, hfz⟩ := hs.ok i _ hT
  have hob2 : w.heap[gb]? = some (.cells cur e fz) := hob
  obtain ⟨ao', cap', ds, e1, hc3, hr3, hcell⟩ := hro
  simp only [Value.slice.injEq] at e1
  obtain ⟨rfl, rfl, rfl⟩ := e1
  have hds : ds = ys.map (Value.int .u8) := by
    clear hcell hc3 hbd hy K
    induction ys generalizing ds with
    | nil => exact hr3
    | cons y ys ih => obtain ⟨c, r, e1, e2, e3⟩ := hr3; rw [e1, show c = _ from e2, ih r e3]; rfl
  have hdl : ds.length = ys.length := by rw [hds, List.length_map]
  have hlen : (xs ++ ys).length = xs.length + ys.length := List.length_append
  have key : ∃ ao2 cp2 w', (Builtin.append_ #[T, T] ty #[.slice (some ⟨gb, 0, none⟩) xs.length cp, .slice ao ys.length cap]).run P w = .ok (.slice ao2 (xs ++ ys).length cp2) w' ∧ Sep w0 F0 R w' F (Ts.set i (.srow e (.slice ao2 (xs ++ ys).length cp2) (xs ++ ys))) := by
    have hmapc : (xs ++ ys).map (Value.int .u8) = xs.map (Value.int .u8) ++ ds := by rw [List.map_append, hds]
    cases ao with
    | none =>
      have hd0 : ds = [] := by
        cases ds with
        | nil => rfl
        | cons u r => obtain ⟨_, _, h1, _⟩ := hcell 0 u rfl; cases h1
      have hy0 : ys = [] := List.eq_nil_of_length_eq_zero (by rw [← hdl, hd0]; rfl)
      subst hy0
      refine ⟨_, cp, w, by simp [Builtin.append_, run_underlying (htb.u hu), Go.sizeOf, typeInfo, hinf, Builtin.lenOf, Builtin.firstCells, hc1, storeCells]; rfl, ?_⟩
      refine (hs.upd i hT rfl (World.grownBy.rfl0 w _) ?_ fun k hk => ?_)
      · rw [List.append_nil]; exact ⟨gb, cp, cur, fz, rfl, hob2, hc1, hc2, hcs, htk, hfz⟩
      · exact ⟨(hs.out i _ k hT hk).2.1, .inl hk⟩
    | some p =>
      have hcells : ∀ (j : Nat) (u : Value), ds[j]? = some u → w.cell? (p.add j) = some u := by
        intro j u hj
        obtain ⟨bl, o, h1, h2⟩ := hcell j u hj
        simp only [Option.some.injEq] at h1; subst h1
        rw [Addr.add_lit]; exact cellH_cell (LeH.refl _) h2
      by_cases hroom : xs.length + ys.length ≤ cp
      · have hff := run_firstCells_some (P := P) w inf.size ys.length p ys.length cap ds (by rw [hdl, hsz, Nat.mul_one]) hcells
        have hst := run_storeCells_cells (P := P) gb xs.length ds 0 w (fun j hj => by
            unfold World.cell?
            have : xs.length + j < cur.size := by omega
            simp [hob2, this]) (fun j hj => by
            unfold World.frozen?
            simp only [hob2]
            have : xs.length + j < cur.size := by omega
            simp only [Bool.and_eq_false_iff, decide_eq_false_iff_not]
            omega) (fun u hu => by rw [hds] at hu; obtain ⟨q, _, rfl⟩ := List.mem_map.1 hu; rfl)
        simp only [Nat.add_zero] at hst
        obtain ⟨a1, a2, a3, a4, a5, a6⟩ := setCells_any ds cur xs.length hob2
        refine ⟨some ⟨gb, 0, none⟩, cp, w.setCells gb xs.length ds, ?_, ?_⟩
        · rw [hlen]
          simp [Builtin.append_, run_underlying (htb.u hu), Go.sizeOf, typeInfo, hinf, hsz, Builtin.lenOf, hroom] at hff ⊢
          simp [hff, Addr.add_lit, hst]
        · refine hs.upd i hT rfl ⟨a4, a5, a6, Nat.le_of_eq a3.symm, fun k hk hne => a2 k (by simpa [Th.blk, Value.ownBlock] using hne)⟩ ⟨gb, cp, _, fz, rfl, a1, by rw [hlen]; exact hroom, hc2, ?_, ?_, ?_⟩ fun k hk => ?_
          · simp [spl_length, hcs]
          · rw [hlen, hmapc, List.toList_toArray]
            rw [spl_mid cur.toList xs.length ds (by have hcl : cur.toList.length = cur.size := Array.length_toList; omega), htk, ← List.append_assoc]
            rw [List.take_append_of_le_length (by simp [hdl]), List.take_of_length_le (by simp [hdl])]
          · simpa [spl_length] using hfz
          · simp only [Th.blk, Value.ownBlock, Option.some.injEq] at hk
            subst hk
            exact ⟨by rw [a3]; exact (hs.out i _ gb hT rfl).2.1, .inl rfl⟩
      · have hxc : ∀ j u, (xs.map (Value.int .u8))[j]? = some u → w.cell? ((⟨gb, 0, none⟩ : Addr).add j) = some u := by
          intro j u hj
          rw [Addr.add_lit]
          unfold World.cell?
          rw [← htk] at hj
          have hj2 : j < xs.length := by
            rcases Nat.lt_or_ge j xs.length with h' | h'
            · exact h'
            · rw [List.getElem?_take_eq_none h'] at hj; cases hj
          rw [List.getElem?_take_of_lt hj2] at hj
          simpa [hob2] using hj
        have hr := run_append_grow (P := P) w T ty e inf (.int .u8 0) (htb.u hu) hinf hzero ⟨gb, 0, none⟩ xs.length cp (xs.map (Value.int .u8)) (by rw [List.length_map, hsz, Nat.mul_one]) hxc p ys.length cap ds (by rw [hdl, hsz, Nat.mul_one]) hcells (by omega) (by omega) (growslice_fits (by omega) (by rw [hby]; omega))
        have hge := grownCap_ge w (xs.length + ys.length) cp e
        have hcm := grownCap_le_maxLen w (xs.length + ys.length) cp e (by unfold maxLen; omega)
        rw [← hlen] at hr
        refine ⟨_, _, _, hr, ?_⟩
        refine hs.upd i hT rfl ⟨rfl, rfl, rfl, by simp, fun k hk _ => Go.heap_alloc_old w.drew _ hk⟩ ⟨w.heap.size, _, _, _, rfl, heap_alloc_new w.drew _, by rw [hlen]; exact hge, by rw [hlen]; exact hcm, ?_, ?_, .inl (Nat.le_refl _)⟩ fun k hk => ?_
        · simp only [Array.size_append, List.size_toArray, List.length_map, hdl, size_zeroCells, hlen]
          have : (Value.int IntKind.u8 0).cells.size = 1 := rfl
          rw [this]; omega
        · rw [hlen, hmapc]
          simp only [Array.toList_append]
          rw [List.take_append_of_le_length (by simp [hdl]), List.take_of_length_le (by simp [hdl])]
        · simp only [Th.blk, Value.ownBlock, Option.some.injEq] at hk
          subst hk
          exact ⟨by simp, .inr (Nat.le_refl _)⟩
  obtain ⟨ao2, cp2, w', hrun, hs2⟩ := key
  refine stp hf (v := .slice ao2 (xs ++ ys).length cp2) (w' := w') hg ?_ (K ao2 cp2 w' _ hs2 (hf.put hd _))
  refine exec_builtin (A := [x, yo]) (vs := [.slice (some ⟨gb, 0, none⟩) xs.length cp, .slice ao ys.length cap]) hf (by simp only [evL, hx, hy]) fun consts => ?_
  simp only [builtin, Sem.run_bind, hrun, Result.andThen, Sem.run_pure]

/-! arrays in variables -/
theorem run_ixB (htb : TbOk P tb) {T n e b0 : Nat} {zv : Value} (hu : asc tb.und T = some (.array n e)) (hti : asc tb.info e = some (zv, 1, b0)) {k : IntKind} {i : Int} (hn : 0 ≤ i ∧ i < n) (b : Nat) (w : World) : (Instr.indexAt T (.pointer (some ⟨b, 0, none⟩)) (.int k i)).run P w = .ok (.pointer (some ⟨b, i.toNat, none⟩)) w := by
  obtain ⟨inf, hinf, _, hs, _⟩ := htb.i hti
  unfold Instr.indexAt Instr.sureAddr asIntOf
  simp only [Sem.run_bind, Sem.run_pure, asc_und htb hu, Result.andThen]
  rw [if_pos hn]
  simp only [Sem.run_bind, run_sizeOf w hinf, cellsOf_of hinf hs, Sem.run_pure, Result.andThen, Addr.add_lit, Nat.mul_one, Nat.zero_add]
theorem ixB (htb : TbOk P tb) {T n e b0 : Nat} {zv : Value} (hu : asc tb.und T = some (.array n e)) (hti : asc tb.info e = some (zv, 1, b0)) {k : IntKind} {i : Int} (hn : 0 ≤ i ∧ i < n) {b : Nat} {x y : Operand} {g : Option (Nat × Bool)} {pos : String} {after : Array Edge} {ty : TypeId} (hf : Fr N L a) (hd : Nat.blt d N = true) (hg : grd ops L g = some true)
    (hx : evO L x = some (.pointer (some ⟨b, 0, none⟩))) (hy : evO L y = some (.int k i)) (K : ∀ po a', po = i.toNat → Fr N ((d, .pointer (some ⟨b, po, none⟩)) :: er d L) a' → wpList P ops Q rest a' w) :
    wpList P ops Q ({ dst := some d, op := .indexAddr T x y, type := ty, pos := pos, after := after, guard := g } :: rest) a w := by
  refine stp hf (v := .pointer (some ⟨b, i.toNat, none⟩)) hg ?_ (K _ _ rfl (hf.put hd _))
  simp only [execOp, evO_ok hf hx, evO_ok hf hy, Sem.run_bind, run_ixB htb hu hti hn, Result.andThen, Sem.run_pure]
theorem ixBQ (htb : TbOk P tb) {C : World → Prop} {R : Act → Prop} {T n e b0 : Nat} {zv : Value} (hu : asc tb.und T = some (.array n e)) (hti : asc tb.info e = some (zv, 1, b0)) {k : IntKind} {i : Int} (hn : 0 ≤ i ∧ i < n) {b : Nat} {x y : Operand} {g : Option (Nat × Bool)} {pos : String} {after : Array Edge} {ty : TypeId} (hf : Fr N L a) (hd : Nat.blt d N = true) (hg : grd ops L g = some true)
    (hx : evO L x = some (.pointer (some ⟨b, 0, none⟩))) (hy : evO L y = some (.int k i)) (K : ∀ po a', po = i.toNat → Fr N ((d, .pointer (some ⟨b, po, none⟩)) :: er d L) a' → wpQuiet P ops C R rest a') :
    wpQuiet P ops C R ({ dst := some d, op := .indexAddr T x y, type := ty, pos := pos, after := after, guard := g } :: rest) a := by
  refine stpQ hf (v := .pointer (some ⟨b, i.toNat, none⟩)) hg (fun w _ => ?_) (K _ _ rfl (hf.put hd _))
  simp only [execOp, evO_ok hf hx, evO_ok hf hy, Sem.run_bind, run_ixB htb hu hti hn, Result.andThen, Sem.run_pure]
theorem arrCell {α : Type} [Inhabited α] {enc : α → Value} {h : SH} {b : Nat} {xs : List α} (hc : CellsAt h ⟨b, 0, none⟩ (List.map enc xs)) {n : Nat} (hl : xs.length = n) {i : Int} (hn : 0 ≤ i ∧ i < n) {po : Nat} (hp' : po = i.toNat) : CellsAt h ⟨b, po, none⟩ [enc (gt xs i)] := by
  subst hp'
  refine ⟨rfl, fun j u hj => ?_⟩
  cases j with
  | succ j => simp at hj
  | zero =>
    have h1 := gt_at (xs := xs) hn.1 (by omega)
    have h2 := hc.2 i.toNat (enc (gt xs i)) (by rw [List.getElem?_map, h1]; rfl)
    have h3 : enc (gt xs i) = u := by simpa using hj
    subst h3
    simpa using h2
theorem spl_one (cs : List Value) (o : Nat) (u : Value) : spl cs o [u] = cs.set o u := rfl
/-- v[i] = y, v an array in a variable -/
theorem stA (htb : TbOk P tb) {T b0 : Nat} {zv : Value} (hti : asc tb.info T = some (zv, 1, b0)) {α : Type} (enc : α → Value) (he : ∀ x, (enc x).oneCell' = true) (hec : ∀ x, (enc x).cells = #[enc x]) {B b : Nat} {T' : TypeId} {xs : List α} (H : Bx w B b T' (List.map enc xs)) {n : Nat} (hl : xs.length = n) {i : Int} (hn : 0 ≤ i ∧ i < n) {po : Nat} (hp' : po = i.toNat) (yv : α)
    {x y : Operand} {g : Option (Nat × Bool)} {pos : String} {after : Array Edge} {ty : TypeId} (hf : Fr N L a) (hg : grd ops L g = some true) (hx : evO L x = some (.pointer (some ⟨b, po, none⟩))) (hy : evO L y = some (enc yv))
    (K : ∀ w' a', Bx w' B b T' (List.map enc (xs.set i.toNat yv)) → w.grownBy w' (bv b).ownBlock → Fr N L a' → wpList P ops Q rest a' w') :
    wpList P ops Q ({ dst := none, op := .store T x y, type := ty, pos := pos, after := after, guard := g } :: rest) a w := by
  subst hp'
  obtain ⟨inf, hinf, _, hsize, _⟩ := htb.i hti
  have hlt : i.toNat < (List.map enc xs).length := by rw [List.length_map]; omega
  have hcell : (w.cell? ⟨b, i.toNat, none⟩).isSome = true ∧ w.frozen? ⟨b, i.toNat, none⟩ = false := by
    constructor
    · have h4 := CellsAt.cell (w := w) (LeH.refl _) H.cells (List.getElem?_eq_getElem hlt)
      rw [Nat.zero_add] at h4
      rw [h4]; rfl
    · unfold World.frozen?
      simp [H.obj]
  have hrun : (Instr.storeAt T (.pointer (some ⟨b, i.toNat, none⟩)) (enc yv)).run P w = .ok () (w.setCells b i.toNat [enc yv]) := by
    have h3 := run_storeCells_cells (P := P) b i.toNat [enc yv] 0 w (fun j hj => by
      have : j = 0 := by simpa using hj
      subst this; simpa using hcell.1) (fun j hj => by
      have : j = 0 := by simpa using hj
      subst this; simpa using hcell.2) (fun u hu => by
      have : u = enc yv := by simpa using hu
      subst this; exact he yv)
    simp only [Nat.add_zero] at h3
    unfold Instr.storeAt Instr.sureAddr storeVar
    simp only [Sem.run_bind, Sem.run_pure, Result.andThen, run_sizeOf w hinf, cellsOf_of' hinf hsize, hec]
    simp only [List.size_toArray, List.length_cons, List.length_nil, Nat.zero_add, ne_eq, not_true_eq_false, if_false, h3]
  obtain ⟨a1, a2, a3, a4, a5, a6⟩ := setCells_box [enc yv] (List.map enc xs) i.toNat H.obj
  rw [spl_one, ← List.map_set] at a1
  refine stpS hf (w' := w.setCells b i.toNat [enc yv]) hg ?_ (K _ _ ⟨H.base, a1, allOne_map he _⟩ ⟨a4, a5, a6, Nat.le_of_eq a3.symm, fun k hk hne => a2 k (by simpa [Value.ownBlock] using hne)⟩ (hf.put_none _))
  simp only [execOp, evO_ok hf hx, evO_ok hf hy, Sem.run_bind, hrun, Result.andThen, Sem.run_pure]
theorem arr_RO {α : Type} {t : Ty α} (enc : α → Value) (hrep : ∀ h x, t.rep h x [enc x]) {F : SH} {b : Nat} {xs : List α} (hc : CellsAt F ⟨b, 0, none⟩ (List.map enc xs)) : RO F t (.slice (some ⟨b, 0, none⟩) xs.length xs.length) xs := by
  have hr : ∀ ys : List α, Reps t F ys (ys.map enc) := fun ys => by
    induction ys with
    | nil => exact rfl
    | cons y ys ih => exact ⟨[enc y], ys.map enc, rfl, hrep _ _, ih⟩
  exact ⟨_, xs.length, xs.map enc, rfl, Nat.le_refl _, hr xs, fun j u hj => ⟨b, 0, rfl, by have := hc.2 j u hj; simpa using this⟩⟩
/-- v[lo:hi], v an array in a variable that changes no more -/
theorem slA (htb : TbOk P tb) {T n e s b0 : Nat} {zv : Value} (hu : asc tb.und T = some (.array n e)) (hti : asc tb.info e = some (zv, s, b0)) {α : Type} {t : Ty α} (ht : t.size = s) {F : SH} {b : Nat} {xs : List α} (hro : RO F t (.slice (some ⟨b, 0, none⟩) xs.length xs.length) xs) (hl : xs.length = n) {lo hi : Int} (hb : 0 ≤ lo ∧ lo ≤ hi ∧ hi ≤ xs.length) {x : Operand} {lv hv : Option Operand}
    (h1 : lv = none ∧ lo = 0 ∨ isB L lo lv) (h2 : hv = none ∧ hi = xs.length ∨ isB L hi hv) {g : Option (Nat × Bool)} {pos : String} {after : Array Edge} {ty : TypeId} (hf : Fr N L a) (hd : Nat.blt d N = true) (hg : grd ops L g = some true)
    (hx : evO L x = some (.pointer (some ⟨b, 0, none⟩))) (K : ∀ ao' cap' a', RO F t (.slice ao' (cutL xs lo hi).length cap') (cutL xs lo hi) → Fr N ((d, .slice ao' (cutL xs lo hi).length cap') :: er d L) a' → wpList P ops Q rest a' w) :
    wpList P ops Q ({ dst := some d, op := .slice T x lv hv none, type := ty, pos := pos, after := after, guard := g } :: rest) a w := by
  obtain ⟨inf, hinf, _, hs, _⟩ := htb.i hti
  obtain ⟨b0', b1, b2⟩ := hb
  have hcut := hro.cut b0' b1 b2 (m := xs.length) (by omega)
  have hlen := cutL_length (xs := xs) (lo := lo) (hi := hi) b2
  have h1' : (lv.map a.eval = none ∧ lo = 0) ∨ ∃ k, lv.map a.eval = some (.int k lo) := h1.elim (fun q => .inl ⟨by rw [q.1]; rfl, q.2⟩) (fun q => .inr (conv_isB hf q))
  have h2' : (hv.map a.eval = none ∧ hi = xs.length) ∨ ∃ k, hv.map a.eval = some (.int k hi) := h2.elim (fun q => .inl ⟨by rw [q.1]; rfl, q.2⟩) (fun q => .inr (conv_isB hf q))
  generalize hlv : lv.map a.eval = lv' at h1'
  generalize hhv : hv.map a.eval = hv' at h2'
  have hrun : (Instr.sliceBounds false n n lv' hv' none).run P w = .ok (lo.toNat, hi.toNat, n) w := by
    subst hl
    unfold Instr.sliceBounds
    rcases h2' with ⟨rfl, rfl⟩ | ⟨kh, rfl⟩
    · rcases h1' with ⟨rfl, rfl⟩ | ⟨kl, rfl⟩
      · simp [Sem.run_pure]
      · simp [Result.andThen, run_sliceBound b0' b1]
    · have hh := run_sliceBound (P := P) (k := kh) (i := hi) (y := xs.length) (c := .sliceAlen) (by omega) (by omega)
      rcases h1' with ⟨rfl, rfl⟩ | ⟨kl, rfl⟩
      · simp [Result.andThen, hh]
      · have hl := run_sliceBound (P := P) (k := kl) (i := lo) (y := hi.toNat) (c := .sliceB) b0' (by omega)
        simp [Sem.run_bind, Result.andThen, hh, hl]
  obtain ⟨ao', cap', e1⟩ := hcut.shape
  rw [e1] at hcut
  refine stp hf (v := .slice ao' (cutL xs lo hi).length cap') hg ?_ (K ao' cap' _ hcut (hf.put hd _))
  have e2 : (Value.slice (some (if n = lo.toNat then (⟨b, 0, none⟩ : Addr) else (⟨b, 0, none⟩ : Addr).add (lo.toNat * s))) (hi.toNat - lo.toNat) (n - lo.toNat)) = .slice ao' (cutL xs lo hi).length cap' := by
    rw [← e1, hl, ht]
    split <;> rfl
  simp only [execOp, evO_ok hf hx, hlv, hhv, Option.map_none, Sem.run_bind, Instr.sliceAt, Instr.sureAddr, Sem.run_pure, asc_und htb hu, Result.andThen, hrun, run_sizeOf w hinf, cellsOf_of hinf hs, e2]
/-- []byte of a constant text: a row that was just made -/
theorem cvB (htb : TbOk P tb) {T e : Nat} (hu : asc tb.und T = some (.slice e)) (he : asc tb.und e = some (.int .u8)) {w0 : World} {F0 F : SH} {R : Nat → Prop} {Ts : List Th} (hs : Sep w0 F0 R w F Ts) (i : Nat) {p : Addr} {n cap : Nat} {xs : List Int} (hT : Ts[i]? = some (.row e (tI .u8) (.slice (some p) n cap) xs))
    {x : Operand} {g : Option (Nat × Bool)} {pos : String} {after : Array Edge} {ty : TypeId} (hf : Fr N L a) (hd : Nat.blt d N = true) (hg : grd ops L g = some true) (hx : evO L x = some (.slice (some p) n cap))
    (K : ∀ w' a', Sep w0 F0 R w' F (Ts.set i (.srow e (.slice (some p) n cap) xs)) → Fr N ((d, .slice (some p) n cap) :: er d L) a' → wpList P ops Q rest a' w') :
    wpList P ops Q ({ dst := some d, op := .convert T T x, type := ty, pos := pos, after := after, guard := g } :: rest) a w := by
  obtain ⟨cs, ⟨hl, hr⟩, hrep⟩ := hs.ok i _ hT
  rcases hr with ⟨h1, _⟩ | ⟨gb, cp, cur, h1, hob, hc, hm, hsz, htk⟩
  · cases h1
  · simp only [Value.slice.injEq, Option.some.injEq] at h1
    obtain ⟨rfl, rfl, rfl⟩ := h1
    have hob2 : w.heap[gb]? = some (.cells cur e (0, 0)) := hob
    have hcs : cs = xs.map (Value.int .u8) := reps_ints_eq hrep
    have hsz' : cur.size = cap := by rw [hsz]; exact Nat.mul_one _
    have hsh : w.shape? gb = some (e, cur.size) := by unfold World.shape?; rw [hob2]
    have hrun : (convert T T (.slice (some ⟨gb, 0, none⟩) xs.length cap)).run P w = .ok (.slice (some ⟨gb, 0, none⟩) xs.length cap) (w.freeze ⟨gb, cur.size, none⟩ 1) := by
      unfold convert
      simp only [Sem.run_bind, asc_und htb hu, asc_und htb he, Result.andThen, beq_self_eq_true]
      simp [markStringish, hsh]
    have hfz : (w.freeze ⟨gb, cur.size, none⟩ 1).heap[gb]? = some (.cells cur e (cur.size, cur.size + 1)) := by
      unfold World.freeze
      simp [Array.getElem?_modify, hob2]
    have hgr : w.grownBy (w.freeze ⟨gb, cur.size, none⟩ 1) (some gb) := by
      unfold World.freeze
      refine ⟨rfl, rfl, rfl, by simp, fun k hk hne => ?_⟩
      have : ¬ gb = k := fun e => hne (by rw [e])
      simp [Array.getElem?_modify, this]
    refine stp hf (v := .slice (some ⟨gb, 0, none⟩) xs.length cap) (w' := w.freeze ⟨gb, cur.size, none⟩ 1) hg ?_ (K _ _ (hs.upd i hT rfl hgr ⟨gb, cap, cur, _, rfl, hfz, hc, hm, hsz', by rw [← hcs, ← htk]; congr 1; exact (Nat.mul_one _).symm, .inr (Nat.le_refl _)⟩ fun k hk => ?_) (hf.put hd _))
    · simp only [execOp, evO_ok hf hx, Sem.run_bind, hrun, Result.andThen, Sem.run_pure]
    · simp only [Th.blk, Value.ownBlock, Option.some.injEq] at hk
      subst hk
      exact ⟨hp_lt (w := w.freeze _ 1) hfz, .inl rfl⟩
theorem ret_okN {fn : Func} {T : Value → World → Prop} {vs : List Value} (hf : Fr N L a) (hr : resVal L fn.results.toList = some vs) (hT : T (packRes vs) w) : bodyPost P fn (Gives T) .normal a w := ret_ok (P := P) hf hr hT
theorem ret_okCN {fn : Func} {T : Value → World → Prop} {vs : List Value} (hf : Fr N L a) (hr : ResR P L w fn.results.toList vs) (hT : T (packRes vs) w) : bodyPost P fn (Gives T) .normal a w := ret_okC (P := P) hf hr hT
end more
end Dm
