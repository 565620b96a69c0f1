/-
  What the rows of law 12 list of package-level variables, as facts on the heap. No condition.
-/
import Derived.Test.YtpgohbnaphkngaaDoorRows
import Derived.Test.YtpgohbnaphkngaaDoorFin
import Derived.Test.YtpgohbnaphkngaaDoorTab
import Derived.Test.YtpgohbnaphkngaaDoorS
import Derived.Lay
import Derived.MakeChecks
import Derived.Deep.Strs
namespace Dm
open Go Go.RowKit Go.Proofs Go.ChangeShapes Go.WideShapes Go.ChangeAt

def rowD (x : Int × List UInt8 × List UInt8) : DataW Unit := .agg [.lit (.int .i64 x.1), .lit (.string x.2.1), .lit (.string x.2.2)]
def rowV (x : Int × List UInt8 × List UInt8) : List Value := [.int .i64 x.1, strV x.2.1, strV x.2.2]
theorem cells_recs {P : Program} {w : World} {base : Nat} {sp : Nat → Bool} {fuel : Nat} {t e ti ts1 ts2 : TypeId} {n : Nat} {n0 n1 n2 : String} {f0 f1 f2 : Field} {cs : List Value} {xs : List (Int × List UInt8 × List UInt8)} {p : List MemPlace}
    (_hn : n0 = n1 ∧ n1 = n2) (ht : P.underlying t = some (.array n e)) (he : P.underlying e = some (.struct #[f0, f1, f2])) (h0 : f0.type = ti ∧ f0.offset = 0) (h1 : f1.type = ts1 ∧ f1.offset = 1) (h2 : f2.type = ts2 ∧ f2.offset = 2)
    (hu0 : P.underlying ti = some (.int .i64)) (hu1 : P.underlying ts1 = some .string) (hu2 : P.underlying ts2 = some .string) (hc0 : P.cellsOf ti = 1) (hc1 : P.cellsOf ts1 = 1) (hc2 : P.cellsOf ts2 = 1) (hce : P.cellsOf e = 3) (hct : P.cellsOf t = n * 3)
    (h : DataW.trod (fun _ => ()) P w base sp false fuel t cs = some (.agg (xs.map rowD), p)) : cs = xs.flatMap rowV := by
  obtain ⟨ys, m, _, ex, hl, hyl, hel⟩ := DataW.trod_array ht h
  rw [hce] at hel
  rw [hct] at hl
  have e3 : ys.map (·.1) = xs.map rowD := (DataW.agg.inj (Prod.mk.inj ex).1).symm
  have hxl : xs.length = n := by
    have := congrArg List.length e3
    simp at this; omega
  have hsub : ∀ i (hi : i < xs.length), (cs.drop (i * 3)).take 3 = rowV xs[i] := fun i hi => by
    have hE := hel i (by omega)
    rw [List.getElem?_eq_getElem (by omega)] at hE
    obtain ⟨y0, y1, y2, k, hx, hlen, q0, q1, q2⟩ := Go.Deep.trod_struct3 he hE
    rw [h0.1, h0.2, hc0] at q0
    rw [h1.1, h1.2, hc1] at q1
    rw [h2.1, h2.2, hc2] at q2
    obtain ⟨z, a0, rfl, _⟩ := DataW.trod_int hu0 q0
    obtain ⟨s1, a1, rfl, _⟩ := DataW.trod_string hu1 q1
    obtain ⟨s2, a2, rfl, _⟩ := DataW.trod_string hu2 q2
    rw [hce] at hlen
    have e4 : (ys.map (·.1))[i]? = some (rowD xs[i]) := by rw [e3, List.getElem?_map, List.getElem?_eq_getElem hi]; rfl
    rw [List.getElem?_map, List.getElem?_eq_getElem (by omega), hx] at e4
    simp only [Option.map_some, Option.some.injEq, rowD, DataW.agg.injEq, List.cons.injEq, DataW.lit.injEq, Lit.int.injEq, Lit.string.injEq, true_and, and_true] at e4
    obtain ⟨rfl, b1, b2⟩ := e4
    generalize hq : (cs.drop (i * 3)).take 3 = q at *
    match q, hlen with
    | [u0, u1, u2], _ =>
      simp only [List.drop_zero, List.take_succ_cons, List.take_zero, List.cons.injEq, and_true, List.drop_succ_cons] at a0 a1 a2
      subst a0 a1 a2
      unfold rowV
      rw [← b1, ← b2]
      rfl
  have key : ∀ k, k ≤ xs.length → cs.take (k * 3) = (xs.take k).flatMap rowV := fun k => by
    induction k with
    | zero => intro _; simp
    | succ k ih =>
      intro hk
      rw [Nat.add_mul, Nat.one_mul, List.take_add, ih (by omega), hsub k (by omega), List.take_succ_eq_append_getElem (by omega), List.flatMap_append]
      simp
  have := key xs.length (Nat.le_refl _)
  rwa [List.take_length, List.take_of_length_le (by omega)] at this
theorem heap_of_var {P : Program} {w : World} {name : String} {g : Nat} {cs : Array Value} (hg : P.globalNamed name = some g) (h : w.var? P name = some cs) : ∃ T fz, w.heap[g]? = some (.cells cs T fz) := by
  unfold World.var? at h
  rw [hg, Option.bind_some] at h
  split at h
  · rename_i c T fz hh
    obtain rfl := Option.some.inj h
    exact ⟨T, fz, hh⟩
  · cases h
def L12 : List (String × DataW Unit) := [("math/bits.deBruijn32tab", YtpgohbnaphkngaaDoor.Rows.laid_math_bits_deBruijn32tab), ("math/bits.deBruijn64tab", YtpgohbnaphkngaaDoor.Rows.laid_math_bits_deBruijn64tab), ("internal/strconv.uint64pow10", YtpgohbnaphkngaaDoor.Rows.laid_internal_strconv_uint64pow10), ("unicode/utf8.acceptRanges", YtpgohbnaphkngaaDoor.Rows.laid_unicode_utf8_acceptRanges), ("dormouse/isa.ops", YtpgohbnaphkngaaDoor.Rows.laid_dormouse_isa_ops), ("unicode/utf8.first", YtpgohbnaphkngaaDoor.Rows.laid_unicode_utf8_first)]
theorem tabs12 {W : World} (h : laidMetH Tryd.prog L12 W) : (∃ T fz, W.heap[0]? = some (.cells (gx0.flatMap fun x => [.int .i64 x.1, strV x.2.1, strV x.2.2]).toArray T fz)) ∧ ∃ T fz, W.heap[2]? = some (.cells (Go.Lib.pow10Tab.map (Value.int .u64)).toArray T fz) := by
  rw [MakeChecks.laidMetH_plain _ _ _ (by kernel_rfl)] at h
  obtain ⟨ps, ⟨_, _, _, _, _, _, _, _, _, _, ⟨_, _, _, _, _, _, _, _, _, _, ⟨g2, t2, c2, f2, p2, q2, hg2, ht2, hv2, hd2, ⟨_, _, _, _, _, _, _, _, _, _, ⟨g0, t0, c0, f0, p0, q0, hg0, ht0, hv0, hd0, _⟩, _⟩, _⟩, _⟩, _⟩, _⟩ := h
  constructor
  · obtain rfl := Option.some.inj ((show Tryd.prog.globalNamed "dormouse/isa.ops" = some 0 by kernel_rfl).symm.trans hg0)
    obtain rfl := Option.some.inj ((show (Tryd.prog.globals[0]?).map (·.type) = some 84 by kernel_rfl).symm.trans ht0)
    have := cells_recs (xs := gx0) (n0 := "") (n1 := "") (n2 := "") ⟨rfl, rfl⟩ Tryd.underlying84 Tryd.underlying56 ⟨rfl, rfl⟩ ⟨rfl, rfl⟩ ⟨rfl, rfl⟩ Tryd.underlying3 Tryd.underlying9 Tryd.underlying9 (by kernel_rfl) (by kernel_rfl) (by kernel_rfl) (by kernel_rfl) (by kernel_rfl) hd0
    obtain ⟨T, fz, hh⟩ := heap_of_var hg0 hv0
    refine ⟨T, fz, ?_⟩
    have e : c0 = (gx0.flatMap fun x => [.int .i64 x.1, strV x.2.1, strV x.2.2]).toArray := by
      rw [show (gx0.flatMap fun x => [Value.int .i64 x.1, strV x.2.1, strV x.2.2]) = gx0.flatMap rowV from rfl, ← this]
    rw [hh, e]
  · obtain rfl := Option.some.inj ((show Tryd.prog.globalNamed "internal/strconv.uint64pow10" = some 2 by kernel_rfl).symm.trans hg2)
    obtain rfl := Option.some.inj ((show (Tryd.prog.globals[2]?).map (·.type) = some 114 by kernel_rfl).symm.trans ht2)
    have := Lib.cells_of_tab (zs := Lib.pow10Tab) Tryd.underlying114 Tryd.underlying25 (by kernel_rfl) (by kernel_rfl) hd2
    obtain ⟨T, fz, hh⟩ := heap_of_var hg2 hv2
    refine ⟨T, fz, ?_⟩
    have e : c2 = (Go.Lib.pow10Tab.map (Value.int .u64)).toArray := by
      rw [show (Go.Lib.pow10Tab.map (Value.int .u64)) = Go.Lib.pow10Tab.map (fun z => Value.int .u64 z) from rfl, ← this]
    rw [hh, e]
theorem max12 {W : World} (h : W.ShapedOpen Tryd.prog) : ∃ m, cellH (hp W) 1 0 = some (.int .i64 m) := by
  obtain ⟨m, hm⟩ := Tryd.laysM146.s1_3 W h
  exact ⟨m, cell_cellH rfl hm⟩
end Dm
