/- The two tables as the rows list them: what a law may take of the memory it begins in. -/
import Derived.Test.YtikhgdbbbingbaaDoorRows
import Derived.Test.YtikhgdbbbingbaaDoorTrigAwake
import Derived.ProofKit
import Derived.OpenShut
import Derived.LaidMore
import Derived.MakeChecks
import Derived.Stop.Joined
namespace Go.Proofs.YtikhgdbbbingbaaDoor.Tg
open Go Go.RowKit Go.ChangeShapes Go.WideShapes Go.ChangeAt
set_option linter.unusedVariables false

theorem own : ownKnob Tryd.prog.godebug = none := by kernel_rfl

theorem arr_reads {H : Type} {enc : TypeId × Value → H} {W : World} {base : Nat} {sp : Nat → Bool} {held : Bool} {fuel : Nat} {T E : TypeId} {n : Nat} {k : IntKind} {cs : Array Value} {p : List MemPlace}
    (hT : Tryd.prog.underlying T = some (.array n E)) (hE : Tryd.prog.underlying E = some (.int k)) (cE : Tryd.prog.cellsOf E = 1) (vals : List Int) (hl : vals.length = n)
    (hd : DataW.trod enc Tryd.prog W base sp held fuel T cs.toList = some (.agg (vals.map fun z => .lit (.int k z)), p)) : ∀ i, i < n → cs[i]? = some (.int k (vals.getD i 0)) := by
  intro i hi
  obtain ⟨xs, m, rfl, hx, hlen, hn, hel⟩ := DataW.trod_array hT hd
  have h1 := hel i hi
  have hxi : i < xs.length := by omega
  rw [cE, Nat.mul_one, List.getElem?_eq_getElem hxi] at h1
  obtain ⟨z, e1, e2, _⟩ := DataW.trod_int hE h1
  simp only [Prod.mk.injEq, DataW.agg.injEq] at hx
  have h2 : (vals.map fun z => (DataW.lit (.int k z) : DataW H))[i]? = (xs.map (·.1))[i]? := by rw [hx.1]
  rw [List.getElem?_map, List.getElem?_map, List.getElem?_eq_getElem hxi, List.getElem?_eq_getElem (show i < vals.length by omega), e2] at h2
  simp only [Option.map_some, Option.some.injEq, DataW.lit.injEq, Lit.int.injEq, true_and] at h2
  have h3 : (cs.toList.drop i)[0]? = some (.int k z) := by
    have : ((cs.toList.drop i).take 1)[0]? = some (.int k z) := by rw [e1]; rfl
    rwa [List.getElem?_take_of_lt (by omega)] at this
  rw [List.getElem?_drop, Nat.add_zero, Array.getElem?_toList] at h3
  have h4 : vals.getD i 0 = vals[i]'(show i < vals.length by omega) := by rw [List.getD_eq_getElem?_getD, List.getElem?_eq_getElem (show i < vals.length by omega)]; rfl
  rw [h3, ← h2]
  exact congrArg (fun x => some (Value.int k x)) h4.symm

theorem gS : Tryd.prog.globalNamed "bivouac/trig.sines" = some 0 := by kernel_rfl
theorem gQ : Tryd.prog.globalNamed "bivouac/bivouacref03.quarter" = some 1 := by kernel_rfl
theorem tS : (Tryd.prog.globals[0]?).map (·.type) = some 42 := by kernel_rfl
theorem tQ : (Tryd.prog.globals[1]?).map (·.type) = some 47 := by kernel_rfl
theorem c32 : Tryd.prog.cellsOf 21 = 1 := by kernel_rfl
theorem cInt : Tryd.prog.cellsOf 3 = 1 := by kernel_rfl
theorem size_of_cell {w : World} {b o : Nat} {v : Value} (h : w.cell? ⟨b, o, none⟩ = some v) : b < w.heap.size := by
  rcases Nat.lt_or_ge b w.heap.size with h1 | h1
  · exact h1
  · simp [World.cell?, Array.getElem?_eq_none h1] at h

theorem tab_of_cells {W : World} {cs : Array Value} (h2 : 0 < W.heap.size) (hv : W.var? Tryd.prog "bivouac/trig.sines" = some cs) (h : ∀ i, i < 65 → cs[i]? = some (.int .i32 (Tr.tab.getD i 0))) : Tab W :=
  ⟨h2, fun i hi => by rw [World.var?_cell gS hv i]; exact h i hi⟩
theorem tabR_of_cells {W : World} {cs : Array Value} (h2 : 1 < W.heap.size) (hv : W.var? Tryd.prog "bivouac/bivouacref03.quarter" = some cs) (h : ∀ i, i < 65 → cs[i]? = some (.int .i64 (Tr.tab.getD i 0))) : TabR W :=
  ⟨h2, fun i hi => by rw [World.var?_cell gQ hv i]; exact h i hi⟩

def laidS : List (String × DataW Unit) := [("bivouac/trig.sines", Rows.laid_bivouac_trig_sines)]
def laidQS : List (String × DataW Unit) := [("bivouac/bivouacref03.quarter", Rows.laid_bivouac_bivouacref03_quarter), ("bivouac/trig.sines", Rows.laid_bivouac_trig_sines)]

theorem tabs_of_laid {W : World} (h : laidMetH Tryd.prog laidQS W) : Tab W ∧ TabR W := by
  rw [MakeChecks.laidMetH_plain _ _ _ (by kernel_rfl)] at h
  obtain ⟨ps, ⟨g0, t0, cs0, f0, p0, q0, hg0, ht0, hv0, hd0, ⟨g1, t1, cs1, f1, p1, q1, hg1, ht1, hv1, hd1, _, _⟩, _⟩, _, _⟩ := h
  obtain rfl := Option.some.inj (gQ.symm.trans hg0)
  obtain rfl := Option.some.inj (gS.symm.trans hg1)
  obtain rfl := Option.some.inj (tQ.symm.trans ht0)
  obtain rfl := Option.some.inj (tS.symm.trans ht1)
  have a0 := arr_reads Tryd.underlying47 Tryd.underlying3 cInt Tr.tab (by decide) hd0
  have a1 := arr_reads Tryd.underlying42 Tryd.underlying21 c32 Tr.tab (by decide) hd1
  have hs : 1 < W.heap.size := size_of_cell ((World.var?_cell gQ hv0 0).trans (a0 0 (by omega)))
  have hs' : 0 < W.heap.size := size_of_cell ((World.var?_cell gS hv1 0).trans (a1 0 (by omega)))
  exact ⟨tab_of_cells hs' hv1 a1, tabR_of_cells hs hv0 a0⟩

theorem tab_of_laid {W : World} (h : laidMetH Tryd.prog laidS W) : Tab W := by
  rw [MakeChecks.laidMetH_plain _ _ _ (by kernel_rfl)] at h
  obtain ⟨ps, ⟨g1, t1, cs1, f1, p1, q1, hg1, ht1, hv1, hd1, _, _⟩, _, _⟩ := h
  obtain rfl := Option.some.inj (gS.symm.trans hg1)
  obtain rfl := Option.some.inj (tS.symm.trans ht1)
  have a1 := arr_reads Tryd.underlying42 Tryd.underlying21 c32 Tr.tab (by decide) hd1
  exact tab_of_cells (size_of_cell ((World.var?_cell gS hv1 0).trans (a1 0 (by omega)))) hv1 a1
end Go.Proofs.YtikhgdbbbingbaaDoor.Tg
