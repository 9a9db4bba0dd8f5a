/-
  What the laid variables give: tables among the old memory.
-/
import Derived.Test.YtjhmjdgdgpgcdaaDoorRows
import Derived.Test.YtjhmjdgdgpgcdaaDoorOld
import Derived.Test.YtjhmjdgdgpgcdaaDoorShaS
import Derived.OpenShut
import Derived.MakeChecks
import Derived.FnData
namespace Go.Proofs.YtjhmjdgdgpgcdaaDoor
open Go.Sl Go.ChangeShapes Go.WideShapes Go.RowKit

theorem tab_of_var {P : Program} {W : World} {nm : String} {g m : Nat} {t e : TypeId} {cs : Array Value} {fuel : Nat} {p : List MemPlace} (l : List Int) (hg : P.globalNamed nm = some g) (ht : P.underlying t = some (.array m e)) (he : P.underlying e = some (.int .u32)) (ce : P.cellsOf e = 1) (ct : P.cellsOf t = l.length) (hm : m = l.length)
    (hv : W.var? P nm = some cs) (hd : DataW.trod (fun _ : TypeId × Value => ()) P W 0 (fun _ => true) false fuel t cs.toList = some (DataW.agg (l.map fun n => .lit (.int .u32 n)), p)) : Tab [old W] g l := by
  subst hm
  obtain ⟨xs, k, _, ex, hlen, hl, hel⟩ := DataW.trod_array ht hd
  rw [ct] at hlen
  have e3 : (xs.map (·.1)) = l.map fun n => (DataW.lit (.int .u32 n) : DataW Unit) := (DataW.agg.inj (Prod.mk.inj ex).1).symm
  have hcs : cs.toList = u32s l := by
    apply List.ext_getElem?
    intro i
    rcases Nat.lt_or_ge i l.length with hi | hi
    · have hE := hel i hi
      rw [ce, Nat.mul_one, List.getElem?_eq_getElem (by omega)] at hE
      obtain ⟨z, e1, e2, _⟩ := DataW.trod_int he hE
      have e4 : (xs.map (·.1))[i]? = (l.map fun n => (DataW.lit (.int .u32 n) : DataW Unit))[i]? := by rw [e3]
      rw [List.getElem?_map, List.getElem?_map, List.getElem?_eq_getElem (by omega : i < xs.length), List.getElem?_eq_getElem hi, e2] at e4
      simp only [Option.map_some, Option.some.injEq, DataW.lit.injEq, Lit.int.injEq, true_and] at e4
      have h0 : ((cs.toList.drop i).take 1)[0]? = some (.int .u32 z) := by rw [e1]; rfl
      have h1 : cs.toList[i]? = some (.int .u32 z) := by simpa using h0
      rw [h1, e4]
      simp [u32s, hi]
    · rw [List.getElem?_eq_none (by omega), List.getElem?_eq_none (by simp [u32s]; omega)]
  simp only [World.var?, hg, Option.bind_some] at hv
  split at hv
  · rename_i c T fr hh
    cases hv
    exact ⟨_, List.Mem.head _, T, fr, mem_old (by rw [← hcs]; simpa using hh)⟩
  · cases hv

theorem laid1 {W : World} (h : laidMetH Tryd.prog [("undercroft/sum.rounds", Rows.laid_undercroft_sum_rounds)] W) : Tab [old W] 2 shaK := by
  rw [MakeChecks.laidMetH_plain _ _ _ (by kernel_rfl)] at h
  obtain ⟨ps, ⟨g0, t0, cs0, f0, p0, q0, hg0, ht0, hv0, hd0, _, _⟩, _, _⟩ := h
  have a0 : Tryd.prog.globalNamed "undercroft/sum.rounds" = some 2 := by kernel_rfl
  obtain rfl := Option.some.inj (a0.symm.trans hg0)
  obtain rfl := Option.some.inj ((show (Tryd.prog.globals[(2 : Nat)]?).map (·.type) = some 128 by kernel_rfl).symm.trans ht0)
  exact tab_of_var shaK a0 Tryd.underlying128 Tryd.underlying122 (by kernel_rfl) (by kernel_rfl) (by kernel_rfl) hv0 hd0
/-- The three tables. -/
def Lay3 (O : Chunk) : Prop := Tab [O] 2 shaK ∧ Tab [O] 0 sha0.l ∧ Tab [O] 1 shaK
theorem laid3 {W : World} (h : laidMetH Tryd.prog [("undercroft/undercroftref02.first", Rows.laid_undercroft_undercroftref02_first), ("undercroft/undercroftref02.rounds", Rows.laid_undercroft_undercroftref02_rounds), ("undercroft/sum.rounds", Rows.laid_undercroft_sum_rounds)] W) : Lay3 (old W) := by
  rw [MakeChecks.laidMetH_plain _ _ _ (by kernel_rfl)] at h
  obtain ⟨ps, ⟨g0, t0, cs0, f0, p0, q0, hg0, ht0, hv0, hd0, ⟨g1, t1, cs1, f1, p1, q1, hg1, ht1, hv1, hd1, ⟨g2, t2, cs2, f2, p2, q2, hg2, ht2, hv2, hd2, _, _⟩, _⟩, _⟩, _, _⟩ := h
  have a0 : Tryd.prog.globalNamed "undercroft/undercroftref02.first" = some 0 := by kernel_rfl
  have a1 : Tryd.prog.globalNamed "undercroft/undercroftref02.rounds" = some 1 := by kernel_rfl
  have a2 : Tryd.prog.globalNamed "undercroft/sum.rounds" = some 2 := by kernel_rfl
  obtain rfl := Option.some.inj (a0.symm.trans hg0)
  obtain rfl := Option.some.inj (a1.symm.trans hg1)
  obtain rfl := Option.some.inj (a2.symm.trans hg2)
  obtain rfl := Option.some.inj ((show (Tryd.prog.globals[(0 : Nat)]?).map (·.type) = some 123 by kernel_rfl).symm.trans ht0)
  obtain rfl := Option.some.inj ((show (Tryd.prog.globals[(1 : Nat)]?).map (·.type) = some 128 by kernel_rfl).symm.trans ht1)
  obtain rfl := Option.some.inj ((show (Tryd.prog.globals[(2 : Nat)]?).map (·.type) = some 128 by kernel_rfl).symm.trans ht2)
  exact ⟨tab_of_var shaK a2 Tryd.underlying128 Tryd.underlying122 (by kernel_rfl) (by kernel_rfl) (by kernel_rfl) hv2 hd2,
    tab_of_var sha0.l a0 Tryd.underlying123 Tryd.underlying122 (by kernel_rfl) (by kernel_rfl) (by kernel_rfl) hv0 hd0,
    tab_of_var shaK a1 Tryd.underlying128 Tryd.underlying122 (by kernel_rfl) (by kernel_rfl) (by kernel_rfl) hv1 hd1⟩
end Go.Proofs.YtjhmjdgdgpgcdaaDoor
