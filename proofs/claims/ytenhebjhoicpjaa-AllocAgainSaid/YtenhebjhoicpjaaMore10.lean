/-
  Results: a value and a struct in a cell.
-/
import Derived.Test.YtenhebjhoicpjaaMore9
namespace Go.Sl
section
variable {P : Program} {a : Act} {w : World} {n : Nat} {e : List (Nat × Value)} {fn : Func} {R : Ending → World → Prop}
theorem ret_tc (E : Fr a n e) {q t : Nat} {v : Value} {ty : TypeId} {b : Nat} {vs : List Value} {T : TypeId} {fr : Nat × Nat} (hr : fn.results = #[.tmp q, .cell t ty]) (hv : lk e q = some v) (hp : lk e t = some (.pointer (some ⟨b, 0, none⟩)))
    (hb : w.heap[b]? = some (.cells vs.toArray T fr)) (hs : aggSize P ty = some vs.length) (h : R (.returned (.tuple #[v, .agg vs.toArray])) w) : bodyPost P fn R .ret a w :=
  ⟨E.nod, .tuple #[v, .agg vs.toArray], by
    have h1 := run_cell_load (P := P) hb hs
    have h2 := E.get t _ hp
    have h4 := E.get q _ hv
    simp [results, hr, h2, h4, asAddr, h1], h⟩
end
theorem St.front7 {w0 w : World} {As Ls L1 L2 L3 L4 L5 L6 L7 : List Chunk} {A B C D F G I : Chunk} (S : St w0 As w Ls) (p : Ls.Perm (A :: L1)) (q : L1.Perm (B :: L2)) (r : L2.Perm (C :: L3)) (t : L3.Perm (D :: L4)) (u : L4.Perm (F :: L5)) (v : L5.Perm (G :: L6)) (x : L6.Perm (I :: L7)) : St w0 As w (A :: B :: C :: D :: F :: G :: I :: L7) := S.front6 p q r t u (v.trans (x.cons _))
end Go.Sl
