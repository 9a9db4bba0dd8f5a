/-
  Results, some of them in cells.
-/
import Derived.Test.YtenhebjhoicpjaaStr
namespace Go.Sl
section
variable {P : Program} {a : Act} {w : World} {n : Nat} {e : List (Nat × Value)} {fn : Func} {R : Ending → World → Prop}
theorem ret_tct (E : Fr a n e) {q t s : Nat} {v x : Value} {ty : TypeId} {b : Nat} {vs : List Value} {T : TypeId} {fr : Nat × Nat} (hr : fn.results = #[.tmp q, .cell t ty, .tmp s]) (hv : lk e q = some v) (hp : lk e t = some (.pointer (some ⟨b, 0, none⟩))) (hx : lk e s = some x)
    (hb : w.heap[b]? = some (.cells vs.toArray T fr)) (hs : aggSize P ty = some vs.length) (h : R (.returned (.tuple #[v, .agg vs.toArray, x])) w) : bodyPost P fn R .ret a w :=
  ⟨E.nod, .tuple #[v, .agg vs.toArray, x], by
    have h1 := run_cell_load (P := P) hb hs
    have h2 := E.get t _ hp
    have h3 := E.get s _ hx
    have h4 := E.get q _ hv
    simp [results, hr, h2, h3, h4, asAddr, h1], h⟩
theorem ret_ctct (E : Fr a n e) {q t t2 s : Nat} {v x : Value} {ty ty2 : TypeId} {b b2 : Nat} {vs us : List Value} {T T2 : TypeId} {fr fr2 : Nat × Nat} (hr : fn.results = #[.cell t ty, .tmp q, .cell t2 ty2, .tmp s]) (hp : lk e t = some (.pointer (some ⟨b, 0, none⟩))) (hv : lk e q = some v)
    (hp2 : lk e t2 = some (.pointer (some ⟨b2, 0, none⟩))) (hx : lk e s = some x)
    (hb : w.heap[b]? = some (.cells vs.toArray T fr)) (hs : aggSize P ty = some vs.length) (hb2 : w.heap[b2]? = some (.cells us.toArray T2 fr2)) (hs2 : aggSize P ty2 = some us.length) (h : R (.returned (.tuple #[.agg vs.toArray, v, .agg us.toArray, x])) w) : bodyPost P fn R .ret a w :=
  ⟨E.nod, .tuple #[.agg vs.toArray, v, .agg us.toArray, x], by
    have h1 := run_cell_load (P := P) hb hs
    have h1' := run_cell_load (P := P) hb2 hs2
    have h2 := E.get t _ hp
    have h2' := E.get t2 _ hp2
    have h3 := E.get s _ hx
    have h4 := E.get q _ hv
    simp [results, hr, h2, h2', h3, h4, asAddr, h1, h1'], h⟩
end
section
variable {w0 w : World} {As Ls : List Chunk} {C D : Chunk}
/-- What lies between is let go. -/
theorem St.drops (pre : List Chunk) (S : St w0 As w (C :: (pre ++ Ls))) : St w0 As w (C :: Ls) :=
  S.only (Bs := C :: Ls) (Rs := pre) (by
    show (C :: (pre ++ Ls)).Perm ((C :: Ls) ++ pre)
    exact (List.perm_append_comm).cons C)
theorem St.drops0 (pre : List Chunk) (S : St w0 As w (pre ++ Ls)) : St w0 As w Ls :=
  S.only (Bs := Ls) (Rs := pre) (List.perm_append_comm)
theorem St.drops2 (pre : List Chunk) (S : St w0 As w (C :: D :: (pre ++ Ls))) : St w0 As w (C :: D :: Ls) :=
  S.only (Bs := C :: D :: Ls) (Rs := pre) (by
    show (C :: D :: (pre ++ Ls)).Perm ((C :: D :: Ls) ++ pre)
    exact ((List.perm_append_comm).cons D).cons C)
end
end Go.Sl
