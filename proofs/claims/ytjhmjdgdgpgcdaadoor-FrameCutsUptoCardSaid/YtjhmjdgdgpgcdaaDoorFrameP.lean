/-
  Requests as frames, plain.
-/
import Derived.Test.YtjhmjdgdgpgcdaaDoorShaE
namespace Go.Sl
def txtB (t : List UInt8) : List UInt8 := formOf t.length 2 ++ t
theorem txtB_length (t : List UInt8) : (txtB t).length = t.length + 2 := by simp [txtB, formOf_length]; omega
structure Rq where
  ses : Int
  id : Int
  verb : Int
  name : List UInt8
  item : List UInt8
  other : List UInt8
  path : List UInt8
  at_ : Int
  many : Int
  data : List UInt8
deriving DecidableEq
abbrev rqagg (r : Rq) (v : Value) : Value := .agg #[.int .i64 r.ses, .int .i64 r.id, .int .i64 r.verb, str r.name, str r.item, str r.other, str r.path, .int .i64 r.at_, .int .i64 r.many, v]
def Rq.strs (r : Rq) : List (List UInt8) := [r.name, r.item, r.other, r.path]
/-- May a request be? -/
def Rq.may (r : Rq) : Prop := 1 ≤ r.ses ∧ r.ses ≤ 8 ∧ 1 ≤ r.id ∧ r.id ≤ 1073741824 ∧ 1 ≤ r.verb ∧ r.verb ≤ 255 ∧ r.name.length ≤ 240 ∧ r.item.length ≤ 240 ∧ r.other.length ≤ 240 ∧ r.path.length ≤ 240 ∧ 0 ≤ r.at_ ∧ r.at_ ≤ 1099511627776 ∧ 0 ≤ r.many ∧ r.many ≤ 1099511627776 ∧ r.data.length ≤ 2048
instance (r : Rq) : Decidable r.may := by unfold Rq.may; infer_instance
/-- A request's body. -/
def rqB (r : Rq) : List UInt8 := formOf r.ses.toNat 1 ++ formOf r.id.toNat 4 ++ formOf r.verb.toNat 1 ++ r.strs.flatMap txtB ++ formOf r.at_.toNat 6 ++ formOf r.many.toNat 6 ++ (formOf r.data.length 2 ++ r.data)
theorem strs_len (r : Rq) : (r.strs.flatMap txtB).length = r.name.length + r.item.length + r.other.length + r.path.length + 8 := by
  simp [Rq.strs, txtB_length]; omega
theorem rqB_length (r : Rq) : (rqB r).length = 28 + r.name.length + r.item.length + r.other.length + r.path.length + r.data.length := by
  simp only [rqB, List.length_append, formOf_length, strs_len]; omega
/-- A kind and a body, with their length and sum. -/
def frm (x : List UInt8) : List UInt8 := formOf (x.length + 8) 4 ++ x ++ formOf (shaF x).a 8
theorem frm_length (x : List UInt8) : (frm x).length = x.length + 12 := by simp [frm, formOf_length]; omega
def rqO (r : Rq) : List UInt8 := if r.may then frm (1 :: rqB r) else []
def rqE (r : Rq) : Int := if r.may then 0 else 230
theorem rqO_yes {r : Rq} (h : r.may) : rqO r = frm (1 :: rqB r) := by simp [rqO, h]
theorem rqO_no {r : Rq} (h : ¬ r.may) : rqO r = [] := by simp [rqO, h]
theorem rqE_yes {r : Rq} (h : r.may) : rqE r = 0 := by simp [rqE, h]
theorem rqE_no {r : Rq} (h : ¬ r.may) : rqE r = 230 := by simp [rqE, h]
theorem rqB_small {r : Rq} (h : r.may) : (rqB r).length ≤ 3036 := by
  rw [rqB_length]; obtain ⟨_, _, _, _, _, _, h1, h2, h3, h4, _, _, _, _, h5⟩ := h; omega
theorem rqO_small (r : Rq) : (rqO r).length ≤ 3049 := by
  unfold rqO; split
  · rename_i h; rw [frm_length, List.length_cons]; have := rqB_small h; omega
  · simp
theorem text_fits {s : Wr} {t : List UInt8} (he : s.e = 0) (h1 : t.length ≤ 65535) (hr : s.bs.length + t.length + 2 ≤ s.room) : s.text t = { s with bs := s.bs ++ txtB t } := by
  have hf : s.fits (formOf t.length 2 ++ t) = true := by simp only [Wr.fits, List.length_append, formOf_length, decide_eq_true_eq]; omega
  simp [Wr.text, Wr.lay, textE, he, Wr.putE, Wr.putS, hf, show ¬ t.length > 65535 by omega, txtB]
theorem flat_take_succ {α : Type} (f : α → List UInt8) (l : List α) {i : Nat} (hi : i < l.length) : (l.take (i + 1)).flatMap f = (l.take i).flatMap f ++ f l[i] := by
  rw [← List.take_append_getElem hi, List.flatMap_append]; simp
theorem mem_perm {O : Chunk} {As : List Chunk} (h : O ∈ As) : ∃ Rs, As.Perm (O :: Rs) := by
  obtain ⟨s, t, rfl⟩ := List.append_of_mem h
  exact ⟨s ++ t, List.perm_middle⟩
theorem Tab.perm {As Bs : List Chunk} {g : Nat} {l : List Int} (h : Tab As g l) (p : As.Perm Bs) : Tab Bs g l := h.sub fun _ hC => p.mem_iff.1 hC
theorem p6 : (256 : Nat) ^ 6 = 281474976710656 := by decide
section
variable {P : Program} {a : Act} {o : Oper} {n : Nat} {e : List (Nat × Value)} {x y z u : Operand} {w : World}
theorem rn_max4 (E : Fr a n e) {ts : Array TypeId} {p q r s : Int} (ho : o.op = .call { callee := .builtin .max, args := #[x, y, z, u], argTypes := ts }) (hx : ev e x = some (.int .i64 p)) (hy : ev e y = some (.int .i64 q)) (hz : ev e z = some (.int .i64 r)) (hu : ev e u = some (.int .i64 s)) :
    RunsTo P o a w (.int .i64 (max (max (max p q) r) s)) w := by
  have h1 : ∀ p q : Int, (if p < q then q else p) = max p q := fun p q => by omega
  simp [RunsTo, execOp, ho, resolve, invoke, builtin, E.eval hx, E.eval hy, E.eval hz, E.eval hu, Builtin.max_, Builtin.max2, h1]
end
/-- A number by its remainders. -/
theorem form_step (n k : Nat) : formOf n (k + 1) = formOf n k ++ [UInt8.ofNat (n / 256 ^ k % 256)] := by
  rw [formOf, Nat.pow_mul]
  congr 2
  apply UInt8.toNat_inj.1
  simp
end Go.Sl
