/-
  The chapter's calls, as data; what a chain of calls lays down and takes up again.
-/
import Derived.Test.YtbnldjephphhhaaCodeA
import Derived.Test.YtbnldjephphhhaaEnd
import Derived.Test.YtbnldjephphhhaaOld
namespace Go.Sl
open Go.ChangeShapes Go.WideShapes Go.ChangeAt Go.RowKit Go.ChangeMaps

structure Cl where
  kind : Int
  n : Nat
  many : Int
  bv : Value
  b : List UInt8
  s : List UInt8

def Cl.lay (c : Cl) : List Value := [.int .i64 c.kind, .int .u64 c.n, .int .i64 c.many, c.bv, str c.s]
structure Cl.Ok (O : Chunk) (c : Cl) : Prop where
  kind : -9223372036854775808 ≤ c.kind ∧ c.kind ≤ 9223372036854775807
  n : c.n < 18446744073709551616
  many : -9223372036854775808 ≤ c.many ∧ c.many ≤ 9223372036854775807
  bv : ∃ ad cp, c.bv = .slice ad c.b.length cp
  rd : Rd O 1 c.bv c.b.length (byt c.b)
  bl : c.b.length ≤ 140737488351232
  sl : c.s.length ≤ 140737488351232

theorem Cl.lay_len (c : Cl) : c.lay.length = 5 := rfl
theorem Cl.lay_one {O : Chunk} {c : Cl} (h : c.Ok O) : ∀ u ∈ c.lay, u.oneCell' = true := by
  obtain ⟨ad, cp, e⟩ := h.bv
  intro u hu
  simp only [Cl.lay, e, List.mem_cons, List.not_mem_nil, or_false] at hu
  rcases hu with rfl | rfl | rfl | rfl | rfl <;> rfl

end Go.Sl

namespace Go.Proofs.Ytbnldjephphhhaa
open Go.Sl Go.ChangeShapes Go.WideShapes Go.ChangeAt Go.RowKit Go.ChangeMaps
theorem dec_call {H : Type} {enc : TypeId × Value → H} {w : World} : Dec enc Try.prog w 42 5 Cl.lay (Cl.Ok (old w)) := fun n cs x h hlen hw => by
  match cs, hlen with
  | [c0, c1, c2, c3, c4], _ =>
  have ki : Try.prog.cellsOf 3 = 1 := by kernel_rfl
  have ku : Try.prog.cellsOf 22 = 1 := by kernel_rfl
  have kb : Try.prog.cellsOf 27 = 1 := by kernel_rfl
  have ks : Try.prog.cellsOf 9 = 1 := by kernel_rfl
  have ht := Try.underlying42
  obtain ⟨kind, e0, h0⟩ := dec_field 0 0 ht h hw rfl ki (dec_i64 (enc := enc) Try.underlying3) (by simp)
  obtain ⟨nn, e1, h1⟩ := dec_field 1 1 ht h hw rfl ku (dec_u64 (enc := enc) Try.underlying22) (by simp)
  obtain ⟨many, e2, h2⟩ := dec_field 2 2 ht h hw rfl ki (dec_i64 (enc := enc) Try.underlying3) (by simp)
  obtain ⟨⟨bv, b⟩, e3, ad, c, hb1, hb2, hb3, hb4, -⟩ := dec_field 3 3 ht h hw rfl kb (dec_slice (enc := enc) (s := 1) (sz := 1) Try.underlying27 (by kernel_rfl) (by decide) (by kernel_rfl) (dec_u8 Try.underlying5) (fun _ _ u hu => by rw [List.mem_singleton.1 hu]; rfl)) (by simp)
  obtain ⟨s, e4, h4⟩ := dec_field 4 4 ht h hw rfl ks (dec_string (enc := enc) Try.underlying9) (by simp)
  simp only [List.drop_succ_cons, List.drop_zero, List.take_succ_cons, List.take_zero, List.cons.injEq, and_true] at e0 e1 e2 e3 e4
  subst e0 e1 e2 e3 e4
  simp only [flat_byt] at hb1 hb2 hb3 hb4
  exact ⟨⟨kind, nn, many, _, b, s⟩, rfl, ⟨h0, h1, h2, ⟨ad, c, hb1⟩, hb4, by simp only; omega, h4⟩⟩

end Go.Proofs.Ytbnldjephphhhaa
