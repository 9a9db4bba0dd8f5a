/-
  DiskApart, the row: the law returns true for every input and leaves the old memory as it was.
-/
import Derived.Test.YtpppaohhnlgfoaaRows
import Derived.Test.YtpppaohhnlgfoaaRackA
import Derived.Test.YtpppaohhnlgfoaaOld
import Derived.Test.YtpppaohhnlgfoaaEnd
namespace Go.Proofs.Ytpppaohhnlgfoaa
open Go.Sl Go.ChangeShapes Go.WideShapes Go.ChangeAt Go.RowKit Go.ChangeMaps

theorem diskApart_own : ownKnob Try.prog.godebug = none := by kernel_rfl
theorem diskApart_laidOut : laidOutB Try.prog = true := by kernel_rfl

set_option maxRecDepth 100000 in
theorem diskApart_lifted (os : Os) (started : os.Started) (H : Type) (enc : TypeId × Value → H) :
    ReturnsInHanded {} Try.checked os 5 .any (Rows.diskApartSpec.pre6 enc Try.prog Try.f5 Rows.diskApartRow.domain false) (Rows.diskApartSpec.post enc Try.prog Try.f5 false true false false) := by
  refine returnsInHanded_of_change_sized (C := Try.checked) diskApart_own started (by kernel_rfl) Try.func5
    (ChangeSpec.witness6 (enc := enc) (C := Try.checked) false ⟨#[], #[.slice none 0 0, .slice none 0 0, .bool false, .slice none 0 0], []⟩ 8 (by kernel_rfl) (by kernel_rfl) (by kernel_rfl) (by kernel_rfl)) ?_
  intro W base args ds gs before hval0 hW _ hz _
  have hval : ∀ (j : Nat) t v, Try.f5.params[j]? = some t → args[j]? = some v → Value.okWide Try.prog W .any base t v := hval0
  have hW' := hW
  obtain ⟨p, q, hA0, hV, rfl, hfz, hnd⟩ := hW
  have hA : DataW.TrodAll enc Try.prog W 0 (fun _ => true) true Try.f5.params.toList args.toList ds p := hA0
  rw [Try.params5] at hA hval
  obtain ⟨v0, vs0, d0, ds0, p0, q0, hargs, rfl, rfl, h0, r0⟩ := trodAll_cons hA
  obtain ⟨v1, vs1, d1, ds1, p1, q1, rfl, rfl, rfl, h1, r1⟩ := trodAll_cons r0
  obtain ⟨v2, vs2, d2, ds2, p2, q2, rfl, rfl, rfl, h2, r2⟩ := trodAll_cons r1
  obtain ⟨v3, vs3, d3, ds3, p3, q3, rfl, rfl, rfl, h3, r3⟩ := trodAll_cons r2
  obtain ⟨rfl, rfl, rfl⟩ := trodAll_nil r3
  obtain rfl : args = #[v0, v1, v2, v3] := by cases args; simp_all
  obtain ⟨rfl, rfl⟩ := trodVars_none hV
  obtain ⟨⟨w0, a0⟩, e0, ad0, c0, x0, y0, z0, k0, g0⟩ := (dec_slice (s := 1) (sz := 1) Try.underlying32 (by kernel_rfl) (by decide) (by kernel_rfl) (dec_u8 Try.underlying5) (fun _ _ u hu => by rw [List.mem_singleton.1 hu]; rfl)).arg h0 (one_slice Try.underlying32 (hval 0 _ v0 rfl rfl)) hz (j := 0) rfl rfl
  obtain ⟨⟨w1, a1⟩, e1, ad1, c1, x1, y1, z1, k1, g1⟩ := (dec_slice (s := 1) (sz := 1) Try.underlying32 (by kernel_rfl) (by decide) (by kernel_rfl) (dec_u8 Try.underlying5) (fun _ _ u hu => by rw [List.mem_singleton.1 hu]; rfl)).arg h1 (one_slice Try.underlying32 (hval 1 _ v1 rfl rfl)) hz (j := 1) rfl rfl
  obtain ⟨a2, e2, g2⟩ := (dec_bool Try.underlying4).arg h2 (one_bool Try.underlying4 (hval 2 _ v2 rfl rfl)) hz (j := 2) rfl rfl
  obtain ⟨⟨w3, a3⟩, e3, ad3, c3, x3, y3, z3, k3, g3⟩ := (dec_slice (s := 1) (sz := 1) Try.underlying23 (by kernel_rfl) (by decide) (by kernel_rfl) (dec_bool Try.underlying4) (fun _ _ u hu => by rw [List.mem_singleton.1 hu]; rfl)).arg h3 (one_slice Try.underlying23 (hval 3 _ v3 rfl rfl)) hz (j := 3) rfl rfl
  simp only [List.cons.injEq, and_true] at e0 e1 e2 e3
  subst e0 e1 e2 e3
  simp only at x0 y0 z0 k0 g0
  rw [flat_byt] at k0
  simp only at x1 y1 z1 k1 g1
  rw [flat_byt] at k1
  simp only at x3 y3 z3 k3 g3
  refine Calls.mono (apart_walk (old W) _ a0 k0 (by omega) ⟨_, _, x0, y0⟩ _ a1 k1 (by omega) ⟨_, _, x1, y1⟩ a2 _ a3 k3 g3 (by omega) W (hp_old W)) fun e W' ⟨v, he, hv, hT⟩ => ?_
  subst he hv
  exact ⟨_, rfl, post_below diskApart_laidOut hW' rfl (by intro t ht; rw [Try.params5] at ht; simp at ht; rcases ht with rfl | rfl | rfl | rfl <;> exact ⟨by kernel_rfl, of_decide_eq_true (by kernel_rfl)⟩) rfl Try.underlying4 rfl (below_old hT)⟩

theorem diskApart_holds : Rows.DiskApartSaid :=
  OpenClaim.holds_of_wide 5 Try.f5 rfl rfl rfl rfl rfl rfl rfl ⟨rfl, rfl, rfl, rfl, rfl⟩ rfl rfl rfl rfl rfl (by kernel_rfl) Try.func5 (by kernel_rfl)
    (of_decide_eq_true (by kernel_rfl)) (by unfold Func.isWrapper; first | (rw [if_pos (by decide +kernel)]; kernel_rfl) | (rw [if_neg (by decide +kernel)]; exact ⟨rfl, rfl⟩))
    (fun os started H enc _ => diskApart_lifted os started H enc)

#print axioms diskApart_holds
end Go.Proofs.Ytpppaohhnlgfoaa
