/-
  CodeCut, the row: for every number, width, bytes, text and cut the law returns true and leaves the old memory as it was.
-/
import Derived.Test.YtbnldjephphhhaaCodeL3
namespace Go.Proofs.Ytbnldjephphhhaa
open Go.Sl Go.ChangeShapes Go.WideShapes Go.ChangeAt Go.RowKit Go.ChangeMaps

theorem cut_own : ownKnob Try.prog.godebug = none := by kernel_rfl
theorem cut_laidOut : laidOutB Try.prog = true := by kernel_rfl

set_option maxRecDepth 100000 in
theorem cut_lifted (os : Os) (started : os.Started) (H : Type) (enc : TypeId × Value → H) :
    ReturnsInHanded {} Try.checked os 8 .any (Rows.codeCutSpec.pre6 enc Try.prog Try.f8 Rows.codeCutRow.domain false) (Rows.codeCutSpec.post enc Try.prog Try.f8 false true false false) := by
  refine returnsInHanded_of_change_sized (C := Try.checked) cut_own started (by kernel_rfl) Try.func8
    (ChangeSpec.witness6 (enc := enc) (C := Try.checked) false ⟨#[], #[.int .u64 0, .int .i64 0, .slice none 0 0, .string ⟨#[]⟩, .int .i64 0], []⟩ 8 (by kernel_rfl) (by kernel_rfl) (by kernel_rfl) (by kernel_rfl)) ?_
  intro W base args ds gs before hval0 hW _ hz _
  have hval : ∀ (j : Nat) t v, Try.f8.params[j]? = some t → args[j]? = some v → Value.okWide Try.prog W .any base t v := hval0
  have hW' := hW
  obtain ⟨p, q, hA0, hV, rfl, hfz, hnd⟩ := hW
  have hA : DataW.TrodAll enc Try.prog W 0 (fun _ => true) true Try.f8.params.toList args.toList ds p := hA0
  rw [Try.params8] at hA hval
  obtain ⟨v0, vs0, d0, ds0, p0, q0, hargs, rfl, rfl, h0, r0⟩ := trodAll_cons hA
  obtain ⟨v1, vs1, d1, ds1, p1, q1, rfl, rfl, rfl, h1, r1⟩ := trodAll_cons r0
  obtain ⟨v2, vs2, d2, ds2, p2, q2, rfl, rfl, rfl, h2, r2⟩ := trodAll_cons r1
  obtain ⟨v3, vs3, d3, ds3, p3, q3, rfl, rfl, rfl, h3, r3⟩ := trodAll_cons r2
  obtain ⟨v4, vs4, d4, ds4, p4, q4, rfl, rfl, rfl, h4, r4⟩ := trodAll_cons r3
  obtain ⟨rfl, rfl, rfl⟩ := trodAll_nil r4
  obtain rfl : args = #[v0, v1, v2, v3, v4] := by cases args; simp_all
  obtain ⟨rfl, rfl⟩ := trodVars_none hV
  obtain ⟨n, e0, hn⟩ := (dec_u64 Try.underlying22).arg h0 (one_int Try.underlying22 (hval 0 _ v0 rfl rfl)) hz (j := 0) rfl rfl
  obtain ⟨k, e1, hk⟩ := (dec_i64 Try.underlying3).arg h1 (one_int Try.underlying3 (hval 1 _ v1 rfl rfl)) hz (j := 1) rfl rfl
  obtain ⟨⟨bv, b⟩, e2, ad, c, hb1, hb2, hb3, hb4, -⟩ := (dec_slice (s := 1) (sz := 1) Try.underlying27 (by kernel_rfl) (by decide) (by kernel_rfl) (dec_u8 Try.underlying5) (fun _ _ u hu => by rw [List.mem_singleton.1 hu]; rfl)).arg h2 (one_slice Try.underlying27 (hval 2 _ v2 rfl rfl)) hz (j := 2) rfl rfl
  obtain ⟨t, e3, ht⟩ := (dec_string Try.underlying9).arg h3 (one_string Try.underlying9 (hval 3 _ v3 rfl rfl)) hz (j := 3) rfl rfl
  obtain ⟨cut, e4, hcut⟩ := (dec_i64 Try.underlying3).arg h4 (one_int Try.underlying3 (hval 4 _ v4 rfl rfl)) hz (j := 4) rfl rfl
  simp only [List.cons.injEq, and_true] at e0 e1 e2 e3 e4
  subst e0 e1 e2 e3 e4
  simp only at hb1 hb2 hb3 hb4
  rw [flat_byt] at hb4
  refine Calls.mono (cut_walk n hn k (old W) _ b hb4 (by omega) t ht cut W (hp_old W)) fun e W' ⟨v, he, hv, hT⟩ => ?_
  subst he hv
  exact ⟨_, rfl, post_below cut_laidOut hW' rfl (by intro t ht; rw [Try.params8] at ht; simp at ht; rcases ht with rfl | rfl | rfl | rfl | rfl <;> exact ⟨by kernel_rfl, of_decide_eq_true (by kernel_rfl)⟩) rfl Try.underlying4 rfl (below_old hT)⟩

theorem cut_holds : Rows.CodeCutSaid :=
  OpenClaim.holds_of_wide 8 Try.f8 rfl rfl rfl rfl rfl rfl rfl ⟨rfl, rfl, rfl, rfl, rfl⟩ rfl rfl rfl rfl rfl (by kernel_rfl) Try.func8 (by kernel_rfl)
    (of_decide_eq_true (by kernel_rfl)) (by unfold Func.isWrapper; first | (rw [if_pos (by decide +kernel)]; kernel_rfl) | (rw [if_neg (by decide +kernel)]; exact ⟨rfl, rfl⟩))
    (fun os started H enc _ => cut_lifted os started H enc)

#print axioms cut_holds
end Go.Proofs.Ytbnldjephphhhaa
