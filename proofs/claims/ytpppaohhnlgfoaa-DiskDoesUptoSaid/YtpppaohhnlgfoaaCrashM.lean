/-
  DiskCrash: what its arguments say.
-/
import Derived.Test.YtpppaohhnlgfoaaCrashL
import Derived.Test.YtpppaohhnlgfoaaBulk
namespace Go.Proofs.Ytpppaohhnlgfoaa
open Go.Sl Go.ChangeShapes Go.WideShapes Go.ChangeAt Go.RowKit
set_option maxRecDepth 10000

theorem dec_dop {H : Type} {enc : TypeId × Value → H} {w : World} : Dec enc Try.prog w 34 6 Dop.lay (DopG (old w)) := fun n cs x h hlen hw => by
  match cs, hlen with
  | [c0, c1, c2, c3, c4, c5], _ =>
  have ki : Try.prog.cellsOf 3 = 1 := by kernel_rfl
  have kb : Try.prog.cellsOf 32 = 1 := by kernel_rfl
  have kt : Try.prog.cellsOf 23 = 1 := by kernel_rfl
  have ht := Try.underlying34
  obtain ⟨a0, e0, h0⟩ := dec_field 0 0 ht h hw rfl ki (dec_i64 (enc := enc) Try.underlying3) (by simp)
  obtain ⟨a1, e1, h1⟩ := dec_field 1 1 ht h hw rfl ki (dec_i64 (enc := enc) Try.underlying3) (by simp)
  obtain ⟨a2, e2, h2⟩ := dec_field 2 2 ht h hw rfl ki (dec_i64 (enc := enc) Try.underlying3) (by simp)
  obtain ⟨a3, e3, h3⟩ := dec_field 3 3 ht h hw rfl ki (dec_i64 (enc := enc) Try.underlying3) (by simp)
  obtain ⟨⟨v, bs⟩, e4, ad, c, f1, f2, f3, f4, f5⟩ := dec_field 4 4 ht h hw rfl kb (dec_slice (enc := enc) (s := 1) (sz := 1) Try.underlying32 (by kernel_rfl) (by decide) (by kernel_rfl) (dec_u8 Try.underlying5) (fun _ _ u hu => by rw [List.mem_singleton.1 hu]; rfl)) (by simp)
  obtain ⟨⟨v2, st⟩, e5, ad2, c2', g1, g2, g3, g4, g5⟩ := dec_field 5 5 ht h hw rfl kt (dec_slice (enc := enc) (s := 1) (sz := 1) Try.underlying23 (by kernel_rfl) (by decide) (by kernel_rfl) (dec_bool Try.underlying4) (fun _ _ u hu => by rw [List.mem_singleton.1 hu]; rfl)) (by simp)
  simp only [List.drop_succ_cons, List.drop_zero, List.take_succ_cons, List.take_zero, List.cons.injEq, and_true] at e0 e1 e2 e3 e4 e5
  subst e0 e1 e2 e3 e4 e5
  simp only at f1 f2 f3 f4 f5 g1 g2 g3 g4 g5
  rw [flat_byt] at f4
  rw [flat_bools] at g4
  exact ⟨⟨a0, a1, a2, a3, c4, bs, c5, st⟩, rfl, ⟨h2, h1, h3, f4, by show bs.length ≤ _; omega, ⟨ad, c, f1, f2⟩, g4, by show st.length ≤ _; omega, by show c4.oneCell' = true; rw [f1]; rfl, by show c5.oneCell' = true; rw [g1]; rfl⟩⟩
theorem map_one_sum {α : Type} (l : List α) : (l.map fun _ => 1).sum = l.length := by
  induction l with
  | nil => rfl
  | cons x r ih => rw [List.map_cons, List.sum_cons, ih, List.length_cons, Nat.add_comm]

theorem crash_upto (W : World) (X : Value × List Dop) (gX : OldS W 6 80 Dop.lay (DopG (old W)) X) (sX : (X.2.map fun _ => 1).sum + 1 ≤ 1048576) (Y : Value × List Dop) (gY : OldS W 6 80 Dop.lay (DopG (old W)) Y) (sY : (Y.2.map fun _ => 1).sum + 1 ≤ 1048576)
    (Z : Value × List Bool) (gZ : OldS W 1 1 (fun b : Bool => [.bool b]) (fun _ => True) Z) (sZ : (Z.2.map fun _ => 1).sum + 1 ≤ 1048576) :
    Ret Try.prog 3 #[X.1, Y.1, Z.1] W fun u w' => u = .bool true ∧ Trs W w' [old W] [old W] := by
  obtain ⟨vx, xs⟩ := X
  obtain ⟨vy, ys⟩ := Y
  obtain ⟨vz, zs⟩ := Z
  obtain ⟨_, _, _, _, _, hx, gx⟩ := gX
  obtain ⟨_, _, _, _, _, hy, gy⟩ := gY
  obtain ⟨_, _, _, _, _, hz, gz⟩ := gZ
  simp only [map_one_sum] at sX sY sZ
  simp only at hx hy hz gx gy
  rw [flat_bools] at hz
  exact crash_walk (old W) vx xs hx gx (by omega) vy ys hy gy (by omega) vz zs hz (by omega) W (hp_old W)
end Go.Proofs.Ytpppaohhnlgfoaa
