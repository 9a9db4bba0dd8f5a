/-
  Texts put together (17).
-/
import Derived.Test.YtidhehcjafoneaaGreatDoorZMirrorKeeps16
namespace Go.Proofs.YtidhehcjafoneaaGreatDoor
open Go.Sl
set_option maxRecDepth 10000
theorem flat_fst {α : Type} : ∀ (l : List (Value × α)), (l.flatMap fun x => [x.1]) = l.map (·.1)
  | [] => rfl
  | x :: r => by rw [List.flatMap_cons, flat_fst r]; rfl
abbrev LyB (z : UInt8) : List Value := [.int .u8 z.toNat]
theorem olds_one {W : World} {s sz : Nat} {α : Type} {lay : α → List Value} {good : α → Prop} {x : Value × List α} (h : OldS W s sz lay good x) {u : Value} (hu : u ∈ [x.1]) : u.oneCell' = true := by
  obtain ⟨_, _, h1, _⟩ := h
  rw [List.mem_singleton.1 hu, h1]; rfl
abbrev I64 (z : Int) : Prop := -9223372036854775808 ≤ z ∧ z ≤ 9223372036854775807
theorem keeps_row (W : World) (hL : Lay3 (old W)) (n : Int) (_ : I64 n) (k : Int) (_ : I64 k) (at_ : Int) (ha : I64 at_) (v3 : Value) (b : List UInt8) (hO3 : Rd (old W) 1 v3 b.length (byt b)) (hl3 : b.length ≤ 140737488352000) (kind : Int) (_ : I64 kind)
    (v5 : Value) (ms : List (Value × List UInt8)) (hO5 : Rd (old W) 1 v5 ms.length (ms.flatMap fun x => [x.1])) (hg5 : ∀ x ∈ ms, OldS W 1 1 LyB (fun _ => True) x) (_hl5 : ms.length ≤ 140737488352000)
    (v6 : Value) (ds : List Bool) (hO6 : Rd (old W) 1 v6 ds.length (ds.flatMap fun z => [Value.bool z])) (_hg6 : ∀ z ∈ ds, True) (_hl6 : ds.length ≤ 140737488352000) (w0 : World) (H : Hp w0 [old W]) :
    Ret Tryz.prog 3 #[.int .i64 n, .int .i64 k, .int .i64 at_, v3, .int .i64 kind, v5, v6] w0 fun u w' => u = .bool true ∧ Trs w0 w' [old W] [old W] := by
  rw [flat_fst] at hO5
  rw [flat_bools] at hO6
  refine keeps_walk (old W) hL n k at_ ha v3 b hO3 hl3 kind v5 ms ⟨hO5, fun x hx => ?_⟩ v6 ds hO6 w0 H
  obtain ⟨ad, c, -, h2, h3, h4, h5⟩ := hg5 x hx
  rw [show (x.2.flatMap LyB) = byt x.2 from flat_byt x.2] at h4
  exact h4
end Go.Proofs.YtidhehcjafoneaaGreatDoor
