/-
  Texts put together (7).
-/
import Derived.Test.YtbogecljkaimdaaGreatDoorZRecordBack6
namespace Go.Sl
theorem bare1 {r : Rec} (h : r.kind = 1) : zDq r = { r with name := [], many := 0 } := by simp [zDq, h]
theorem bare2 {r : Rec} (h : r.kind = 2) : zDq r = { r with name := [], typ := 0, frm := 0, guid := 0, origin := 0, snap := [], props := [] } := by simp [zDq, h]
theorem bare3 {r : Rec} (h : r.kind = 3) : zDq r = { r with keep := [] } := by simp [zDq, h]
theorem bare4 {r : Rec} (h : r.kind = 4) : zDq r = { r with object := 0, keep := [] } := by simp [zDq, h]
theorem bare5 {r : Rec} (h : r.kind = 5) : zDq r = { r with object := 0, at_ := 0, data := [] } := by simp [zDq, h]
theorem zLh {r : Rec} (h1 : r.kind ≠ 1) (h2 : r.kind ≠ 2) (h3 : r.kind ≠ 3) (h4 : r.kind ≠ 4) (h5 : r.kind ≠ 5) : zDq r = { r with many := 0 } := by simp [zDq, h1, h2, h3, h4, h5]
theorem Sml.bare {r : Rec} (h : Sml r) : Sml (zDq r) := by
  obtain ⟨h1, h2, h3, h4, h5, h6⟩ := h
  unfold zDq
  repeat' split
  all_goals constructor <;> first | assumption | (simp; done)
end Go.Sl
namespace Go.Proofs.YtbogecljkaimdaaGreatDoor
open Go.Sl
set_option maxRecDepth 10000
theorem bare_ret {C : zAs} {r : Rec} {pv kv dv : Value} (hR : RecR C r pv kv dv) {As : List zAs} (w0 : World) (H : Hp w0 As) :
    Ret Tryz.prog 27 #[.agg (r.cells pv kv dv).toArray] w0 fun u w' => ∃ pv' kv' dv', u = .agg ((zDq r).cells pv' kv' dv').toArray ∧ RecR C (zDq r) pv' kv' dv' ∧ Trs w0 w' As As := by
  have S := St.begin H
  obtain ⟨ad1, c1, rfl⟩ := hR.pr.slice
  obtain ⟨ad2, c2, rfl⟩ := hR.kr.slice
  obtain ⟨ad3, c3, rfl⟩ := hR.dr.slice
  refine zDh 32 Tryz.func27 rfl rfl (by decide) ?_; intro a E
  refine wp_seq_k ?_; intro K hK
  refine zAa ?_
  refine zAm rfl (zCk E S rfl rfl (by decide) rfl rfl ?_); clear E S a; intro a w b1 E S
  refine zAm rfl (zBr E S rfl rfl (by decide) rfl rfl rfl ?_); clear E S a; intro a w b2 E S
  refine wpList_nil ?_
  refine zAf hK ?_; clear hK; clear K
  iterate 2 (refine wp_seq_k ?_; intro K hK)
  refine zAa ?_
  refine zp E (by first | exact zAg (q := 0) E rfl rfl rfl | exact zAh (q := 0) E rfl rfl rfl) ?_; clear E a; intro a E
  refine zp E (by first | exact zAq E rfl rfl rfl (S.get (by repeat (first | exact pk1 | apply zAc))) rfl | exact zAl E rfl rfl rfl (by assumption)) ?_; clear E a; intro a E
  refine wpList_nil ?_
  refine zAf hK ?_; clear hK; clear K
  refine wp_block ?_
  refine wp_seq_k ?_; intro K hK
  refine zAa ?_
  refine zp E (by first | exact zCe E rfl rfl rfl | exact zAt E rfl rfl rfl rfl | exact zAz E rfl rfl rfl rfl | exact zAu E rfl rfl rfl) ?_; clear E a; intro a E
  refine zp E (zAe E rfl rfl) ?_; clear E a; intro a E
  refine wpList_nil ?_
  refine zAf hK ?_; clear hK; clear K
  refine zBj E rfl (fun hb => ?_) (fun hb => ?_)
  · replace hb := Nrm.nrm hb
    have k1 := hb
    refine zAa ?_
    refine zp E (by first | exact zAg (q := 1) E rfl rfl rfl | exact zAh (q := 1) E rfl rfl rfl) ?_; clear E a; intro a E
    refine zAm rfl (zBk E S rfl rfl rfl rfl rfl rfl (by repeat (first | exact pk1 | apply zAc)) (by first | exact Nat.le_of_ble_eq_true rfl | (simp; done) | (simp; omega)) ?_); clear E S a; intro a w E S; try dsimp only [List.set] at S
    refine zp E (by first | exact zAg (q := 10) E rfl rfl rfl | exact zAh (q := 10) E rfl rfl rfl) ?_; clear E a; intro a E
    refine zAm rfl (zBk E S rfl rfl rfl rfl rfl rfl (by repeat (first | exact pk1 | apply zAc)) (by first | exact Nat.le_of_ble_eq_true rfl | (simp; done) | (simp; omega)) ?_); clear E S a; intro a w E S; try dsimp only [List.set] at S
    refine wpList_nil ?_
    refine zBo ?_
    refine zAf hK ?_; clear hK; clear K
    refine wp_seq_k ?_; intro K hK
    refine zAa ?_
    refine zp E (zBq (vs := [_, _, _, _, _, _, _, _, _, _, _, _, _]) E rfl rfl rfl (S.get (by repeat (first | exact pk1 | apply zAc))) rfl rfl) ?_; clear E a; intro a E
    refine zAm rfl (zBd E S rfl rfl rfl rfl (by simp [Value.oneCell']) rfl (by repeat (first | exact pk1 | apply zAc)) (by simp) ?_); clear E S a; intro a w E S; simp only [List.take_succ_cons, List.take_zero, List.drop_succ_cons, List.drop_zero, List.cons_append, List.nil_append, List.append_nil, List.length_cons, List.length_nil, Nat.zero_add, Nat.add_zero] at S
    refine wpList_nil ?_
    refine zAf hK ?_; clear hK; clear K
    refine wp_ret ?_
    refine zIi E rfl rfl (S.get (by repeat (first | exact pk1 | apply zAc))) rfl ?_
    have S := S.tail2
    first
      | (rw [bare1 k1]; exact ⟨_, rfl, _, _, _, rfl, ⟨hR.pr, hR.kr, hR.dr⟩, S.tr⟩)
      | (rw [bare2 k2]; exact ⟨_, rfl, _, _, _, rfl, ⟨Rd.nil _ _, hR.kr, hR.dr⟩, S.tr⟩)
      | (rw [bare3 k3]; exact ⟨_, rfl, _, _, _, rfl, ⟨hR.pr, Rd.nil _ _, hR.dr⟩, S.tr⟩)
      | (rw [bare4 k4]; exact ⟨_, rfl, _, _, _, rfl, ⟨hR.pr, Rd.nil _ _, hR.dr⟩, S.tr⟩)
      | (rw [bare5 k5]; exact ⟨_, rfl, _, _, _, rfl, ⟨hR.pr, hR.kr, Rd.nil _ _⟩, S.tr⟩)
      | (rw [zLh k1 k2 k3 k4 k5]; exact ⟨_, rfl, _, _, _, rfl, ⟨hR.pr, hR.kr, hR.dr⟩, S.tr⟩)
  · replace hb := Nrm.nrm hb
    have k1 := hb
    refine wp_seq_k ?_; intro K hK
    refine zAa ?_
    refine zp E (by first | exact zCe E rfl rfl rfl | exact zAt E rfl rfl rfl rfl | exact zAz E rfl rfl rfl rfl | exact zAu E rfl rfl rfl) ?_; clear E a; intro a E
    refine zp E (zAe E rfl rfl) ?_; clear E a; intro a E
    refine wpList_nil ?_
    refine zAf hK ?_; clear hK; clear K
    refine zBj E rfl (fun hb => ?_) (fun hb => ?_)
    · replace hb := Nrm.nrm hb
      have k2 := hb
      refine zAa ?_
      refine zp E (by first | exact zAg (q := 1) E rfl rfl rfl | exact zAh (q := 1) E rfl rfl rfl) ?_; clear E a; intro a E
      refine zAm rfl (zBk E S rfl rfl rfl rfl rfl rfl (by repeat (first | exact pk1 | apply zAc)) (by first | exact Nat.le_of_ble_eq_true rfl | (simp; done) | (simp; omega)) ?_); clear E S a; intro a w E S; try dsimp only [List.set] at S
      refine zp E (by first | exact zAg (q := 2) E rfl rfl rfl | exact zAh (q := 2) E rfl rfl rfl) ?_; clear E a; intro a E
      refine zAm rfl (zBk E S rfl rfl rfl rfl rfl rfl (by repeat (first | exact pk1 | apply zAc)) (by first | exact Nat.le_of_ble_eq_true rfl | (simp; done) | (simp; omega)) ?_); clear E S a; intro a w E S; try dsimp only [List.set] at S
      refine zp E (by first | exact zAg (q := 3) E rfl rfl rfl | exact zAh (q := 3) E rfl rfl rfl) ?_; clear E a; intro a E
      refine zAm rfl (zBk E S rfl rfl rfl rfl rfl rfl (by repeat (first | exact pk1 | apply zAc)) (by first | exact Nat.le_of_ble_eq_true rfl | (simp; done) | (simp; omega)) ?_); clear E S a; intro a w E S; try dsimp only [List.set] at S
      refine zp E (by first | exact zAg (q := 4) E rfl rfl rfl | exact zAh (q := 4) E rfl rfl rfl) ?_; clear E a; intro a E
      refine zAm rfl (zBk E S rfl rfl rfl rfl rfl rfl (by repeat (first | exact pk1 | apply zAc)) (by first | exact Nat.le_of_ble_eq_true rfl | (simp; done) | (simp; omega)) ?_); clear E S a; intro a w E S; try dsimp only [List.set] at S
      refine zp E (by first | exact zAg (q := 5) E rfl rfl rfl | exact zAh (q := 5) E rfl rfl rfl) ?_; clear E a; intro a E
      refine zAm rfl (zBk E S rfl rfl rfl rfl rfl rfl (by repeat (first | exact pk1 | apply zAc)) (by first | exact Nat.le_of_ble_eq_true rfl | (simp; done) | (simp; omega)) ?_); clear E S a; intro a w E S; try dsimp only [List.set] at S
      refine zp E (by first | exact zAg (q := 6) E rfl rfl rfl | exact zAh (q := 6) E rfl rfl rfl) ?_; clear E a; intro a E
      refine zAm rfl (zBk E S rfl rfl rfl rfl rfl rfl (by repeat (first | exact pk1 | apply zAc)) (by first | exact Nat.le_of_ble_eq_true rfl | (simp; done) | (simp; omega)) ?_); clear E S a; intro a w E S; try dsimp only [List.set] at S
      refine zp E (by first | exact zAg (q := 7) E rfl rfl rfl | exact zAh (q := 7) E rfl rfl rfl) ?_; clear E a; intro a E
      refine zAm rfl (zBk E S rfl rfl rfl rfl rfl rfl (by repeat (first | exact pk1 | apply zAc)) (by first | exact Nat.le_of_ble_eq_true rfl | (simp; done) | (simp; omega)) ?_); clear E S a; intro a w E S; try dsimp only [List.set] at S
      refine wpList_nil ?_
      refine zBo ?_
      refine zAf hK ?_; clear hK; clear K
      refine wp_seq_k ?_; intro K hK
      refine zAa ?_
      refine zp E (zBq (vs := [_, _, _, _, _, _, _, _, _, _, _, _, _]) E rfl rfl rfl (S.get (by repeat (first | exact pk1 | apply zAc))) rfl rfl) ?_; clear E a; intro a E
      refine zAm rfl (zBd E S rfl rfl rfl rfl (by simp [Value.oneCell']) rfl (by repeat (first | exact pk1 | apply zAc)) (by simp) ?_); clear E S a; intro a w E S; simp only [List.take_succ_cons, List.take_zero, List.drop_succ_cons, List.drop_zero, List.cons_append, List.nil_append, List.append_nil, List.length_cons, List.length_nil, Nat.zero_add, Nat.add_zero] at S
      refine wpList_nil ?_
      refine zAf hK ?_; clear hK; clear K
      refine wp_ret ?_
      refine zIi E rfl rfl (S.get (by repeat (first | exact pk1 | apply zAc))) rfl ?_
      have S := S.tail2
      first
        | (rw [bare1 k1]; exact ⟨_, rfl, _, _, _, rfl, ⟨hR.pr, hR.kr, hR.dr⟩, S.tr⟩)
        | (rw [bare2 k2]; exact ⟨_, rfl, _, _, _, rfl, ⟨Rd.nil _ _, hR.kr, hR.dr⟩, S.tr⟩)
        | (rw [bare3 k3]; exact ⟨_, rfl, _, _, _, rfl, ⟨hR.pr, Rd.nil _ _, hR.dr⟩, S.tr⟩)
        | (rw [bare4 k4]; exact ⟨_, rfl, _, _, _, rfl, ⟨hR.pr, Rd.nil _ _, hR.dr⟩, S.tr⟩)
        | (rw [bare5 k5]; exact ⟨_, rfl, _, _, _, rfl, ⟨hR.pr, hR.kr, Rd.nil _ _⟩, S.tr⟩)
        | (rw [zLh k1 k2 k3 k4 k5]; exact ⟨_, rfl, _, _, _, rfl, ⟨hR.pr, hR.kr, hR.dr⟩, S.tr⟩)
    · replace hb := Nrm.nrm hb
      have k2 := hb
      refine wp_seq_k ?_; intro K hK
      refine zAa ?_
      refine zp E (by first | exact zCe E rfl rfl rfl | exact zAt E rfl rfl rfl rfl | exact zAz E rfl rfl rfl rfl | exact zAu E rfl rfl rfl) ?_; clear E a; intro a E
      refine zp E (zAe E rfl rfl) ?_; clear E a; intro a E
      refine wpList_nil ?_
      refine zAf hK ?_; clear hK; clear K
      refine zBj E rfl (fun hb => ?_) (fun hb => ?_)
      · replace hb := Nrm.nrm hb
        have k3 := hb
        refine zAa ?_
        refine zp E (by first | exact zAg (q := 11) E rfl rfl rfl | exact zAh (q := 11) E rfl rfl rfl) ?_; clear E a; intro a E
        refine zAm rfl (zBk E S rfl rfl rfl rfl rfl rfl (by repeat (first | exact pk1 | apply zAc)) (by first | exact Nat.le_of_ble_eq_true rfl | (simp; done) | (simp; omega)) ?_); clear E S a; intro a w E S; try dsimp only [List.set] at S
        refine wpList_nil ?_
        refine zBo ?_
        refine zAf hK ?_; clear hK; clear K
        refine wp_seq_k ?_; intro K hK
        refine zAa ?_
        refine zp E (zBq (vs := [_, _, _, _, _, _, _, _, _, _, _, _, _]) E rfl rfl rfl (S.get (by repeat (first | exact pk1 | apply zAc))) rfl rfl) ?_; clear E a; intro a E
        refine zAm rfl (zBd E S rfl rfl rfl rfl (by simp [Value.oneCell']) rfl (by repeat (first | exact pk1 | apply zAc)) (by simp) ?_); clear E S a; intro a w E S; simp only [List.take_succ_cons, List.take_zero, List.drop_succ_cons, List.drop_zero, List.cons_append, List.nil_append, List.append_nil, List.length_cons, List.length_nil, Nat.zero_add, Nat.add_zero] at S
        refine wpList_nil ?_
        refine zAf hK ?_; clear hK; clear K
        refine wp_ret ?_
        refine zIi E rfl rfl (S.get (by repeat (first | exact pk1 | apply zAc))) rfl ?_
        have S := S.tail2
        first
          | (rw [bare1 k1]; exact ⟨_, rfl, _, _, _, rfl, ⟨hR.pr, hR.kr, hR.dr⟩, S.tr⟩)
          | (rw [bare2 k2]; exact ⟨_, rfl, _, _, _, rfl, ⟨Rd.nil _ _, hR.kr, hR.dr⟩, S.tr⟩)
          | (rw [bare3 k3]; exact ⟨_, rfl, _, _, _, rfl, ⟨hR.pr, Rd.nil _ _, hR.dr⟩, S.tr⟩)
          | (rw [bare4 k4]; exact ⟨_, rfl, _, _, _, rfl, ⟨hR.pr, Rd.nil _ _, hR.dr⟩, S.tr⟩)
          | (rw [bare5 k5]; exact ⟨_, rfl, _, _, _, rfl, ⟨hR.pr, hR.kr, Rd.nil _ _⟩, S.tr⟩)
          | (rw [zLh k1 k2 k3 k4 k5]; exact ⟨_, rfl, _, _, _, rfl, ⟨hR.pr, hR.kr, hR.dr⟩, S.tr⟩)
      · replace hb := Nrm.nrm hb
        have k3 := hb
        refine wp_seq_k ?_; intro K hK
        refine zAa ?_
        refine zp E (by first | exact zCe E rfl rfl rfl | exact zAt E rfl rfl rfl rfl | exact zAz E rfl rfl rfl rfl | exact zAu E rfl rfl rfl) ?_; clear E a; intro a E
        refine zp E (zAe E rfl rfl) ?_; clear E a; intro a E
        refine wpList_nil ?_
        refine zAf hK ?_; clear hK; clear K
        refine zBj E rfl (fun hb => ?_) (fun hb => ?_)
        · replace hb := Nrm.nrm hb
          have k4 := hb
          refine zAa ?_
          refine zp E (by first | exact zAg (q := 8) E rfl rfl rfl | exact zAh (q := 8) E rfl rfl rfl) ?_; clear E a; intro a E
          refine zAm rfl (zBk E S rfl rfl rfl rfl rfl rfl (by repeat (first | exact pk1 | apply zAc)) (by first | exact Nat.le_of_ble_eq_true rfl | (simp; done) | (simp; omega)) ?_); clear E S a; intro a w E S; try dsimp only [List.set] at S
          refine zp E (by first | exact zAg (q := 11) E rfl rfl rfl | exact zAh (q := 11) E rfl rfl rfl) ?_; clear E a; intro a E
          refine zAm rfl (zBk E S rfl rfl rfl rfl rfl rfl (by repeat (first | exact pk1 | apply zAc)) (by first | exact Nat.le_of_ble_eq_true rfl | (simp; done) | (simp; omega)) ?_); clear E S a; intro a w E S; try dsimp only [List.set] at S
          refine wpList_nil ?_
          refine zBo ?_
          refine zAf hK ?_; clear hK; clear K
          refine wp_seq_k ?_; intro K hK
          refine zAa ?_
          refine zp E (zBq (vs := [_, _, _, _, _, _, _, _, _, _, _, _, _]) E rfl rfl rfl (S.get (by repeat (first | exact pk1 | apply zAc))) rfl rfl) ?_; clear E a; intro a E
          refine zAm rfl (zBd E S rfl rfl rfl rfl (by simp [Value.oneCell']) rfl (by repeat (first | exact pk1 | apply zAc)) (by simp) ?_); clear E S a; intro a w E S; simp only [List.take_succ_cons, List.take_zero, List.drop_succ_cons, List.drop_zero, List.cons_append, List.nil_append, List.append_nil, List.length_cons, List.length_nil, Nat.zero_add, Nat.add_zero] at S
          refine wpList_nil ?_
          refine zAf hK ?_; clear hK; clear K
          refine wp_ret ?_
          refine zIi E rfl rfl (S.get (by repeat (first | exact pk1 | apply zAc))) rfl ?_
          have S := S.tail2
          first
            | (rw [bare1 k1]; exact ⟨_, rfl, _, _, _, rfl, ⟨hR.pr, hR.kr, hR.dr⟩, S.tr⟩)
            | (rw [bare2 k2]; exact ⟨_, rfl, _, _, _, rfl, ⟨Rd.nil _ _, hR.kr, hR.dr⟩, S.tr⟩)
            | (rw [bare3 k3]; exact ⟨_, rfl, _, _, _, rfl, ⟨hR.pr, Rd.nil _ _, hR.dr⟩, S.tr⟩)
            | (rw [bare4 k4]; exact ⟨_, rfl, _, _, _, rfl, ⟨hR.pr, Rd.nil _ _, hR.dr⟩, S.tr⟩)
            | (rw [bare5 k5]; exact ⟨_, rfl, _, _, _, rfl, ⟨hR.pr, hR.kr, Rd.nil _ _⟩, S.tr⟩)
            | (rw [zLh k1 k2 k3 k4 k5]; exact ⟨_, rfl, _, _, _, rfl, ⟨hR.pr, hR.kr, hR.dr⟩, S.tr⟩)
        · replace hb := Nrm.nrm hb
          have k4 := hb
          refine wp_seq_k ?_; intro K hK
          refine zAa ?_
          refine zp E (by first | exact zCe E rfl rfl rfl | exact zAt E rfl rfl rfl rfl | exact zAz E rfl rfl rfl rfl | exact zAu E rfl rfl rfl) ?_; clear E a; intro a E
          refine zp E (zAe E rfl rfl) ?_; clear E a; intro a E
          refine wpList_nil ?_
          refine zAf hK ?_; clear hK; clear K
          refine zBj E rfl (fun hb => ?_) (fun hb => ?_)
          · replace hb := Nrm.nrm hb
            have k5 := hb
            refine zAa ?_
            refine zp E (by first | exact zAg (q := 8) E rfl rfl rfl | exact zAh (q := 8) E rfl rfl rfl) ?_; clear E a; intro a E
            refine zAm rfl (zBk E S rfl rfl rfl rfl rfl rfl (by repeat (first | exact pk1 | apply zAc)) (by first | exact Nat.le_of_ble_eq_true rfl | (simp; done) | (simp; omega)) ?_); clear E S a; intro a w E S; try dsimp only [List.set] at S
            refine zp E (by first | exact zAg (q := 9) E rfl rfl rfl | exact zAh (q := 9) E rfl rfl rfl) ?_; clear E a; intro a E
            refine zAm rfl (zBk E S rfl rfl rfl rfl rfl rfl (by repeat (first | exact pk1 | apply zAc)) (by first | exact Nat.le_of_ble_eq_true rfl | (simp; done) | (simp; omega)) ?_); clear E S a; intro a w E S; try dsimp only [List.set] at S
            refine zp E (by first | exact zAg (q := 12) E rfl rfl rfl | exact zAh (q := 12) E rfl rfl rfl) ?_; clear E a; intro a E
            refine zAm rfl (zBk E S rfl rfl rfl rfl rfl rfl (by repeat (first | exact pk1 | apply zAc)) (by first | exact Nat.le_of_ble_eq_true rfl | (simp; done) | (simp; omega)) ?_); clear E S a; intro a w E S; try dsimp only [List.set] at S
            refine wpList_nil ?_
            refine zBo ?_
            refine zAf hK ?_; clear hK; clear K
            refine wp_seq_k ?_; intro K hK
            refine zAa ?_
            refine zp E (zBq (vs := [_, _, _, _, _, _, _, _, _, _, _, _, _]) E rfl rfl rfl (S.get (by repeat (first | exact pk1 | apply zAc))) rfl rfl) ?_; clear E a; intro a E
            refine zAm rfl (zBd E S rfl rfl rfl rfl (by simp [Value.oneCell']) rfl (by repeat (first | exact pk1 | apply zAc)) (by simp) ?_); clear E S a; intro a w E S; simp only [List.take_succ_cons, List.take_zero, List.drop_succ_cons, List.drop_zero, List.cons_append, List.nil_append, List.append_nil, List.length_cons, List.length_nil, Nat.zero_add, Nat.add_zero] at S
            refine wpList_nil ?_
            refine zAf hK ?_; clear hK; clear K
            refine wp_ret ?_
            refine zIi E rfl rfl (S.get (by repeat (first | exact pk1 | apply zAc))) rfl ?_
            have S := S.tail2
            first
              | (rw [bare1 k1]; exact ⟨_, rfl, _, _, _, rfl, ⟨hR.pr, hR.kr, hR.dr⟩, S.tr⟩)
              | (rw [bare2 k2]; exact ⟨_, rfl, _, _, _, rfl, ⟨Rd.nil _ _, hR.kr, hR.dr⟩, S.tr⟩)
              | (rw [bare3 k3]; exact ⟨_, rfl, _, _, _, rfl, ⟨hR.pr, Rd.nil _ _, hR.dr⟩, S.tr⟩)
              | (rw [bare4 k4]; exact ⟨_, rfl, _, _, _, rfl, ⟨hR.pr, Rd.nil _ _, hR.dr⟩, S.tr⟩)
              | (rw [bare5 k5]; exact ⟨_, rfl, _, _, _, rfl, ⟨hR.pr, hR.kr, Rd.nil _ _⟩, S.tr⟩)
              | (rw [zLh k1 k2 k3 k4 k5]; exact ⟨_, rfl, _, _, _, rfl, ⟨hR.pr, hR.kr, hR.dr⟩, S.tr⟩)
          · replace hb := Nrm.nrm hb
            have k5 := hb
            refine zAa ?_
            refine zp E (by first | exact zAg (q := 10) E rfl rfl rfl | exact zAh (q := 10) E rfl rfl rfl) ?_; clear E a; intro a E
            refine zAm rfl (zBk E S rfl rfl rfl rfl rfl rfl (by repeat (first | exact pk1 | apply zAc)) (by first | exact Nat.le_of_ble_eq_true rfl | (simp; done) | (simp; omega)) ?_); clear E S a; intro a w E S; try dsimp only [List.set] at S
            refine wpList_nil ?_
            refine zBo ?_
            refine zAf hK ?_; clear hK; clear K
            refine wp_seq_k ?_; intro K hK
            refine zAa ?_
            refine zp E (zBq (vs := [_, _, _, _, _, _, _, _, _, _, _, _, _]) E rfl rfl rfl (S.get (by repeat (first | exact pk1 | apply zAc))) rfl rfl) ?_; clear E a; intro a E
            refine zAm rfl (zBd E S rfl rfl rfl rfl (by simp [Value.oneCell']) rfl (by repeat (first | exact pk1 | apply zAc)) (by simp) ?_); clear E S a; intro a w E S; simp only [List.take_succ_cons, List.take_zero, List.drop_succ_cons, List.drop_zero, List.cons_append, List.nil_append, List.append_nil, List.length_cons, List.length_nil, Nat.zero_add, Nat.add_zero] at S
            refine wpList_nil ?_
            refine zAf hK ?_; clear hK; clear K
            refine wp_ret ?_
            refine zIi E rfl rfl (S.get (by repeat (first | exact pk1 | apply zAc))) rfl ?_
            have S := S.tail2
            first
              | (rw [bare1 k1]; exact ⟨_, rfl, _, _, _, rfl, ⟨hR.pr, hR.kr, hR.dr⟩, S.tr⟩)
              | (rw [bare2 k2]; exact ⟨_, rfl, _, _, _, rfl, ⟨Rd.nil _ _, hR.kr, hR.dr⟩, S.tr⟩)
              | (rw [bare3 k3]; exact ⟨_, rfl, _, _, _, rfl, ⟨hR.pr, Rd.nil _ _, hR.dr⟩, S.tr⟩)
              | (rw [bare4 k4]; exact ⟨_, rfl, _, _, _, rfl, ⟨hR.pr, Rd.nil _ _, hR.dr⟩, S.tr⟩)
              | (rw [bare5 k5]; exact ⟨_, rfl, _, _, _, rfl, ⟨hR.pr, hR.kr, Rd.nil _ _⟩, S.tr⟩)
              | (rw [zLh k1 k2 k3 k4 k5]; exact ⟨_, rfl, _, _, _, rfl, ⟨hR.pr, hR.kr, hR.dr⟩, S.tr⟩)
abbrev fnv (f : FuncId) : Value := .func (.func f) #[] #[]
def rowC (f g h : FuncId) : List Value := [fnv f, fnv g, fnv h]
def mayF (k : Int) : FuncId := if k = 1 then 47 else if k = 2 then 96 else if k = 3 then 55 else if k = 4 then 61 else if k = 5 then 64 else 99
def layF (k : Int) : FuncId := if k = 1 then 50 else if k = 2 then 94 else if k = 3 then 57 else if k = 4 then 62 else if k = 5 then 65 else 100
def takF (k : Int) : FuncId := if k = 1 then 52 else if k = 2 then 95 else if k = 3 then 59 else if k = 4 then 63 else if k = 5 then 67 else 101
def rowV (k : Int) : Value := .agg (rowC (mayF k) (layF k) (takF k)).toArray
def zGr : Array MapEntry := #[⟨.int .i64 1, rowV 1, 0⟩, ⟨.int .i64 2, rowV 2, 1⟩, ⟨.int .i64 3, rowV 3, 2⟩, ⟨.int .i64 4, rowV 4, 3⟩, ⟨.int .i64 5, rowV 5, 4⟩, ⟨.int .i64 6, rowV 6, 5⟩, ⟨.int .i64 7, rowV 7, 6⟩]
def inK (k : Int) : Prop := 1 ≤ k ∧ k ≤ 7
theorem zEd {k : Int} (h : inK k) : k = 1 ∨ k = 2 ∨ k = 3 ∨ k = 4 ∨ k = 5 ∨ k = 6 ∨ k = 7 := by unfold inK at h; omega
theorem row_is {k : Int} (h : inK k) : ∃ i, Instr.findNow (.int .i64) (.int .i64 k) zGr.toList 0 = some (some (i, rowV k)) := by
  rcases zEd h with rfl | rfl | rfl | rfl | rfl | rfl | rfl <;> exact ⟨_, rfl⟩
theorem zLi {k : Int} (h : ¬ inK k) : Instr.findNow (.int .i64) (.int .i64 k) zGr.toList 0 = some none := by
  have hk : ∀ j : Int, inK j → (k == j) = false := fun j hj => by
    rw [beq_eq_false_iff_ne]; intro e; exact h (e ▸ hj)
  have h1 := hk 1 (by unfold inK; omega)
  have h2 := hk 2 (by unfold inK; omega)
  have h3 := hk 3 (by unfold inK; omega)
  have h4 := hk 4 (by unfold inK; omega)
  have h5 := hk 5 (by unfold inK; omega)
  have h6 := hk 6 (by unfold inK; omega)
  have h7 := hk 7 (by unfold inK; omega)
  simp [zGr, Instr.findNow, Instr.sameNow, h1, h2, h3, h4, h5, h6, h7]
theorem many_ret (As : List zAs) (w0 : World) (H : Hp w0 As) : Ret Tryz.prog 69 #[] w0 fun u w' => u = rowV 6 ∧ Trs w0 w' As As := by
  have S := St.begin H
  refine enter0 2 Tryz.func69 rfl rfl ?_; intro a E
  refine wp_seq_k ?_; intro K hK
  refine zAa ?_
  refine zAm rfl (zBr E S rfl rfl (by decide) rfl rfl rfl ?_); clear E S a; intro a w b0 E S
  refine wpList_nil ?_
  refine zAf hK ?_; clear hK; clear K
  refine wp_seq_k ?_; intro K hK
  refine zAa ?_
  refine zp E (zCv (cells := [_, _, _]) E rfl rfl rfl) ?_; clear E a; intro a E
  refine zAm rfl (zBd E S rfl rfl rfl rfl (by simp [Value.oneCell']) rfl (by repeat (first | exact pk1 | apply zAc)) (by simp) ?_); clear E S a; intro a w E S; simp only [List.take_succ_cons, List.take_zero, List.drop_succ_cons, List.drop_zero, List.cons_append, List.nil_append, List.append_nil, List.length_cons, List.length_nil, Nat.zero_add, Nat.add_zero] at S
  refine wpList_nil ?_
  refine zAf hK ?_; clear hK; clear K
  refine wp_ret ?_
  refine zIi E rfl rfl (S.get (by repeat (first | exact pk1 | apply zAc))) rfl ?_
  exact ⟨_, rfl, rfl, S.tail.tr⟩
theorem beginRow_ret (As : List zAs) (w0 : World) (H : Hp w0 As) : Ret Tryz.prog 54 #[] w0 fun u w' => u = rowV 2 ∧ Trs w0 w' As As := by
  have S := St.begin H
  refine enter0 6 Tryz.func54 rfl rfl ?_; intro a E
  refine wp_seq_k ?_; intro K hK
  refine zAa ?_
  refine zAm rfl (zBr E S rfl rfl (by decide) rfl rfl rfl ?_); clear E S a; intro a w b0 E S
  refine wpList_nil ?_
  refine zAf hK ?_; clear hK; clear K
  refine wp_seq_k ?_; intro K hK
  refine zAa ?_
  refine zp E (zAe E rfl rfl) ?_; clear E a; intro a E
  refine wpList_nil ?_
  refine zAf hK ?_; clear hK; clear K
  refine wp_seq_k ?_; intro K hK
  refine zAa ?_
  refine zp E (zAe E rfl rfl) ?_; clear E a; intro a E
  refine wpList_nil ?_
  refine zAf hK ?_; clear hK; clear K
  refine wp_seq_k ?_; intro K hK
  refine zAa ?_
  iterate 2 (refine zp E (zAd E rfl rfl) ?_; clear E a; intro a E)
  refine zp E (zCv (cells := [_, _, _]) E rfl rfl rfl) ?_; clear E a; intro a E
  refine zAm rfl (zBd E S rfl rfl rfl rfl (by simp [Value.oneCell']) rfl (by repeat (first | exact pk1 | apply zAc)) (by simp) ?_); clear E S a; intro a w E S; simp only [List.take_succ_cons, List.take_zero, List.drop_succ_cons, List.drop_zero, List.cons_append, List.nil_append, List.append_nil, List.length_cons, List.length_nil, Nat.zero_add, Nat.add_zero] at S
  refine wpList_nil ?_
  refine zAf hK ?_; clear hK; clear K
  refine wp_ret ?_
  refine zIi E rfl rfl (S.get (by repeat (first | exact pk1 | apply zAc))) rfl ?_
  exact ⟨_, rfl, rfl, S.tail.tr⟩
theorem zIm (As : List zAs) (w0 : World) (H : Hp w0 As) : Ret Tryz.prog 25 #[] w0 fun u w' => ∃ g, u = .map (some g) ∧ Trs w0 w' As ([(g, .map zGr 7)] :: As) := by
  have S := St.begin H
  refine enter0 10 Tryz.func25 rfl rfl ?_; intro a E
  refine wp_seq_k ?_; intro K hK
  refine zAa ?_
  refine zp E (zAe E rfl rfl) ?_; clear E a; intro a E
  refine wpList_nil ?_
  refine zAf hK ?_; clear hK; clear K
  refine wp_seq_k ?_; intro K hK
  refine zAa ?_
  refine zAm rfl (wp_makeMap E S rfl rfl (by decide) ?_); clear E S a; intro a w b1 E S
  refine zp E (zCv (cells := [_, _, _]) E rfl rfl rfl) ?_; clear E a; intro a E
  refine zAm rfl (zFi E S (.inr rfl) rfl rfl rfl rfl rfl rfl (by repeat (first | exact pk1 | apply zAc)) rfl ?_); clear E S a; intro a w E S
  refine zAn E rfl rfl (by decide) rfl Tryz.func54 rfl (by kernel_rfl) rfl (beginRow_ret _ _ S.hp) ?_
  rintro v3 w ⟨rfl, hT⟩; clear E a; intro a E
  have S := S.all hT
  refine zAm rfl (zFi E S (.inr rfl) rfl rfl rfl rfl rfl rfl (by repeat (first | exact pk1 | apply zAc)) rfl ?_); clear E S a; intro a w E S
  refine zp E (zCv (cells := [_, _, _]) E rfl rfl rfl) ?_; clear E a; intro a E
  refine zAm rfl (zFi E S (.inr rfl) rfl rfl rfl rfl rfl rfl (by repeat (first | exact pk1 | apply zAc)) rfl ?_); clear E S a; intro a w E S
  refine zp E (zCv (cells := [_, _, _]) E rfl rfl rfl) ?_; clear E a; intro a E
  refine zAm rfl (zFi E S (.inr rfl) rfl rfl rfl rfl rfl rfl (by repeat (first | exact pk1 | apply zAc)) rfl ?_); clear E S a; intro a w E S
  refine zp E (zCv (cells := [_, _, _]) E rfl rfl rfl) ?_; clear E a; intro a E
  refine zAm rfl (zFi E S (.inr rfl) rfl rfl rfl rfl rfl rfl (by repeat (first | exact pk1 | apply zAc)) rfl ?_); clear E S a; intro a w E S
  refine zAn E rfl rfl (by decide) rfl Tryz.func69 rfl (by kernel_rfl) rfl (many_ret _ _ S.hp) ?_
  rintro v7 w ⟨rfl, hT⟩; clear E a; intro a E
  have S := S.all hT
  refine zAm rfl (zFi E S (.inr rfl) rfl rfl rfl rfl rfl rfl (by repeat (first | exact pk1 | apply zAc)) rfl ?_); clear E S a; intro a w E S
  refine zAn E rfl rfl (by decide) rfl Tryz.func69 rfl (by kernel_rfl) rfl (many_ret _ _ S.hp) ?_
  rintro v8 w ⟨rfl, hT⟩; clear E a; intro a E
  have S := S.all hT
  refine zAm rfl (zFi E S (.inr rfl) rfl rfl rfl rfl rfl rfl (by repeat (first | exact pk1 | apply zAc)) rfl ?_); clear E S a; intro a w E S
  refine zp E (zAd E rfl rfl) ?_; clear E a; intro a E
  refine zp E (zAe E rfl rfl) ?_; clear E a; intro a E
  refine wpList_nil ?_
  refine zAf hK ?_; clear hK; clear K
  refine wp_ret ?_
  refine ret1 E rfl rfl ?_
  exact ⟨_, rfl, b1, rfl, S.tr⟩
noncomputable def mayK (k : Int) (r : Rec) : Bool := if k = 1 then may1 r else if k = 2 then begB r else if k = 3 then may3 r else if k = 4 then may4 r else if k = 5 then may5 r else may6 r
noncomputable def ckB (r : Rec) : Bool := @decide (inK r.kind) (Classical.propDecidable _) && (mayK r.kind r && zCx (zDq r))
noncomputable def ckE (r : Rec) : Int := if ckB r = true then 0 else 200
theorem mayF_fn {k : Int} (h : inK k) : ∃ fn : Func, Tryz.prog.funcs[mayF k]? = some fn ∧ fn.body.isSome = true ∧ (fn.name == "runtime.NumGoroutine") = false := by
  rcases zEd h with rfl | rfl | rfl | rfl | rfl | rfl | rfl
  · exact ⟨_, Tryz.func47, rfl, by kernel_rfl⟩
  · exact ⟨_, Tryz.func96, rfl, by kernel_rfl⟩
  · exact ⟨_, Tryz.func55, rfl, by kernel_rfl⟩
  · exact ⟨_, Tryz.func61, rfl, by kernel_rfl⟩
  · exact ⟨_, Tryz.func64, rfl, by kernel_rfl⟩
  · exact ⟨_, Tryz.func99, rfl, by kernel_rfl⟩
  · exact ⟨_, Tryz.func99, rfl, by kernel_rfl⟩
theorem mayK_ret {C : zAs} {r : Rec} {pv kv dv : Value} (hR : RecR C r pv kv dv) (hs : Sml r) {As : List zAs} (hC : C ∈ As) (w0 : World) (H : Hp w0 As) {k : Int} (h : inK k) :
    Ret Tryz.prog (mayF k) #[.agg (r.cells pv kv dv).toArray] w0 fun u w' => u = .bool (mayK k r) ∧ Trs w0 w' As As := by
  rcases zEd h with rfl | rfl | rfl | rfl | rfl | rfl | rfl
  · exact may1_ret hR hs hC w0 H
  · exact begin_ret hR hs hC w0 H
  · exact may3_ret hR hs hC w0 H
  · exact may4_ret hR hs hC w0 H
  · exact may5_ret hR hs hC w0 H
  · exact may6_ret hR hs hC w0 H
  · exact may6_ret hR hs hC w0 H
theorem zHo {C : zAs} {r : Rec} {pv kv dv : Value} (hR : RecR C r pv kv dv) (hs : Sml r) {As : List zAs} (hC : C ∈ As) (w0 : World) (H : Hp w0 As) :
    Ret Tryz.prog 11 #[.agg (r.cells pv kv dv).toArray] w0 fun u w' => u = .int .i64 (ckE r) ∧ Trs w0 w' As As := by
  have S := St.begin H
  obtain ⟨ad1, c1, rfl⟩ := hR.pr.slice
  obtain ⟨ad2, c2, rfl⟩ := hR.kr.slice
  obtain ⟨ad3, c3, rfl⟩ := hR.dr.slice
  refine zDh 27 Tryz.func11 rfl rfl (by decide) ?_; intro a E
  refine wp_seq_k ?_; intro K hK
  refine zAa ?_
  refine zAm rfl (zCk E S rfl rfl (by decide) rfl rfl ?_); clear E S a; intro a w b1 E S
  refine zp E (zAe E rfl rfl) ?_; clear E a; intro a E
  refine wpList_nil ?_
  refine zAf hK ?_; clear hK; clear K
  refine wp_seq_k ?_; intro K hK
  refine zJa (fun (a : Act) (w' : World) => ∃ z f1 f2 f3 b3, (z = true ↔ inK r.kind) ∧ (inK r.kind → f1 = fnv (mayF r.kind)) ∧ St w0 As w' ([(b3, cel [f1, f2, f3] 59)] :: [(b1, cel (r.cells (.slice ad1 r.props.length c1) (.slice ad2 r.keep.length c2) (.slice ad3 r.data.length c3)) 26)] :: As) ∧ Fr a 27 [(1, ptr b1), (2, .int .i64 0), (3, ptr b3), (4, .bool z)]) ?_ ?_
  · skip
    refine zDm S (.cons (1, 0) (.cons (2, 0) (.fork 0 (.fork 3 (.ofL [(4, 0), (5, 0), (6, 2), (7, 1), (8, 3), (9, 2)]) 7 (.ofL [(3, 1), (4, 0), (5, 0), (6, 2), (8, 3), (9, 2)])) 7 (.ofL [(0, 1), (3, 1), (4, 0), (5, 0), (6, 2), (8, 3), (9, 2)])))) [[(b1, cel (r.cells (.slice ad1 r.props.length c1) (.slice ad2 r.keep.length c2) (.slice ad3 r.data.length c3)) 26)]] (fun h => h.sub (by first | (simp; done) | (simp +contextual; done) | (simp [*]; done))) (by kernel_rfl) (by kernel_rfl) ?_
    clear S; intro w S
    refine zm E rfl (fun w h => by first | exact zAg (q := 0) E rfl rfl rfl | exact zAh (q := 0) E rfl rfl rfl) ?_; clear E a; intro a E
    refine zm E rfl (fun w h => by first | exact zAq E rfl rfl rfl (h.one (by repeat (first | exact mm1 | assumption | apply List.Mem.tail))) rfl | exact zAl E rfl rfl rfl (by assumption)) ?_; clear E a; intro a E
    refine ⟨?_, ?_⟩
    · skip
      refine zCn E rfl rfl rfl (by decide) rfl Tryz.func25 rfl (by kernel_rfl) rfl (zIm _ _ S.hp) ?_
      rintro v6 w ⟨g, rfl, hT⟩; clear E a; intro a E
      have S := S.all hT
      refine ⟨S.stab.sub (by first | (simp; done) | (simp +contextual; done) | (simp [*]; done)), ?_⟩
      refine ⟨?_, ?_⟩
      · skip
        rcases Classical.em (inK r.kind) with hk | hk
        · skip
          obtain ⟨ix, hrow⟩ := row_is hk
          refine zDg rfl rfl (zFs E (zFn (v := .agg [fnv (mayF r.kind), fnv (layF r.kind), fnv (takF r.kind)].toArray) E rfl rfl rfl rfl rfl (S.get (by repeat (first | exact pk1 | apply zAc))) hrow) rfl (by decide) ?_); clear E a; intro a E; refine ⟨S.stab.sub (by first | (simp; done) | (simp +contextual; done) | (simp [*]; done)), ?_⟩
          refine zm E rfl (fun w h => zAd E rfl rfl) ?_; clear E a; intro a E
          refine zm E rfl (fun w h => zBh E rfl rfl rfl) ?_; clear E a; intro a E
          refine zCs E rfl rfl rfl (by decide) (fun w => zBh E rfl rfl rfl) ?_; clear E a; intro a E
          refine zDg rfl rfl (zBr E S rfl rfl (by decide) rfl rfl rfl ?_); clear E S a; intro a w b3 E S; refine ⟨S.stab.sub (by first | (simp; done) | (simp +contextual; done) | (simp [*]; done)), ?_⟩
          refine zCy rfl rfl (zBd E S rfl rfl rfl rfl (by simp [Value.oneCell']) rfl (by repeat (first | exact pk1 | apply zAc)) (by simp) ?_); clear E S a; intro a w E S; simp only [List.take_succ_cons, List.take_zero, List.drop_succ_cons, List.drop_zero, List.cons_append, List.nil_append, List.append_nil, List.length_cons, List.length_nil, Nat.zero_add, Nat.add_zero] at S
          refine zCs E rfl rfl rfl (by decide) (fun w => zAe E rfl rfl) ?_; clear E a; intro a E
          refine zCd ?_
          refine zCf ?_
          first
            | exact ⟨_, _, _, _, _, by simp [hk], fun _ => rfl, ((S.front1 (A := [(g, .map zGr 7)]) (by repeat (first | exact pk1 | apply zAc))).tail).front2 (by repeat (first | exact pk1 | apply zAc)) (by repeat (first | exact pk1 | apply zAc)), E.keep (zAb rfl (zAb rfl (zAb rfl (zAb rfl zAr))))⟩
            | exact ⟨_, _, _, _, _, by simp [hk], fun q => absurd q hk, ((S.front1 (A := [(g, .map zGr 7)]) (by repeat (first | exact pk1 | apply zAc))).tail).front2 (by repeat (first | exact pk1 | apply zAc)) (by repeat (first | exact pk1 | apply zAc)), E.keep (zAb rfl (zAb rfl (zAb rfl (zAb rfl zAr))))⟩
        · skip
          refine zDg rfl rfl (zFs E (zEx E rfl rfl rfl rfl rfl rfl rfl (S.get (by repeat (first | exact pk1 | apply zAc))) (zLi hk)) rfl (by decide) ?_); clear E a; intro a E; refine ⟨S.stab.sub (by first | (simp; done) | (simp +contextual; done) | (simp [*]; done)), ?_⟩
          refine zm E rfl (fun w h => zAd E rfl rfl) ?_; clear E a; intro a E
          refine zm E rfl (fun w h => zBh E rfl rfl rfl) ?_; clear E a; intro a E
          refine zCs E rfl rfl rfl (by decide) (fun w => zBh E rfl rfl rfl) ?_; clear E a; intro a E
          refine zDg rfl rfl (zBr E S rfl rfl (by decide) rfl rfl rfl ?_); clear E S a; intro a w b3 E S; refine ⟨S.stab.sub (by first | (simp; done) | (simp +contextual; done) | (simp [*]; done)), ?_⟩
          refine zCy rfl rfl (zBd E S rfl rfl rfl rfl (by simp [Value.oneCell']) rfl (by repeat (first | exact pk1 | apply zAc)) (by simp) ?_); clear E S a; intro a w E S; simp only [List.take_succ_cons, List.take_zero, List.drop_succ_cons, List.drop_zero, List.cons_append, List.nil_append, List.append_nil, List.length_cons, List.length_nil, Nat.zero_add, Nat.add_zero] at S
          refine zCs E rfl rfl rfl (by decide) (fun w => zAe E rfl rfl) ?_; clear E a; intro a E
          refine zCd ?_
          refine zCf ?_
          first
            | exact ⟨_, _, _, _, _, by simp [hk], fun _ => rfl, ((S.front1 (A := [(g, .map zGr 7)]) (by repeat (first | exact pk1 | apply zAc))).tail).front2 (by repeat (first | exact pk1 | apply zAc)) (by repeat (first | exact pk1 | apply zAc)), E.keep (zAb rfl (zAb rfl (zAb rfl (zAb rfl zAr))))⟩
            | exact ⟨_, _, _, _, _, by simp [hk], fun q => absurd q hk, ((S.front1 (A := [(g, .map zGr 7)]) (by repeat (first | exact pk1 | apply zAc))).tail).front2 (by repeat (first | exact pk1 | apply zAc)) (by repeat (first | exact pk1 | apply zAc)), E.keep (zAb rfl (zAb rfl (zAb rfl (zAb rfl zAr))))⟩
      · skip
        refine zDg rfl rfl (zBr E S rfl rfl (by decide) rfl rfl rfl ?_); clear E S a; intro a w b3 E S; refine ⟨S.stab.sub (by first | (simp; done) | (simp +contextual; done) | (simp [*]; done)), ?_⟩
        rcases Classical.em (inK r.kind) with hk | hk
        · skip
          obtain ⟨ix, hrow⟩ := row_is hk
          refine zDg rfl rfl (zFs E (zFn (v := .agg [fnv (mayF r.kind), fnv (layF r.kind), fnv (takF r.kind)].toArray) E rfl rfl rfl rfl rfl (S.get (by repeat (first | exact pk1 | apply zAc))) hrow) rfl (by decide) ?_); clear E a; intro a E; refine ⟨S.stab.sub (by first | (simp; done) | (simp +contextual; done) | (simp [*]; done)), ?_⟩
          refine zm E rfl (fun w h => zAd E rfl rfl) ?_; clear E a; intro a E
          refine zm E rfl (fun w h => zBh E rfl rfl rfl) ?_; clear E a; intro a E
          refine zCs E rfl rfl rfl (by decide) (fun w => zBh E rfl rfl rfl) ?_; clear E a; intro a E
          refine zCy rfl rfl (zBd E S rfl rfl rfl rfl (by simp [Value.oneCell']) rfl (by repeat (first | exact pk1 | apply zAc)) (by simp) ?_); clear E S a; intro a w E S; simp only [List.take_succ_cons, List.take_zero, List.drop_succ_cons, List.drop_zero, List.cons_append, List.nil_append, List.append_nil, List.length_cons, List.length_nil, Nat.zero_add, Nat.add_zero] at S
          refine zCs E rfl rfl rfl (by decide) (fun w => zAe E rfl rfl) ?_; clear E a; intro a E
          refine zCd ?_
          refine zCf ?_
          first
            | exact ⟨_, _, _, _, _, by simp [hk], fun _ => rfl, ((S.front1 (A := [(g, .map zGr 7)]) (by repeat (first | exact pk1 | apply zAc))).tail).front2 (by repeat (first | exact pk1 | apply zAc)) (by repeat (first | exact pk1 | apply zAc)), E.keep (zAb rfl (zAb rfl (zAb rfl (zAb rfl zAr))))⟩
            | exact ⟨_, _, _, _, _, by simp [hk], fun q => absurd q hk, ((S.front1 (A := [(g, .map zGr 7)]) (by repeat (first | exact pk1 | apply zAc))).tail).front2 (by repeat (first | exact pk1 | apply zAc)) (by repeat (first | exact pk1 | apply zAc)), E.keep (zAb rfl (zAb rfl (zAb rfl (zAb rfl zAr))))⟩
        · skip
          refine zDg rfl rfl (zFs E (zEx E rfl rfl rfl rfl rfl rfl rfl (S.get (by repeat (first | exact pk1 | apply zAc))) (zLi hk)) rfl (by decide) ?_); clear E a; intro a E; refine ⟨S.stab.sub (by first | (simp; done) | (simp +contextual; done) | (simp [*]; done)), ?_⟩
          refine zm E rfl (fun w h => zAd E rfl rfl) ?_; clear E a; intro a E
          refine zm E rfl (fun w h => zBh E rfl rfl rfl) ?_; clear E a; intro a E
          refine zCs E rfl rfl rfl (by decide) (fun w => zBh E rfl rfl rfl) ?_; clear E a; intro a E
          refine zCy rfl rfl (zBd E S rfl rfl rfl rfl (by simp [Value.oneCell']) rfl (by repeat (first | exact pk1 | apply zAc)) (by simp) ?_); clear E S a; intro a w E S; simp only [List.take_succ_cons, List.take_zero, List.drop_succ_cons, List.drop_zero, List.cons_append, List.nil_append, List.append_nil, List.length_cons, List.length_nil, Nat.zero_add, Nat.add_zero] at S
          refine zCs E rfl rfl rfl (by decide) (fun w => zAe E rfl rfl) ?_; clear E a; intro a E
          refine zCd ?_
          refine zCf ?_
          first
            | exact ⟨_, _, _, _, _, by simp [hk], fun _ => rfl, ((S.front1 (A := [(g, .map zGr 7)]) (by repeat (first | exact pk1 | apply zAc))).tail).front2 (by repeat (first | exact pk1 | apply zAc)) (by repeat (first | exact pk1 | apply zAc)), E.keep (zAb rfl (zAb rfl (zAb rfl (zAb rfl zAr))))⟩
            | exact ⟨_, _, _, _, _, by simp [hk], fun q => absurd q hk, ((S.front1 (A := [(g, .map zGr 7)]) (by repeat (first | exact pk1 | apply zAc))).tail).front2 (by repeat (first | exact pk1 | apply zAc)) (by repeat (first | exact pk1 | apply zAc)), E.keep (zAb rfl (zAb rfl (zAb rfl (zAb rfl zAr))))⟩
    · skip
      refine zDg rfl rfl (zBr E S rfl rfl (by decide) rfl rfl rfl ?_); clear E S a; intro a w b3 E S; refine ⟨S.stab.sub (by first | (simp; done) | (simp +contextual; done) | (simp [*]; done)), ?_⟩
      refine zCn E rfl rfl rfl (by decide) rfl Tryz.func25 rfl (by kernel_rfl) rfl (zIm _ _ S.hp) ?_
      rintro v6 w ⟨g, rfl, hT⟩; clear E a; intro a E
      have S := S.all hT
      refine ⟨S.stab.sub (by first | (simp; done) | (simp +contextual; done) | (simp [*]; done)), ?_⟩
      rcases Classical.em (inK r.kind) with hk | hk
      · skip
        obtain ⟨ix, hrow⟩ := row_is hk
        refine zDg rfl rfl (zFs E (zFn (v := .agg [fnv (mayF r.kind), fnv (layF r.kind), fnv (takF r.kind)].toArray) E rfl rfl rfl rfl rfl (S.get (by repeat (first | exact pk1 | apply zAc))) hrow) rfl (by decide) ?_); clear E a; intro a E; refine ⟨S.stab.sub (by first | (simp; done) | (simp +contextual; done) | (simp [*]; done)), ?_⟩
        refine zm E rfl (fun w h => zAd E rfl rfl) ?_; clear E a; intro a E
        refine zm E rfl (fun w h => zBh E rfl rfl rfl) ?_; clear E a; intro a E
        refine zCs E rfl rfl rfl (by decide) (fun w => zBh E rfl rfl rfl) ?_; clear E a; intro a E
        refine zCy rfl rfl (zBd E S rfl rfl rfl rfl (by simp [Value.oneCell']) rfl (by repeat (first | exact pk1 | apply zAc)) (by simp) ?_); clear E S a; intro a w E S; simp only [List.take_succ_cons, List.take_zero, List.drop_succ_cons, List.drop_zero, List.cons_append, List.nil_append, List.append_nil, List.length_cons, List.length_nil, Nat.zero_add, Nat.add_zero] at S
        refine zCs E rfl rfl rfl (by decide) (fun w => zAe E rfl rfl) ?_; clear E a; intro a E
        refine zCd ?_
        refine zCf ?_
        first
          | exact ⟨_, _, _, _, _, by simp [hk], fun _ => rfl, ((S.front1 (A := [(g, .map zGr 7)]) (by repeat (first | exact pk1 | apply zAc))).tail).front2 (by repeat (first | exact pk1 | apply zAc)) (by repeat (first | exact pk1 | apply zAc)), E.keep (zAb rfl (zAb rfl (zAb rfl (zAb rfl zAr))))⟩
          | exact ⟨_, _, _, _, _, by simp [hk], fun q => absurd q hk, ((S.front1 (A := [(g, .map zGr 7)]) (by repeat (first | exact pk1 | apply zAc))).tail).front2 (by repeat (first | exact pk1 | apply zAc)) (by repeat (first | exact pk1 | apply zAc)), E.keep (zAb rfl (zAb rfl (zAb rfl (zAb rfl zAr))))⟩
      · skip
        refine zDg rfl rfl (zFs E (zEx E rfl rfl rfl rfl rfl rfl rfl (S.get (by repeat (first | exact pk1 | apply zAc))) (zLi hk)) rfl (by decide) ?_); clear E a; intro a E; refine ⟨S.stab.sub (by first | (simp; done) | (simp +contextual; done) | (simp [*]; done)), ?_⟩
        refine zm E rfl (fun w h => zAd E rfl rfl) ?_; clear E a; intro a E
        refine zm E rfl (fun w h => zBh E rfl rfl rfl) ?_; clear E a; intro a E
        refine zCs E rfl rfl rfl (by decide) (fun w => zBh E rfl rfl rfl) ?_; clear E a; intro a E
        refine zCy rfl rfl (zBd E S rfl rfl rfl rfl (by simp [Value.oneCell']) rfl (by repeat (first | exact pk1 | apply zAc)) (by simp) ?_); clear E S a; intro a w E S; simp only [List.take_succ_cons, List.take_zero, List.drop_succ_cons, List.drop_zero, List.cons_append, List.nil_append, List.append_nil, List.length_cons, List.length_nil, Nat.zero_add, Nat.add_zero] at S
        refine zCs E rfl rfl rfl (by decide) (fun w => zAe E rfl rfl) ?_; clear E a; intro a E
        refine zCd ?_
        refine zCf ?_
        first
          | exact ⟨_, _, _, _, _, by simp [hk], fun _ => rfl, ((S.front1 (A := [(g, .map zGr 7)]) (by repeat (first | exact pk1 | apply zAc))).tail).front2 (by repeat (first | exact pk1 | apply zAc)) (by repeat (first | exact pk1 | apply zAc)), E.keep (zAb rfl (zAb rfl (zAb rfl (zAb rfl zAr))))⟩
          | exact ⟨_, _, _, _, _, by simp [hk], fun q => absurd q hk, ((S.front1 (A := [(g, .map zGr 7)]) (by repeat (first | exact pk1 | apply zAc))).tail).front2 (by repeat (first | exact pk1 | apply zAc)) (by repeat (first | exact pk1 | apply zAc)), E.keep (zAb rfl (zAb rfl (zAb rfl (zAb rfl zAr))))⟩
  · clear E S a; intro a w J; obtain ⟨z, f1, f2, f3, b3, hz, hf, S, E⟩ := J
    refine zAf hK ?_; clear hK; clear K
    iterate 2 (refine wp_seq_k ?_; intro K hK)
    refine zAa ?_
    refine zp E (zAd E rfl rfl) ?_; clear E a; intro a E
    refine zp E (zDl E rfl rfl) ?_; clear E a; intro a E
    refine zp E (zAd E rfl rfl) ?_; clear E a; intro a E
    refine zAw E (t := 14) rfl (fun hb14 => ?_) (fun hb14 => ?_)
    · have hb14n := hb14; replace hb14n := Nrm.nrm hb14n
      iterate 5 (refine zn E hb14 ?_; clear E a; intro a E)
      refine zp E (zAk E rfl rfl hb14 rfl) ?_; clear E a; intro a E
      refine zp E (zAd E rfl rfl) ?_; clear E a; intro a E
      iterate 4 (refine zn E rfl ?_; clear E a; intro a E)
      refine zp E (zAk E rfl rfl rfl rfl) ?_; clear E a; intro a E
      refine wpList_nil ?_
      refine zAf hK ?_; clear hK; clear K
      refine zBy E rfl rfl ?_
      refine wp_seq_k ?_; intro K hK
      refine zAa ?_
      refine zp E (zAe E rfl rfl) ?_; clear E a; intro a E
      refine wpList_nil ?_
      refine zAf hK ?_; clear hK; clear K
      refine wp_ret ?_
      refine zAv ?_; clear hK; clear K
      refine ret1 E rfl rfl ?_
      refine ⟨_, rfl, ?_, S.tail2.tr⟩
      clear S E H hR hs
      simp_all [ckE, ckB]
    · have hb14n := hb14; replace hb14n := Nrm.nrm hb14n
      have hk := hz.1 (by simpa using hb14); obtain rfl := hf hk; obtain ⟨fn, q1, q2, q3⟩ := mayF_fn hk
      refine zy E hb14 (by first | exact zAg (q := 0) E rfl rfl rfl | exact zAh (q := 0) E rfl rfl rfl) ?_; clear E a; intro a E
      refine zy E hb14 (by first | exact zAq E rfl rfl rfl (S.get (by repeat (first | exact pk1 | apply zAc))) rfl | exact zAl E rfl rfl rfl (by assumption)) ?_; clear E a; intro a E
      refine zy E hb14 (zBq (vs := [_, _, _, _, _, _, _, _, _, _, _, _, _]) E rfl rfl rfl (S.get (by repeat (first | exact pk1 | apply zAc))) rfl rfl) ?_; clear E a; intro a E
      refine zBu E rfl rfl rfl rfl hb14 ?_; refine zIx E rfl (by decide) rfl rfl q1 q2 q3 rfl (mayK_ret hR hs (List.mem_cons_of_mem _ (List.mem_cons_of_mem _ hC)) _ S.hp hk) ?_
      rintro v18 w ⟨rfl, hT⟩; clear E a; intro a E
      have S := S.all hT
      refine zy E hb14 (zDl E rfl rfl) ?_; clear E a; intro a E
      refine zp E (zAj E rfl rfl hb14 rfl) ?_; clear E a; intro a E
      refine zp E (zAd E rfl rfl) ?_; clear E a; intro a E
      refine zAw E (t := 21) rfl (fun hb21 => ?_) (fun hb21 => ?_)
      · have hb21n := hb21; replace hb21n := Nrm.nrm hb21n
        iterate 4 (refine zn E hb21 ?_; clear E a; intro a E)
        refine zp E (zAk E rfl rfl hb21 rfl) ?_; clear E a; intro a E
        refine wpList_nil ?_
        refine zAf hK ?_; clear hK; clear K
        refine zBy E rfl rfl ?_
        refine wp_seq_k ?_; intro K hK
        refine zAa ?_
        refine zp E (zAe E rfl rfl) ?_; clear E a; intro a E
        refine wpList_nil ?_
        refine zAf hK ?_; clear hK; clear K
        refine wp_ret ?_
        refine zAv ?_; clear hK; clear K
        refine ret1 E rfl rfl ?_
        refine ⟨_, rfl, ?_, S.tail2.tr⟩
        clear S E H hR hs
        simp_all [ckE, ckB]
      · have hb21n := hb21; replace hb21n := Nrm.nrm hb21n
        refine zy E hb21 (zBq (vs := [_, _, _, _, _, _, _, _, _, _, _, _, _]) E rfl rfl rfl (S.get (by repeat (first | exact pk1 | apply zAc))) rfl rfl) ?_; clear E a; intro a E
        refine zBu E rfl rfl rfl rfl hb21 ?_; refine zCm E rfl (by decide) rfl Tryz.func27 rfl (by kernel_rfl) rfl (bare_ret hR _ S.hp) ?_
        rintro v23 w ⟨pv', kv', dv', rfl, hR', hT⟩; clear E a; intro a E
        have S := S.all hT
        refine zBu E rfl rfl rfl rfl hb21 ?_; refine zCm E rfl (by decide) rfl Tryz.func26 rfl (by kernel_rfl) rfl (empty_ret hR' hs.bare _ S.hp) ?_
        rintro v24 w ⟨rfl, hT⟩; clear E a; intro a E
        have S := S.all hT
        refine zy E hb21 (zDl E rfl rfl) ?_; clear E a; intro a E
        refine zp E (zAj E rfl rfl hb21 rfl) ?_; clear E a; intro a E
        refine wpList_nil ?_
        refine zAf hK ?_; clear hK; clear K
        refine zBj E rfl (fun hb => ?_) (fun hb => ?_)
        · replace hb := Nrm.nrm hb
          refine wp_seq_k ?_; intro K hK
          refine zAa ?_
          refine zp E (zAe E rfl rfl) ?_; clear E a; intro a E
          refine wpList_nil ?_
          refine zAf hK ?_; clear hK; clear K
          refine wp_ret ?_
          refine zAv ?_; clear hK; clear K
          refine ret1 E rfl rfl ?_
          refine ⟨_, rfl, ?_, S.tail2.tr⟩
          clear S E H hR hs
          simp_all [ckE, ckB]
        · replace hb := Nrm.nrm hb
          refine wp_skip ?_
          refine zAf hK ?_; clear hK; clear K
          refine wp_seq_k ?_; intro K hK
          refine zAa ?_
          refine zp E (zAe E rfl rfl) ?_; clear E a; intro a E
          refine wpList_nil ?_
          refine zAf hK ?_; clear hK; clear K
          refine wp_ret ?_
          refine ret1 E rfl rfl ?_
          refine ⟨_, rfl, ?_, S.tail2.tr⟩
          clear S E H hR hs
          simp_all [ckE, ckB]
end Go.Proofs.YtbogecljkaimdaaGreatDoor
namespace Go.Sl
def txt (t : List UInt8) : List UInt8 := zBm t.length 2 ++ t
theorem zCu (t : List UInt8) : (txt t).length = 2 + t.length := by simp [txt, zBa]
theorem text_fits {s : Wr} {t : List UInt8} (he : s.e = 0) (h1 : t.length ≤ 65535) (hr : s.bs.length + (2 + t.length) ≤ s.room) : s.text t = { s with bs := s.bs ++ txt t } := by
  have hf : s.fits (txt t) = true := by simp only [Wr.fits, zCu, decide_eq_true_eq]; omega
  have hg : ¬ t.length > 65535 := by omega
  have ht : textE t = .inr (txt t) := by simp only [textE, if_neg hg]; rfl
  simp [Wr.text, Wr.lay, ht, he, Wr.putE, Wr.putS, hf]
theorem zJi {z : Int} (h : 0 ≤ z) (h2 : z ≤ 9223372036854775807) : IntKind.u64.wrap z = ((z.toNat : Nat) : Int) := by
  rw [IntWalk.u64_in _ (by omega)]; omega
def zFk (l : List Int) (size : Nat) (more : Int) : List UInt8 := l.flatMap fun n => zBm (n + more).toNat size
theorem zGf (l : List Int) (size : Nat) (more : Int) : (zFk l size more).length = l.length * size := by
  induction l with
  | nil => simp [zFk]
  | cons a l ih =>
    have : zFk (a :: l) size more = zBm (a + more).toNat size ++ zFk l size more := rfl
    rw [this, List.length_append, ih, zBa, List.length_cons, Nat.succ_mul]; omega
theorem keepB_step {l : List Int} {i : Nat} (h : i < l.length) (size : Nat) (more : Int) : zFk (l.take (i + 1)) size more = zFk (l.take i) size more ++ zBm (l[i] + more).toNat size := by
  rw [← List.take_append_getElem h]
  simp only [zFk, List.flatMap_append]
  simp
def zEm (l : List Prp) : List UInt8 := l.flatMap fun p => txt p.name ++ txt p.value
theorem propsL_step {l : List Prp} {i : Nat} (h : i < l.length) : zEm (l.take (i + 1)) = zEm (l.take i) ++ (txt l[i].name ++ txt l[i].value) := by
  rw [← List.take_append_getElem h]
  simp only [zEm, List.flatMap_append]
  simp
theorem propsL_le {l : List Prp} (h : ∀ p ∈ l, p.name.length ≤ 24 ∧ p.value.length ≤ 64) : (zEm l).length ≤ 92 * l.length := by
  induction l with
  | nil => simp [zEm]
  | cons a l ih =>
    have h1 := h a (List.mem_cons_self ..)
    have h2 := ih fun p hp => h p (List.mem_cons_of_mem _ hp)
    have : zEm (a :: l) = (txt a.name ++ txt a.value) ++ zEm l := rfl
    rw [this, List.length_append, List.length_append, zCu, zCu, List.length_cons]; omega
def body1 (r : Rec) : List UInt8 := txt r.name ++ zBm r.many.toNat 2
def zLj (r : Rec) : List UInt8 := txt r.name ++ (zBm r.typ.toNat 1 ++ (zBm r.frm.toNat 6 ++ (zBm r.guid.toNat 6 ++ (zBm r.origin.toNat 1 ++ (txt r.snap ++ (zBm r.props.length 1 ++ zEm r.props))))))
def body3 (r : Rec) : List UInt8 := zBm r.keep.length 2 ++ zFk r.keep 4 0
def body4 (r : Rec) : List UInt8 := zBm r.object.toNat 4 ++ (zBm r.keep.length 2 ++ zFk r.keep 2 1)
def zLk (r : Rec) : List UInt8 := zBm r.object.toNat 4 ++ (zBm (r.at_ + 1).toNat 2 ++ (zBm r.data.length 2 ++ r.data))
def zLl (r : Rec) : List UInt8 := zBm r.many.toNat 4
def zDk (k : Int) (r : Rec) : List UInt8 := if k = 1 then body1 r else if k = 2 then zLj r else if k = 3 then body3 r else if k = 4 then body4 r else if k = 5 then zLk r else zLl r
end Go.Sl
namespace Go.Proofs.YtbogecljkaimdaaGreatDoor
open Go.Sl
set_option maxRecDepth 10000
theorem zHp (p room : Nat) (bs : List UInt8) (A : zAs) (w0 : World) (hA : WrC 94 p ⟨room, bs, 0⟩ A) (t : List UInt8) (H : Hp w0 [A]) (hr : room ≤ 140737488355328) (h1 : t.length ≤ 65535) (hl : bs.length + (2 + t.length) ≤ room) :
    Ret Tryz.prog 51 #[ptr p, str t] w0 fun _ w' => ∃ A', WrC 94 p ⟨room, bs ++ txt t, 0⟩ A' ∧ Trs w0 w' [A] [A'] := by
  refine (text_ret p _ A w0 hA t H hr).mono fun v w' ⟨A', h, hT⟩ => ⟨A', ?_, hT⟩
  rw [text_fits rfl h1 hl] at h
  exact h
theorem zJj {C : zAs} {l : List Int} {v : Value} (hR : Rd C 1 v l.length (ints l)) (hl : l.length ≤ 240) (size : Nat) (more : Int) (h1 : 1 ≤ size) (h4 : size ≤ 4) (hm : 0 ≤ more ∧ more ≤ 1) (hbd : ∀ n ∈ l, 0 ≤ n + more ∧ n + more < 256 ^ size ∧ n ≤ 4294967296)
    (p : Nat) (bs : List UInt8) (A : zAs) (hA : WrC 94 p ⟨2048, bs, 0⟩ A) (hf : bs.length + 2 + l.length * size ≤ 2048) {As : List zAs} (hC : C ∈ As) (w0 : World) (H : Hp w0 (A :: As)) :
    Ret Tryz.prog 58 #[ptr p, v, .int .i64 size, .int .i64 more] w0 fun _ w' => ∃ A', WrC 94 p ⟨2048, bs ++ (zBm l.length 2 ++ zFk l size more), 0⟩ A' ∧ Trs w0 w' (A :: As) (A' :: As) := by
  have S := St.begin H
  obtain ⟨ad, c, rfl⟩ := hR.slice
  refine enter4 29 Tryz.func58 rfl rfl (by decide) ?_; intro a E
  refine wp_seq_k ?_; intro K hK
  refine zAa ?_
  iterate 2 (refine zp E (zAd E rfl rfl) ?_; clear E a; intro a E)
  refine zp E (by first | exact zBv E rfl rfl rfl | exact zAx E rfl rfl rfl | exact zAp E rfl rfl rfl) ?_; clear E a; intro a E
  refine zp E (by first | exact zBi E rfl rfl rfl rfl (by first | exact wu8 _ | exact zFj (by omega) | exact zDt (by omega) | exact w_in (by omega) | exact zCb (by omega) | exact rfl) | exact zBz E rfl rfl rfl rfl rfl (by assumption) (S.stab.at (by simp))) ?_; clear E a; intro a E
  refine zAn E rfl rfl (by decide) rfl Tryz.func30 rfl (by kernel_rfl) rfl (zEg p 2048 bs A _ hA l.length 2 (S.hp.sel (zAi (by repeat (first | exact pk1 | apply zAc)) (zAo _))) (by omega) (by omega) (by omega) (by omega) (by omega)) ?_
  rintro v14 w ⟨A1, hA1, hT⟩; clear E a; intro a E
  have S := S.call1 (zAi (by repeat (first | exact pk1 | apply zAc)) (zAo _)) hT
  refine wpList_nil ?_
  refine zAf hK ?_; clear hK; clear K
  refine wp_seq_k ?_; intro K hK
  refine zAa ?_
  refine zp E (zAd E rfl rfl) ?_; clear E a; intro a E
  refine zp E (by first | exact zBv E rfl rfl rfl | exact zAx E rfl rfl rfl | exact zAp E rfl rfl rfl) ?_; clear E a; intro a E
  refine zp E (zAd E rfl rfl) ?_; clear E a; intro a E
  refine wpList_nil ?_
  refine zAf hK ?_; clear hK; clear K
  refine wp_block ?_
  refine wp_loop_ghost (fun (m : Nat) (a : Act) (w' : World) => ∃ (i : Nat) (A' : zAs), m = l.length - i ∧ i ≤ l.length ∧ WrC 94 p ⟨2048, bs ++ (zBm l.length 2 ++ zFk (l.take i) size more), 0⟩ A' ∧ St w0 (A :: As) w' (A' :: As) ∧ Fr a 29 [(0, ptr p), (2, .int .i64 size), (3, .int .i64 more), (15, .slice ad l.length c), (16, .int .i64 l.length), (17, .int .i64 i)]) (l.length) ?_ ?_
  · exact ⟨0, A1, by omega, by omega, by simpa [zFk] using hA1, S, E.keep (zAb rfl (zAb rfl (zAb rfl (zAb rfl (zAb rfl (zAb rfl zAr))))))⟩
  clear E; clear a; (try clear S); rintro m a w ⟨i, A', rfl, hi, hA', S, E⟩
  refine wp_seq_k ?_; intro K hK
  refine zAa ?_
  refine zp E (zCw E rfl rfl rfl) ?_; clear E a; intro a E
  refine wpList_nil ?_
  refine zAf hK ?_; clear hK; clear K
  refine wp_seq_k ?_; intro K hK
  refine zBj E rfl (fun hb => ?_) (fun hb => ?_)
  · replace hb := Nrm.nrm hb
    refine wp_skip ?_
    refine zAf hK ?_; clear hK; clear K
    refine wp_seq_k ?_; intro K hK
    refine wp_block ?_
    refine wp_seq_k ?_; intro K hK
    have hil : i < l.length := by omega
    obtain ⟨b, off, rfl⟩ := hR.addr (by omega)
    have hbi := hbd _ (List.getElem_mem hil)
    have hki : i * size + size ≤ l.length * size := by rw [← Nat.succ_mul]; exact Nat.mul_le_mul_right _ hil
    refine zAa ?_
    refine zp E (by first | exact zBp E rfl rfl rfl rfl rfl rfl (by omega) | exact zBs E rfl rfl rfl rfl rfl rfl (by omega) | exact zBe E rfl rfl rfl rfl rfl rfl (by omega)) ?_; clear E a; intro a E
    refine zp E (zAl E rfl rfl rfl (hR.cells (S.stab.at (List.mem_cons_of_mem _ hC)) rfl i _ (zJh hil))) ?_; clear E a; intro a E
    refine zp E (zAe E rfl rfl) ?_; clear E a; intro a E
    refine wpList_nil ?_
    refine zAf hK ?_; clear hK; clear K
    refine zAa ?_
    iterate 3 (refine zp E (zAd E rfl rfl) ?_; clear E a; intro a E)
    refine zp E (zCc E rfl rfl rfl (w_in (by omega))) ?_; clear E a; intro a E
    refine zp E (zBi E rfl rfl rfl rfl (zJi hbi.1 (by omega))) ?_; clear E a; intro a E
    refine zp E (zAd E rfl rfl) ?_; clear E a; intro a E
    refine zAn E rfl rfl (by decide) rfl Tryz.func30 rfl (by kernel_rfl) rfl (zEg p 2048 _ A' _ hA' (l[i] + more).toNat size (S.hp.sel (zAi (by repeat (first | exact pk1 | apply zAc)) (zAo _))) (by omega) h1 (by omega) (by have := hbi.2.1; have h0 := hbi.1; exact (Int.toNat_lt h0).2 (by exact_mod_cast this)) (by simp only [List.length_append, zBa, zGf, List.length_take]; rw [Nat.min_eq_left hi]; omega)) ?_
    rintro v27 w ⟨A2, hA2, hT⟩; clear E a; intro a E
    have S := S.call1 (zAi (by repeat (first | exact pk1 | apply zAc)) (zAo _)) hT
    refine wpList_nil ?_
    refine zBo ?_
    refine zAf hK ?_; clear hK; clear K
    refine zAa ?_
    refine zp E (zCc E rfl rfl rfl (by first | exact zCt (y := 1) (by omega) | exact w_in (by omega) | exact zCb (by omega) | exact rfl)) ?_; clear E a; intro a E
    refine zp E (zAd E rfl rfl) ?_; clear E a; intro a E
    refine wpList_nil ?_
    refine zBn ?_
    exact ⟨_, by omega, i + 1, A2, rfl, by omega, by rw [keepB_step hil]; simpa using hA2, S, E.keep (zAb rfl (zAb rfl (zAb rfl (zAb rfl (zAb rfl (zAb rfl zAr))))))⟩
  · replace hb := Nrm.nrm hb
    refine wp_exit ?_
    refine zBf ?_; clear hK; clear K
    refine zBf ?_
    refine zCr ?_
    refine end0 E rfl ?_
    obtain rfl : i = l.length := by omega
    rw [List.take_length] at hA'
    exact ⟨_, rfl, A', hA', S.tr⟩
end Go.Proofs.YtbogecljkaimdaaGreatDoor
namespace Go.Sl
theorem zHq {l : List UInt8} (h : zGq l = true) : l.length ≤ 24 := ((partB_iff l).1 h).2.1
theorem zLm {r : Rec} (h : may1 r = true) : r.name.length ≤ 24 ∧ 1 ≤ r.many ∧ r.many ≤ 120 := by
  simp only [may1, Bool.and_eq_true, decide_eq_true_eq] at h
  exact ⟨zHq h.1, h.2⟩
theorem beh_len {l : List UInt8} (h : behB l = true) : l.length ≤ 240 := by
  cases l with
  | nil => simp
  | cons c l =>
    simp only [behB, Bool.and_eq_true, zHj] at h
    have := h.2.1
    simp only [List.length_cons] at *
    omega
theorem zLn {l : List Prp} (h : zLf l = true) : l.length ≤ 12 ∧ ∀ p ∈ l, p.name.length ≤ 24 ∧ p.value.length ≤ 64 := by
  rw [prpsB_iff] at h
  refine ⟨h.1, fun p hp => ?_⟩
  obtain ⟨i, hi, rfl⟩ := List.getElem_of_mem hp
  have := h.2 i hi
  exact ⟨zHq this.1, this.2.2.1⟩
theorem zGg {l : List Int} {x y : Int} (h : risB l x y = true) : l.length ≤ 240 ∧ ∀ n ∈ l, x ≤ n ∧ n ≤ y := by
  rw [risB_iff] at h
  refine ⟨h.1, fun n hn => ?_⟩
  obtain ⟨i, hi, rfl⟩ := List.getElem_of_mem hn
  have := h.2 i hi
  exact ⟨this.1, this.2.1⟩
end Go.Sl
namespace Go.Proofs.YtbogecljkaimdaaGreatDoor
open Go.Sl
set_option maxRecDepth 10000
section
variable {C : zAs} {r : Rec} {pv kv dv : Value} (hR : RecR C r pv kv dv) {As : List zAs} (hC : C ∈ As) (p : Nat) (A : zAs) (hA : WrC 94 p ⟨2048, [], 0⟩ A) (w0 : World) (H : Hp w0 (A :: As))
include hR hC hA H
theorem lay1_ret (h : may1 r = true) : Ret Tryz.prog 50 #[ptr p, .agg (r.cells pv kv dv).toArray] w0 fun _ w' => ∃ A', WrC 94 p ⟨2048, body1 r, 0⟩ A' ∧ Trs w0 w' (A :: As) (A' :: As) := by
  have _ := hC
  have S := St.begin H
  have hn := zLm h
  obtain ⟨ad1, c1, rfl⟩ := hR.pr.slice
  obtain ⟨ad2, c2, rfl⟩ := hR.kr.slice
  obtain ⟨ad3, c3, rfl⟩ := hR.dr.slice
  refine zCg 13 Tryz.func50 rfl rfl (by decide) ?_; intro a E
  refine wp_seq_k ?_; intro K hK
  refine zAa ?_
  refine zAm rfl (zCk E S rfl rfl (by decide) rfl rfl ?_); clear E S a; intro a w b3 E S
  refine wpList_nil ?_
  refine zAf hK ?_; clear hK; clear K
  refine wp_seq_k ?_; intro K hK
  refine zAa ?_
  refine zp E (zAd E rfl rfl) ?_; clear E a; intro a E
  refine zp E (by first | exact zAg (q := 1) E rfl rfl rfl | exact zAh (q := 1) E rfl rfl rfl) ?_; clear E a; intro a E
  refine zp E (by first | exact zAq E rfl rfl rfl (S.get (by repeat (first | exact pk1 | apply zAc))) rfl | exact zAl E rfl rfl rfl (by assumption)) ?_; clear E a; intro a E
  refine zAn E rfl rfl (by decide) rfl Tryz.func51 rfl (by kernel_rfl) rfl (zHp p 2048 [] A _ hA r.name (S.hp.sel (zAi (by repeat (first | exact pk1 | apply zAc)) (zAo _))) (by omega) (by omega) (by simp only [List.length_nil]; omega)) ?_
  rintro v7 w ⟨A1, hA1, hT⟩; clear E a; intro a E
  have S := S.call1 (zAi (by repeat (first | exact pk1 | apply zAc)) (zAo _)) hT
  refine wpList_nil ?_
  refine zAf hK ?_; clear hK; clear K
  refine zAa ?_
  refine zp E (zAd E rfl rfl) ?_; clear E a; intro a E
  refine zp E (by first | exact zAg (q := 10) E rfl rfl rfl | exact zAh (q := 10) E rfl rfl rfl) ?_; clear E a; intro a E
  refine zp E (by first | exact zAq E rfl rfl rfl (S.get (by repeat (first | exact pk1 | apply zAc))) rfl | exact zAl E rfl rfl rfl (by assumption)) ?_; clear E a; intro a E
  refine zp E (zBi E rfl rfl rfl rfl (zJi (by omega) (by omega))) ?_; clear E a; intro a E
  refine zAn E rfl rfl (by decide) rfl Tryz.func30 rfl (by kernel_rfl) rfl (zEg p 2048 _ A1 _ hA1 r.many.toNat 2 (S.hp.sel (zAi (by repeat (first | exact pk1 | apply zAc)) (zAo _))) (by omega) (by omega) (by omega) (by omega) (by simp only [List.length_append, zCu, List.length_nil]; omega)) ?_
  rintro v12 w ⟨A2, hA2, hT⟩; clear E a; intro a E
  have S := S.call1 (zAi (by repeat (first | exact pk1 | apply zAc)) (zAo _)) hT
  refine wpList_nil ?_
  refine end0 E rfl ?_
  exact ⟨_, rfl, A2, by simpa [body1] using hA2, S.perm2.tail.tr⟩
theorem lay3_ret (h : may3 r = true) : Ret Tryz.prog 57 #[ptr p, .agg (r.cells pv kv dv).toArray] w0 fun _ w' => ∃ A', WrC 94 p ⟨2048, body3 r, 0⟩ A' ∧ Trs w0 w' (A :: As) (A' :: As) := by
  have S := St.begin H
  have hn := zGg h
  refine zCg 8 Tryz.func57 rfl rfl (by decide) ?_; intro a E
  refine wp_seq_k ?_; intro K hK
  refine zAa ?_
  refine zAm rfl (zCk E S rfl rfl (by decide) rfl rfl ?_); clear E S a; intro a w b3 E S
  refine wpList_nil ?_
  refine zAf hK ?_; clear hK; clear K
  refine zAa ?_
  refine zp E (zAd E rfl rfl) ?_; clear E a; intro a E
  refine zp E (by first | exact zAg (q := 11) E rfl rfl rfl | exact zAh (q := 11) E rfl rfl rfl) ?_; clear E a; intro a E
  refine zp E (by first | exact zAq E rfl rfl rfl (S.get (by repeat (first | exact pk1 | apply zAc))) rfl | exact zAl E rfl rfl rfl (by assumption)) ?_; clear E a; intro a E
  have S := S.perm2
  refine zAn E rfl rfl (by decide) rfl Tryz.func58 rfl (by kernel_rfl) rfl (zJj hR.kr hn.1 4 0 (by omega) (by omega) (by omega) (fun n hq => by have := hn.2 n hq; omega) p [] A hA (by simp only [List.length_nil]; omega) (List.mem_cons_of_mem _ hC) _ S.hp) ?_
  rintro v7 w ⟨A1, hA1, hT⟩; clear E a; intro a E
  have S := S.all hT
  refine wpList_nil ?_
  refine end0 E rfl ?_
  exact ⟨_, rfl, A1, by simpa [body3] using hA1, S.perm2.tail.tr⟩
theorem lay4_ret (h : may4 r = true) : Ret Tryz.prog 62 #[ptr p, .agg (r.cells pv kv dv).toArray] w0 fun _ w' => ∃ A', WrC 94 p ⟨2048, body4 r, 0⟩ A' ∧ Trs w0 w' (A :: As) (A' :: As) := by
  have S := St.begin H
  simp only [may4, Bool.and_eq_true, decide_eq_true_eq] at h
  have hn := zGg h.2.2
  refine zCg 13 Tryz.func62 rfl rfl (by decide) ?_; intro a E
  refine wp_seq_k ?_; intro K hK
  refine zAa ?_
  refine zAm rfl (zCk E S rfl rfl (by decide) rfl rfl ?_); clear E S a; intro a w b3 E S
  refine wpList_nil ?_
  refine zAf hK ?_; clear hK; clear K
  refine wp_seq_k ?_; intro K hK
  refine zAa ?_
  refine zp E (zAd E rfl rfl) ?_; clear E a; intro a E
  refine zp E (by first | exact zAg (q := 8) E rfl rfl rfl | exact zAh (q := 8) E rfl rfl rfl) ?_; clear E a; intro a E
  refine zp E (by first | exact zAq E rfl rfl rfl (S.get (by repeat (first | exact pk1 | apply zAc))) rfl | exact zAl E rfl rfl rfl (by assumption)) ?_; clear E a; intro a E
  refine zp E (zBi E rfl rfl rfl rfl (zJi (by omega) (by omega))) ?_; clear E a; intro a E
  refine zAn E rfl rfl (by decide) rfl Tryz.func30 rfl (by kernel_rfl) rfl (zEg p 2048 _ A _ hA r.object.toNat 4 (S.hp.sel (zAi (by repeat (first | exact pk1 | apply zAc)) (zAo _))) (by omega) (by omega) (by omega) (by omega) (by simp only [List.length_nil]; omega)) ?_
  rintro v8 w ⟨A1, hA1, hT⟩; clear E a; intro a E
  have S := S.call1 (zAi (by repeat (first | exact pk1 | apply zAc)) (zAo _)) hT
  refine wpList_nil ?_
  refine zAf hK ?_; clear hK; clear K
  refine zAa ?_
  refine zp E (zAd E rfl rfl) ?_; clear E a; intro a E
  refine zp E (by first | exact zAg (q := 11) E rfl rfl rfl | exact zAh (q := 11) E rfl rfl rfl) ?_; clear E a; intro a E
  refine zp E (by first | exact zAq E rfl rfl rfl (S.get (by repeat (first | exact pk1 | apply zAc))) rfl | exact zAl E rfl rfl rfl (by assumption)) ?_; clear E a; intro a E
  refine zAn E rfl rfl (by decide) rfl Tryz.func58 rfl (by kernel_rfl) rfl (zJj hR.kr hn.1 2 1 (by omega) (by omega) (by omega) (fun n hq => by have := hn.2 n hq; omega) p _ A1 hA1 (by simp only [List.length_append, zBa, List.length_nil]; omega) (List.mem_cons_of_mem _ hC) _ S.hp) ?_
  rintro v12 w ⟨A2, hA2, hT⟩; clear E a; intro a E
  have S := S.all hT
  refine wpList_nil ?_
  refine end0 E rfl ?_
  exact ⟨_, rfl, A2, by simpa [body4] using hA2, S.perm2.tail.tr⟩
theorem lay5_ret (h : may5 r = true) : Ret Tryz.prog 65 #[ptr p, .agg (r.cells pv kv dv).toArray] w0 fun _ w' => ∃ A', WrC 94 p ⟨2048, zLk r, 0⟩ A' ∧ Trs w0 w' (A :: As) (A' :: As) := by
  have S := St.begin H
  simp only [may5, Bool.and_eq_true, decide_eq_true_eq] at h
  have hd := hR.dr
  obtain ⟨ad3, c3, rfl⟩ := hd.slice
  obtain ⟨R', hperm⟩ : ∃ R', As.Perm (C :: R') := (by obtain ⟨X, Y, rfl⟩ := List.mem_iff_append.1 hC; exact ⟨X ++ Y, List.perm_middle⟩)
  refine zCg 25 Tryz.func65 rfl rfl (by decide) ?_; intro a E
  refine wp_seq_k ?_; intro K hK
  refine zAa ?_
  refine zAm rfl (zCk E S rfl rfl (by decide) rfl rfl ?_); clear E S a; intro a w b3 E S
  refine wpList_nil ?_
  refine zAf hK ?_; clear hK; clear K
  refine wp_seq_k ?_; intro K hK
  refine zAa ?_
  refine zp E (zAd E rfl rfl) ?_; clear E a; intro a E
  refine zp E (by first | exact zAg (q := 8) E rfl rfl rfl | exact zAh (q := 8) E rfl rfl rfl) ?_; clear E a; intro a E
  refine zp E (by first | exact zAq E rfl rfl rfl (S.get (by repeat (first | exact pk1 | apply zAc))) rfl | exact zAl E rfl rfl rfl (by assumption)) ?_; clear E a; intro a E
  refine zp E (zBi E rfl rfl rfl rfl (zJi (by omega) (by omega))) ?_; clear E a; intro a E
  refine zAn E rfl rfl (by decide) rfl Tryz.func30 rfl (by kernel_rfl) rfl (zEg p 2048 _ A _ hA r.object.toNat 4 (S.hp.sel (zAi (by repeat (first | exact pk1 | apply zAc)) (zAo _))) (by omega) (by omega) (by omega) (by omega) (by simp only [List.length_nil]; omega)) ?_
  rintro v8 w ⟨A1, hA1, hT⟩; clear E a; intro a E
  have S := S.call1 (zAi (by repeat (first | exact pk1 | apply zAc)) (zAo _)) hT
  refine wpList_nil ?_
  refine zAf hK ?_; clear hK; clear K
  refine wp_seq_k ?_; intro K hK
  refine zAa ?_
  refine zp E (zAd E rfl rfl) ?_; clear E a; intro a E
  refine zp E (by first | exact zAg (q := 9) E rfl rfl rfl | exact zAh (q := 9) E rfl rfl rfl) ?_; clear E a; intro a E
  refine zp E (by first | exact zAq E rfl rfl rfl (S.get (by repeat (first | exact pk1 | apply zAc))) rfl | exact zAl E rfl rfl rfl (by assumption)) ?_; clear E a; intro a E
  refine zp E (zCc E rfl rfl rfl (w_in (by omega))) ?_; clear E a; intro a E
  refine zp E (zBi E rfl rfl rfl rfl (zJi (by omega) (by omega))) ?_; clear E a; intro a E
  refine zAn E rfl rfl (by decide) rfl Tryz.func30 rfl (by kernel_rfl) rfl (zEg p 2048 _ A1 _ hA1 (r.at_ + 1).toNat 2 (S.hp.sel (zAi (by repeat (first | exact pk1 | apply zAc)) (zAo _))) (by omega) (by omega) (by omega) (by omega) (by simp only [List.length_append, zBa, List.length_nil]; omega)) ?_
  rintro v14 w ⟨A2, hA2, hT⟩; clear E a; intro a E
  have S := S.call1 (zAi (by repeat (first | exact pk1 | apply zAc)) (zAo _)) hT
  refine wpList_nil ?_
  refine zAf hK ?_; clear hK; clear K
  refine wp_seq_k ?_; intro K hK
  refine zAa ?_
  refine zp E (zAd E rfl rfl) ?_; clear E a; intro a E
  refine zp E (by first | exact zAg (q := 12) E rfl rfl rfl | exact zAh (q := 12) E rfl rfl rfl) ?_; clear E a; intro a E
  refine zp E (by first | exact zAq E rfl rfl rfl (S.get (by repeat (first | exact pk1 | apply zAc))) rfl | exact zAl E rfl rfl rfl (by assumption)) ?_; clear E a; intro a E
  refine zp E (by first | exact zBv E rfl rfl rfl | exact zAx E rfl rfl rfl | exact zAp E rfl rfl rfl) ?_; clear E a; intro a E
  refine zp E (by first | exact zBi E rfl rfl rfl rfl (by first | exact wu8 _ | exact zFj (by omega) | exact zDt (by omega) | exact w_in (by omega) | exact zCb (by omega) | exact rfl) | exact zBz E rfl rfl rfl rfl rfl (by assumption) (S.stab.at (by simp))) ?_; clear E a; intro a E
  refine zAn E rfl rfl (by decide) rfl Tryz.func30 rfl (by kernel_rfl) rfl (zEg p 2048 _ A2 _ hA2 r.data.length 2 (S.hp.sel (zAi (by repeat (first | exact pk1 | apply zAc)) (zAo _))) (by omega) (by omega) (by omega) (by omega) (by simp only [List.length_append, zBa, List.length_nil]; omega)) ?_
  rintro v20 w ⟨A3, hA3, hT⟩; clear E a; intro a E
  have S := S.call1 (zAi (by repeat (first | exact pk1 | apply zAc)) (zAo _)) hT
  refine wpList_nil ?_
  refine zAf hK ?_; clear hK; clear K
  refine zAa ?_
  refine zp E (zAd E rfl rfl) ?_; clear E a; intro a E
  refine zp E (by first | exact zAg (q := 12) E rfl rfl rfl | exact zAh (q := 12) E rfl rfl rfl) ?_; clear E a; intro a E
  refine zp E (by first | exact zAq E rfl rfl rfl (S.get (by repeat (first | exact pk1 | apply zAc))) rfl | exact zAl E rfl rfl rfl (by assumption)) ?_; clear E a; intro a E
  refine zAn E rfl rfl (by decide) rfl Tryz.func66 rfl (by kernel_rfl) rfl (bytes_fit p 2048 _ A3 C _ hA3 _ r.data hd (S.hp.sel (zAi (by repeat (first | exact pk1 | apply zAc)) (zAi (zAc hperm) (zAo _)))) (by omega) (by simp only [List.length_append, zBa, List.length_nil]; omega)) ?_
  rintro v24 w ⟨A4, hA4, hT⟩; clear E a; intro a E
  have S := S.call2 (zAi (by repeat (first | exact pk1 | apply zAc)) (zAi (zAc hperm) (zAo _))) hT
  refine wpList_nil ?_
  refine end0 E rfl ?_
  exact ⟨_, rfl, A4, by simpa [zLk] using hA4, (((S.front1 (A := [(b3, _)]) (by repeat (first | exact pk1 | apply zAc))).tail).perm (hperm.symm.cons _)).tr⟩
theorem lay6_ret (h : may6 r = true) : Ret Tryz.prog 100 #[ptr p, .agg (r.cells pv kv dv).toArray] w0 fun _ w' => ∃ A', WrC 94 p ⟨2048, zLl r, 0⟩ A' ∧ Trs w0 w' (A :: As) (A' :: As) := by
  have _ := hR
  have _ := hC
  have S := St.begin H
  simp only [may6, decide_eq_true_eq] at h
  refine zCg 9 Tryz.func100 rfl rfl (by decide) ?_; intro a E
  refine wp_seq_k ?_; intro K hK
  refine zAa ?_
  refine zAm rfl (zCk E S rfl rfl (by decide) rfl rfl ?_); clear E S a; intro a w b3 E S
  refine wpList_nil ?_
  refine zAf hK ?_; clear hK; clear K
  refine zAa ?_
  refine zp E (zAd E rfl rfl) ?_; clear E a; intro a E
  refine zp E (by first | exact zAg (q := 10) E rfl rfl rfl | exact zAh (q := 10) E rfl rfl rfl) ?_; clear E a; intro a E
  refine zp E (by first | exact zAq E rfl rfl rfl (S.get (by repeat (first | exact pk1 | apply zAc))) rfl | exact zAl E rfl rfl rfl (by assumption)) ?_; clear E a; intro a E
  refine zp E (zBi E rfl rfl rfl rfl (zJi (by omega) (by omega))) ?_; clear E a; intro a E
  refine zAn E rfl rfl (by decide) rfl Tryz.func30 rfl (by kernel_rfl) rfl (zEg p 2048 _ A _ hA r.many.toNat 4 (S.hp.sel (zAi (by repeat (first | exact pk1 | apply zAc)) (zAo _))) (by omega) (by omega) (by omega) (by omega) (by simp only [List.length_nil]; omega)) ?_
  rintro v8 w ⟨A1, hA1, hT⟩; clear E a; intro a E
  have S := S.call1 (zAi (by repeat (first | exact pk1 | apply zAc)) (zAo _)) hT
  refine wpList_nil ?_
  refine end0 E rfl ?_
  exact ⟨_, rfl, A1, by simpa [zLl] using hA1, S.perm2.tail.tr⟩
end
end Go.Proofs.YtbogecljkaimdaaGreatDoor
namespace Go.Proofs.YtbogecljkaimdaaGreatDoor
open Go.Sl
set_option maxRecDepth 10000
section
variable {C : zAs} {r : Rec} {pv kv dv : Value} (hR : RecR C r pv kv dv) {As : List zAs} (hC : C ∈ As) (p : Nat) (A : zAs) (hA : WrC 94 p ⟨2048, [], 0⟩ A) (w0 : World) (H : Hp w0 (A :: As))
include hR hC hA H
theorem lay2_ret (h : begB r = true) : Ret Tryz.prog 94 #[ptr p, .agg (r.cells pv kv dv).toArray] w0 fun _ w' => ∃ A', WrC 94 p ⟨2048, zLj r, 0⟩ A' ∧ Trs w0 w' (A :: As) (A' :: As) := by
  have S := St.begin H
  obtain ⟨q1, q2, q3, q4, q5, q6, q7⟩ := (zDz r).1 h
  have h1 := beh_len q1
  have h2 := zHq q6
  have h3 := zLn q7
  have hP := hR.pr
  obtain ⟨adp, cp, rfl⟩ := hP.slice
  refine zCg 56 Tryz.func94 rfl rfl (by decide) ?_; intro a E
  refine wp_seq_k ?_; intro K hK
  refine zAa ?_
  refine zAm rfl (zCk E S rfl rfl (by decide) rfl rfl ?_); clear E S a; intro a w b3 E S
  refine wpList_nil ?_
  refine zAf hK ?_; clear hK; clear K
  refine wp_seq_k ?_; intro K hK
  refine zAa ?_
  refine zp E (zAd E rfl rfl) ?_; clear E a; intro a E
  refine zp E (by first | exact zAg (q := 1) E rfl rfl rfl | exact zAh (q := 1) E rfl rfl rfl) ?_; clear E a; intro a E
  refine zp E (by first | exact zAq E rfl rfl rfl (S.get (by repeat (first | exact pk1 | apply zAc))) rfl | exact zAl E rfl rfl rfl (by assumption)) ?_; clear E a; intro a E
  refine zAn E rfl rfl (by decide) rfl Tryz.func51 rfl (by kernel_rfl) rfl (zHp p 2048 [] A _ hA r.name (S.hp.sel (zAi (by repeat (first | exact pk1 | apply zAc)) (zAo _))) (by omega) (by omega) (by simp only [List.length_nil]; omega)) ?_
  rintro v9 w ⟨A1, hA1, hT⟩; clear E a; intro a E
  replace S := S.call1 (zAi (by repeat (first | exact pk1 | apply zAc)) (zAo _)) hT
  refine wpList_nil ?_
  refine zAf hK ?_; clear hK; clear K
  refine wp_seq_k ?_; intro K hK
  refine zAa ?_
  refine zp E (zAd E rfl rfl) ?_; clear E a; intro a E
  refine zp E (by first | exact zAg (q := 2) E rfl rfl rfl | exact zAh (q := 2) E rfl rfl rfl) ?_; clear E a; intro a E
  refine zp E (by first | exact zAq E rfl rfl rfl (S.get (by repeat (first | exact pk1 | apply zAc))) rfl | exact zAl E rfl rfl rfl (by assumption)) ?_; clear E a; intro a E
  refine zp E (zBi E rfl rfl rfl rfl (zJi (by omega) (by omega))) ?_; clear E a; intro a E
  refine zAn E rfl rfl (by decide) rfl Tryz.func30 rfl (by kernel_rfl) rfl (zEg p 2048 _ A1 _ hA1 r.typ.toNat 1 (S.hp.sel (zAi (by repeat (first | exact pk1 | apply zAc)) (zAo _))) (by omega) (by omega) (by omega) (by omega) (by simp only [List.length_append, zCu, zBa, List.length_nil]; omega)) ?_
  rintro v14 w ⟨A2, hA2, hT⟩; clear E a; intro a E
  replace S := S.call1 (zAi (by repeat (first | exact pk1 | apply zAc)) (zAo _)) hT
  refine wpList_nil ?_
  refine zAf hK ?_; clear hK; clear K
  refine wp_seq_k ?_; intro K hK
  refine zAa ?_
  refine zp E (zAd E rfl rfl) ?_; clear E a; intro a E
  refine zp E (by first | exact zAg (q := 3) E rfl rfl rfl | exact zAh (q := 3) E rfl rfl rfl) ?_; clear E a; intro a E
  refine zp E (by first | exact zAq E rfl rfl rfl (S.get (by repeat (first | exact pk1 | apply zAc))) rfl | exact zAl E rfl rfl rfl (by assumption)) ?_; clear E a; intro a E
  refine zp E (zBi E rfl rfl rfl rfl (zJi (by omega) (by omega))) ?_; clear E a; intro a E
  refine zAn E rfl rfl (by decide) rfl Tryz.func30 rfl (by kernel_rfl) rfl (zEg p 2048 _ A2 _ hA2 r.frm.toNat 6 (S.hp.sel (zAi (by repeat (first | exact pk1 | apply zAc)) (zAo _))) (by omega) (by omega) (by omega) (by omega) (by simp only [List.length_append, zCu, zBa, List.length_nil]; omega)) ?_
  rintro v19 w ⟨A3, hA3, hT⟩; clear E a; intro a E
  replace S := S.call1 (zAi (by repeat (first | exact pk1 | apply zAc)) (zAo _)) hT
  refine wpList_nil ?_
  refine zAf hK ?_; clear hK; clear K
  refine wp_seq_k ?_; intro K hK
  refine zAa ?_
  refine zp E (zAd E rfl rfl) ?_; clear E a; intro a E
  refine zp E (by first | exact zAg (q := 4) E rfl rfl rfl | exact zAh (q := 4) E rfl rfl rfl) ?_; clear E a; intro a E
  refine zp E (by first | exact zAq E rfl rfl rfl (S.get (by repeat (first | exact pk1 | apply zAc))) rfl | exact zAl E rfl rfl rfl (by assumption)) ?_; clear E a; intro a E
  refine zp E (zBi E rfl rfl rfl rfl (zJi (by omega) (by omega))) ?_; clear E a; intro a E
  refine zAn E rfl rfl (by decide) rfl Tryz.func30 rfl (by kernel_rfl) rfl (zEg p 2048 _ A3 _ hA3 r.guid.toNat 6 (S.hp.sel (zAi (by repeat (first | exact pk1 | apply zAc)) (zAo _))) (by omega) (by omega) (by omega) (by omega) (by simp only [List.length_append, zCu, zBa, List.length_nil]; omega)) ?_
  rintro v24 w ⟨A4, hA4, hT⟩; clear E a; intro a E
  replace S := S.call1 (zAi (by repeat (first | exact pk1 | apply zAc)) (zAo _)) hT
  refine wpList_nil ?_
  refine zAf hK ?_; clear hK; clear K
  refine wp_seq_k ?_; intro K hK
  refine zAa ?_
  refine zp E (zAd E rfl rfl) ?_; clear E a; intro a E
  refine zp E (by first | exact zAg (q := 5) E rfl rfl rfl | exact zAh (q := 5) E rfl rfl rfl) ?_; clear E a; intro a E
  refine zp E (by first | exact zAq E rfl rfl rfl (S.get (by repeat (first | exact pk1 | apply zAc))) rfl | exact zAl E rfl rfl rfl (by assumption)) ?_; clear E a; intro a E
  refine zp E (zBi E rfl rfl rfl rfl (zJi (by omega) (by omega))) ?_; clear E a; intro a E
  refine zAn E rfl rfl (by decide) rfl Tryz.func30 rfl (by kernel_rfl) rfl (zEg p 2048 _ A4 _ hA4 r.origin.toNat 1 (S.hp.sel (zAi (by repeat (first | exact pk1 | apply zAc)) (zAo _))) (by omega) (by omega) (by omega) (by omega) (by simp only [List.length_append, zCu, zBa, List.length_nil]; omega)) ?_
  rintro v29 w ⟨A5, hA5, hT⟩; clear E a; intro a E
  replace S := S.call1 (zAi (by repeat (first | exact pk1 | apply zAc)) (zAo _)) hT
  refine wpList_nil ?_
  refine zAf hK ?_; clear hK; clear K
  refine wp_seq_k ?_; intro K hK
  replace E := E.keep (e' := [(0, _), (3, _)]) (zAb rfl (zAb rfl (zAr)))
  refine zAa ?_
  refine zp E (zAd E rfl rfl) ?_; clear E a; intro a E
  refine zp E (by first | exact zAg (q := 6) E rfl rfl rfl | exact zAh (q := 6) E rfl rfl rfl) ?_; clear E a; intro a E
  refine zp E (by first | exact zAq E rfl rfl rfl (S.get (by repeat (first | exact pk1 | apply zAc))) rfl | exact zAl E rfl rfl rfl (by assumption)) ?_; clear E a; intro a E
  refine zAn E rfl rfl (by decide) rfl Tryz.func51 rfl (by kernel_rfl) rfl (zHp p 2048 _ A5 _ hA5 r.snap (S.hp.sel (zAi (by repeat (first | exact pk1 | apply zAc)) (zAo _))) (by omega) (by omega) (by simp only [List.length_append, zCu, zBa, List.length_nil]; omega)) ?_
  rintro v33 w ⟨A6, hA6, hT⟩; clear E a; intro a E
  replace S := S.call1 (zAi (by repeat (first | exact pk1 | apply zAc)) (zAo _)) hT
  refine wpList_nil ?_
  refine zAf hK ?_; clear hK; clear K
  refine wp_seq_k ?_; intro K hK
  refine zAa ?_
  refine zp E (zAd E rfl rfl) ?_; clear E a; intro a E
  refine zp E (by first | exact zAg (q := 7) E rfl rfl rfl | exact zAh (q := 7) E rfl rfl rfl) ?_; clear E a; intro a E
  refine zp E (by first | exact zAq E rfl rfl rfl (S.get (by repeat (first | exact pk1 | apply zAc))) rfl | exact zAl E rfl rfl rfl (by assumption)) ?_; clear E a; intro a E
  refine zp E (by first | exact zBv E rfl rfl rfl | exact zAx E rfl rfl rfl | exact zAp E rfl rfl rfl) ?_; clear E a; intro a E
  refine zp E (by first | exact zBi E rfl rfl rfl rfl (by first | exact wu8 _ | exact zFj (by omega) | exact zDt (by omega) | exact w_in (by omega) | exact zCb (by omega) | exact rfl) | exact zBz E rfl rfl rfl rfl rfl (by assumption) (S.stab.at (by simp))) ?_; clear E a; intro a E
  refine zAn E rfl rfl (by decide) rfl Tryz.func30 rfl (by kernel_rfl) rfl (zEg p 2048 _ A6 _ hA6 r.props.length 1 (S.hp.sel (zAi (by repeat (first | exact pk1 | apply zAc)) (zAo _))) (by omega) (by omega) (by omega) (by omega) (by simp only [List.length_append, zCu, zBa, List.length_nil]; omega)) ?_
  rintro v39 w ⟨A7, hA7, hT⟩; clear E a; intro a E
  replace S := S.call1 (zAi (by repeat (first | exact pk1 | apply zAc)) (zAo _)) hT
  refine wpList_nil ?_
  refine zAf hK ?_; clear hK; clear K
  refine wp_seq_k ?_; intro K hK
  obtain ⟨pre, hpre⟩ : ∃ pre, pre = txt r.name ++ (zBm r.typ.toNat 1 ++ (zBm r.frm.toNat 6 ++ (zBm r.guid.toNat 6 ++ (zBm r.origin.toNat 1 ++ (txt r.snap ++ zBm r.props.length 1))))) := ⟨_, rfl⟩
  have hpl : pre.length ≤ 300 := by rw [hpre]; simp only [List.length_append, zCu, zBa]; omega
  have hA8 : WrC 94 p ⟨2048, pre ++ zEm (r.props.take 0), 0⟩ A7 := by rw [hpre]; simpa [zEm] using hA7
  refine zAa ?_
  refine zp E (by first | exact zAg (q := 7) E rfl rfl rfl | exact zAh (q := 7) E rfl rfl rfl) ?_; clear E a; intro a E
  refine zp E (by first | exact zAq E rfl rfl rfl (S.get (by repeat (first | exact pk1 | apply zAc))) rfl | exact zAl E rfl rfl rfl (by assumption)) ?_; clear E a; intro a E
  refine zp E (by first | exact zBv E rfl rfl rfl | exact zAx E rfl rfl rfl | exact zAp E rfl rfl rfl) ?_; clear E a; intro a E
  refine zp E (zAd E rfl rfl) ?_; clear E a; intro a E
  refine wpList_nil ?_
  refine zAf hK ?_; clear hK; clear K
  refine wp_block ?_
  refine wp_loop_ghost (fun (m : Nat) (a : Act) (w' : World) => ∃ (i : Nat) (A' : zAs), m = r.props.length - i ∧ i ≤ r.props.length ∧ WrC 94 p ⟨2048, pre ++ zEm (r.props.take i), 0⟩ A' ∧ St w0 (A :: As) w' (A' :: As) ∧ Fr a 56 [(0, ptr p), (41, .slice adp r.props.length cp), (42, .int .i64 r.props.length), (43, .int .i64 i)]) (r.props.length) ?_ ?_
  · exact ⟨0, A7, by omega, by omega, hA8, S.perm2.tail, E.keep (zAb rfl (zAb rfl (zAb rfl (zAb rfl zAr))))⟩
  clear E; clear a; (try clear S); rintro m a w ⟨i, A', rfl, hi, hA', S, E⟩
  refine wp_seq_k ?_; intro K hK
  refine zAa ?_
  refine zp E (zCw E rfl rfl rfl) ?_; clear E a; intro a E
  refine wpList_nil ?_
  refine zAf hK ?_; clear hK; clear K
  refine wp_seq_k ?_; intro K hK
  refine zBj E rfl (fun hb => ?_) (fun hb => ?_)
  · replace hb := Nrm.nrm hb
    refine wp_skip ?_
    refine zAf hK ?_; clear hK; clear K
    refine wp_seq_k ?_; intro K hK
    refine wp_block ?_
    refine wp_seq_k ?_; intro K hK
    have hil : i < r.props.length := by omega
    obtain ⟨b, off, rfl⟩ := hP.addr (by omega)
    have hsi := h3.2 _ (List.getElem_mem hil)
    have hpi := propsL_le (l := r.props.take i) (fun q hq => h3.2 q (List.mem_of_mem_take hq))
    rw [List.length_take, Nat.min_eq_left hi] at hpi
    refine zAa ?_
    refine zp E (by first | exact zBp E rfl rfl rfl rfl rfl rfl (by omega) | exact zBs E rfl rfl rfl rfl rfl rfl (by omega) | exact zBe E rfl rfl rfl rfl rfl rfl (by omega)) ?_; clear E a; intro a E
    refine zp E (zDj (vs := [_, _]) E rfl rfl rfl rfl (hP.elem (lay := Prp.lay) Prp.lay_len (S.stab.at (List.mem_cons_of_mem _ hC)) hil)) ?_; clear E a; intro a E
    refine zAm rfl (zBr E S rfl rfl (by decide) rfl rfl rfl ?_); clear E S a; intro a w b5 E S
    refine zAm rfl (zBd E S rfl rfl rfl rfl (by simp [Value.oneCell']) rfl (by repeat (first | exact pk1 | apply zAc)) (by simp) ?_); clear E S a; intro a w E S; simp only [List.take_succ_cons, List.take_zero, List.drop_succ_cons, List.drop_zero, List.cons_append, List.nil_append, List.append_nil, List.length_cons, List.length_nil, Nat.zero_add, Nat.add_zero] at S
    refine wpList_nil ?_
    refine zAf hK ?_; clear hK; clear K
    refine wp_seq_k ?_; intro K hK
    obtain ⟨q, hq⟩ : ∃ q, q = r.props[i] := ⟨_, rfl⟩
    rw [← hq] at S hsi
    refine zAa ?_
    refine zp E (zAd E rfl rfl) ?_; clear E a; intro a E
    refine zp E (by first | exact zAg (q := 0) E rfl rfl rfl | exact zAh (q := 0) E rfl rfl rfl) ?_; clear E a; intro a E
    refine zp E (by first | exact zAq E rfl rfl rfl (S.get (by repeat (first | exact pk1 | apply zAc))) rfl | exact zAl E rfl rfl rfl (by assumption)) ?_; clear E a; intro a E
    refine zAn E rfl rfl (by decide) rfl Tryz.func51 rfl (by kernel_rfl) rfl (zHp p 2048 _ A' _ hA' q.name (S.hp.sel (zAi (by repeat (first | exact pk1 | apply zAc)) (zAo _))) (by omega) (by omega) (by simp only [List.length_append]; omega)) ?_
    rintro v50 w ⟨B1, hB1, hT⟩; clear E a; intro a E
    replace S := S.call1 (zAi (by repeat (first | exact pk1 | apply zAc)) (zAo _)) hT
    refine wpList_nil ?_
    refine zAf hK ?_; clear hK; clear K
    refine zAa ?_
    refine zp E (zAd E rfl rfl) ?_; clear E a; intro a E
    refine zp E (by first | exact zAg (q := 1) E rfl rfl rfl | exact zAh (q := 1) E rfl rfl rfl) ?_; clear E a; intro a E
    refine zp E (by first | exact zAq E rfl rfl rfl (S.get (by repeat (first | exact pk1 | apply zAc))) rfl | exact zAl E rfl rfl rfl (by assumption)) ?_; clear E a; intro a E
    refine zAn E rfl rfl (by decide) rfl Tryz.func51 rfl (by kernel_rfl) rfl (zHp p 2048 _ B1 _ hB1 q.value (S.hp.sel (zAi (by repeat (first | exact pk1 | apply zAc)) (zAo _))) (by omega) (by omega) (by simp only [List.length_append, zCu]; omega)) ?_
    rintro v54 w ⟨B2, hB2, hT⟩; clear E a; intro a E
    replace S := S.call1 (zAi (by repeat (first | exact pk1 | apply zAc)) (zAo _)) hT
    refine wpList_nil ?_
    refine zBo ?_
    refine zAf hK ?_; clear hK; clear K
    refine zAa ?_
    refine zp E (zCc E rfl rfl rfl (by first | exact zCt (y := 1) (by omega) | exact w_in (by omega) | exact zCb (by omega) | exact rfl)) ?_; clear E a; intro a E
    refine zp E (zAd E rfl rfl) ?_; clear E a; intro a E
    refine wpList_nil ?_
    refine zBn ?_
    exact ⟨_, by omega, i + 1, B2, rfl, by omega, by rw [propsL_step hil, ← hq]; simpa using hB2, S.perm2.tail, E.keep (zAb rfl (zAb rfl (zAb rfl (zAb rfl zAr))))⟩
  · replace hb := Nrm.nrm hb
    refine wp_exit ?_
    refine zBf ?_; clear hK; clear K
    refine zBf ?_
    refine zCr ?_
    refine end0 E rfl ?_
    obtain rfl : i = r.props.length := by omega
    rw [List.take_length] at hA'
    exact ⟨_, rfl, A', by rw [hpre] at hA'; simpa [zLj] using hA', S.tr⟩
omit hR hC hA H in
theorem layF_fn {k : Int} (h : inK k) : ∃ fn : Func, Tryz.prog.funcs[layF k]? = some fn ∧ fn.body.isSome = true ∧ (fn.name == "runtime.NumGoroutine") = false := by
  rcases zEd h with rfl | rfl | rfl | rfl | rfl | rfl | rfl
  · exact ⟨_, Tryz.func50, rfl, by kernel_rfl⟩
  · exact ⟨_, Tryz.func94, rfl, by kernel_rfl⟩
  · exact ⟨_, Tryz.func57, rfl, by kernel_rfl⟩
  · exact ⟨_, Tryz.func62, rfl, by kernel_rfl⟩
  · exact ⟨_, Tryz.func65, rfl, by kernel_rfl⟩
  · exact ⟨_, Tryz.func100, rfl, by kernel_rfl⟩
  · exact ⟨_, Tryz.func100, rfl, by kernel_rfl⟩
theorem layK_ret {k : Int} (hk : inK k) (h : mayK k r = true) : Ret Tryz.prog (layF k) #[ptr p, .agg (r.cells pv kv dv).toArray] w0 fun _ w' => ∃ A', WrC 94 p ⟨2048, zDk k r, 0⟩ A' ∧ Trs w0 w' (A :: As) (A' :: As) := by
  rcases zEd hk with rfl | rfl | rfl | rfl | rfl | rfl | rfl
  · exact lay1_ret hR hC p A hA w0 H h
  · exact lay2_ret hR hC p A hA w0 H h
  · exact lay3_ret hR hC p A hA w0 H h
  · exact lay4_ret hR hC p A hA w0 H h
  · exact lay5_ret hR hC p A hA w0 H h
  · exact lay6_ret hR hC p A hA w0 H h
  · exact lay6_ret hR hC p A hA w0 H h
end
end Go.Proofs.YtbogecljkaimdaaGreatDoor
namespace Go.Sl
structure Pt where
  top : Int
  at_ : Int
  bytes : Int
  birth : Nat
  kind : Int
  a : Nat
  b : Nat
  c : Nat
  d : Nat
deriving DecidableEq
def Pt.lay (p : Pt) : List Value := [.int .i64 p.top, .int .i64 p.at_, .int .i64 p.bytes, .int .u64 p.birth, .int .i64 p.kind, .int .u64 p.a, .int .u64 p.b, .int .u64 p.c, .int .u64 p.d]
abbrev Pt.agg (p : Pt) : Value := .agg #[.int .i64 p.top, .int .i64 p.at_, .int .i64 p.bytes, .int .u64 p.birth, .int .i64 p.kind, .int .u64 p.a, .int .u64 p.b, .int .u64 p.c, .int .u64 p.d]
theorem Pt.lay_len (p : Pt) : p.lay.length = 9 := rfl
structure Pt.Ok (p : Pt) : Prop where
  top : -9223372036854775808 ≤ p.top ∧ p.top ≤ 9223372036854775807
  at_ : -9223372036854775808 ≤ p.at_ ∧ p.at_ ≤ 9223372036854775807
  bytes : -9223372036854775808 ≤ p.bytes ∧ p.bytes ≤ 9223372036854775807
  birth : p.birth < 18446744073709551616
  kind : -9223372036854775808 ≤ p.kind ∧ p.kind ≤ 9223372036854775807
  a : p.a < 18446744073709551616
  b : p.b < 18446744073709551616
  c : p.c < 18446744073709551616
  d : p.d < 18446744073709551616
def Pt.good (p : Pt) : Prop := 0 ≤ p.top ∧ p.top < 4 ∧ 0 ≤ p.at_ ∧ p.at_ ≤ 40959 ∧ 1 ≤ p.bytes ∧ p.bytes ≤ 1024 ∧ 1 ≤ p.birth ∧ p.birth ≤ 281474976710656 ∧ (p.kind = 1 ∨ p.kind = 2)
instance (p : Pt) : Decidable p.good := by unfold Pt.good; infer_instance
abbrev nm (b : List UInt8) (q k : Nat) : Nat := zCh ((b.drop q).take k)
theorem p1 : (256 : Nat) ^ 1 = 256 := by decide
theorem p2 : (256 : Nat) ^ 2 = 65536 := by decide
theorem p4 : (256 : Nat) ^ 4 = 4294967296 := by decide
end Go.Sl
namespace Go.Sl
structure Fs where
  a : Nat
  b : Nat
  c : Nat
  d : Nat
deriving DecidableEq
def Fs.lay (s : Fs) : List Value := [.int .u64 s.a, .int .u64 s.b, .int .u64 s.c, .int .u64 s.d]
abbrev Fs.agg (s : Fs) : Value := .agg #[.int .u64 s.a, .int .u64 s.b, .int .u64 s.c, .int .u64 s.d]
def zEa : Fs := ⟨0, 0, 0, 0⟩
def m64 : Nat := 18446744073709551616
def fstep (s : Fs) (w : Nat) : Fs :=
  let a := (s.a + w) % m64
  let b := (s.b + a) % m64
  let c := (s.c + b) % m64
  ⟨a, b, c, (s.d + c) % m64⟩
structure Fs.Ok (s : Fs) : Prop where
  a : s.a < 18446744073709551616
  b : s.b < 18446744073709551616
  c : s.c < 18446744073709551616
  d : s.d < 18446744073709551616
theorem fstep_ok (s : Fs) (w : Nat) : (fstep s w).Ok := ⟨Nat.mod_lt _ (by decide), Nat.mod_lt _ (by decide), Nat.mod_lt _ (by decide), Nat.mod_lt _ (by decide)⟩
def fsN (b : List UInt8) : Nat → Fs
  | 0 => zEa
  | i + 1 => fstep (fsN b i) (nm b (4 * i) 4)
def fletch (b : List UInt8) : Fs := fsN b ((b.length + 3) / 4)
theorem fsN_ok (b : List UInt8) : ∀ i, (fsN b i).Ok
  | 0 => by constructor <;> (show 0 < _; decide)
  | i + 1 => fstep_ok _ _
end Go.Sl
namespace Go.Sl
abbrev gb (b : List UInt8) (j : Nat) : UInt8 := b.getD j 0
theorem nm_four (b : List UInt8) (q : Nat) : nm b q 4 = (gb b q).toNat + (gb b (q + 1)).toNat * 2 ^ 8 + (gb b (q + 2)).toNat * 2 ^ 16 + (gb b (q + 3)).toNat * 2 ^ 24 := by
  have key : ∀ c : List UInt8, zCh (c.take 4) = (c.getD 0 0).toNat + (c.getD 1 0).toNat * 2 ^ 8 + (c.getD 2 0).toNat * 2 ^ 16 + (c.getD 3 0).toNat * 2 ^ 24 := by
    intro c
    match c with
    | [] => rfl
    | [x] => simp [zCh]
    | [x, y] => simp [zCh]; omega
    | [x, y, z] => simp [zCh]; omega
    | x :: y :: z :: t :: r => simp [zCh]; omega
  have g : ∀ j, (b.drop q).getD j 0 = gb b (q + j) := fun j => by simp [gb, List.getD, List.getElem?_drop]
  unfold nm
  rw [key, g, g, g, g, Nat.add_zero]
theorem gb_in (b : List UInt8) {j : Nat} (h : j < b.length) : gb b j = b[j] := by simp [gb, List.getD, h]
theorem gb_out (b : List UInt8) {j : Nat} (h : b.length ≤ j) : gb b j = 0 := by simp [gb, List.getD, List.getElem?_eq_none h]
structure Run (b : List UInt8) (i : Nat) (s : Fs) (x0 x1 x2 x3 : UInt8) (k : Nat) : Prop where
  le : i ≤ b.length
  hk : k = i % 4
  hs : s = fsN b (i / 4)
  h0 : x0 = if 0 < k then gb b (4 * (i / 4)) else 0
  h1 : x1 = if 1 < k then gb b (4 * (i / 4) + 1) else 0
  h2 : x2 = if 2 < k then gb b (4 * (i / 4) + 2) else 0
  h3 : x3 = 0
theorem Run.ok {b : List UInt8} {i : Nat} {s : Fs} {x0 x1 x2 x3 : UInt8} {k : Nat} (h : Run b i s x0 x1 x2 x3 k) : s.Ok := by rw [h.hs]; exact fsN_ok _ _
def word4 (x0 x1 x2 x3 : UInt8) : Nat := x0.toNat + x1.toNat * 2 ^ 8 + x2.toNat * 2 ^ 16 + x3.toNat * 2 ^ 24
theorem Run.s0 {b : List UInt8} {i : Nat} {s : Fs} {x0 x1 x2 x3 : UInt8} (h : Run b i s x0 x1 x2 x3 0) (hi : i < b.length) : Run b (i + 1) s b[i] x1 x2 x3 1 := by
  obtain ⟨h1, h2, h3, h4, h5, h6, h7⟩ := h
  have e : (i + 1) / 4 = i / 4 := by omega
  exact ⟨by omega, by omega, by rw [e, h3], by rw [if_pos (by omega), e, show 4 * (i / 4) = i by omega, gb_in b hi], by rw [h5]; simp, by rw [h6]; simp, h7⟩
theorem Run.s1 {b : List UInt8} {i : Nat} {s : Fs} {x0 x1 x2 x3 : UInt8} (h : Run b i s x0 x1 x2 x3 1) (hi : i < b.length) : Run b (i + 1) s x0 b[i] x2 x3 2 := by
  obtain ⟨h1, h2, h3, h4, h5, h6, h7⟩ := h
  have e : (i + 1) / 4 = i / 4 := by omega
  exact ⟨by omega, by omega, by rw [e, h3], by rw [h4, e]; simp, by rw [if_pos (by omega), e, show 4 * (i / 4) + 1 = i by omega, gb_in b hi], by rw [h6]; simp, h7⟩
theorem Run.s2 {b : List UInt8} {i : Nat} {s : Fs} {x0 x1 x2 x3 : UInt8} (h : Run b i s x0 x1 x2 x3 2) (hi : i < b.length) : Run b (i + 1) s x0 x1 b[i] x3 3 := by
  obtain ⟨h1, h2, h3, h4, h5, h6, h7⟩ := h
  have e : (i + 1) / 4 = i / 4 := by omega
  exact ⟨by omega, by omega, by rw [e, h3], by rw [h4, e]; simp, by rw [h5, e]; simp, by rw [if_pos (by omega), e, show 4 * (i / 4) + 2 = i by omega, gb_in b hi], h7⟩
theorem Run.done {b : List UInt8} {s : Fs} {x0 x1 x2 x3 : UInt8} {k : Nat} (h : Run b b.length s x0 x1 x2 x3 k) (hk : k ≠ 0) : fstep s (word4 x0 x1 x2 x3) = fletch b := by
  obtain ⟨h1, h2, h3, h4, h5, h6, h7⟩ := h
  have e : (b.length + 3) / 4 = b.length / 4 + 1 := by omega
  have o : ∀ j, (if j < k then gb b (4 * (b.length / 4) + j) else 0) = gb b (4 * (b.length / 4) + j) := fun j => by
    split
    · rfl
    · rw [gb_out b (by omega)]
  have o0 := o 0; have o1 := o 1; have o2 := o 2; have o3 := o 3
  rw [Nat.add_zero] at o0
  rw [fletch, e, fsN, h3, nm_four, word4, h4, h5, h6, h7, o0, o1, o2, ← o3, if_neg (by omega)]
end Go.Sl
namespace Go.Sl
def w32 (z : Int) : Int := IntKind.u32.wrap z
def or32 (a b : Int) : Int := bits .or .u32 a b
def xo32 (a b : Int) : Int := bits .xor .u32 a b
def an32 (a b : Int) : Int := bits .and .u32 a b
def nt32 (a : Int) : Int := bits .xor .u32 4294967295 a
def shl32 (x k : Int) : Int := IntKind.u32.wrap (x * 2 ^ k.toNat)
def shrI (x k : Int) : Int := x / 2 ^ k.toNat
theorem or32_comm (a b : Int) : bits .or .u32 a b = bits .or .u32 b a := by
  show IntKind.u32.wrap (((BitVec.ofInt 32 a ||| BitVec.ofInt 32 b).toNat : Nat) : Int) = IntKind.u32.wrap (((BitVec.ofInt 32 b ||| BitVec.ofInt 32 a).toNat : Nat) : Int)
  rw [BitVec.or_comm]
def rot (x k : Int) : Int := or32 (shrI x k) (shl32 x (32 - k))
theorem w8_32 (b : UInt8) : IntKind.u32.wrap (b.toNat : Int) = (b.toNat : Int) := IntWalk.u32_in _ (by have := b.toNat_lt; omega)
def word32 (b : List UInt8) (t : Nat) : Int := or32 (or32 (or32 (shl32 (gb b (4 * t)).toNat 24) (shl32 (gb b (4 * t + 1)).toNat 16)) (shl32 (gb b (4 * t + 2)).toNat 8)) (gb b (4 * t + 3)).toNat
def sg (x : Int) (p q r : Int) : Int := xo32 (xo32 (rot x p) (rot x q)) (shrI x r)
def sG (x : Int) (p q r : Int) : Int := xo32 (xo32 (rot x p) (rot x q)) (rot x r)
def wnext (w : List Int) (t : Nat) : Int := w32 (w32 (w32 (w.getD (t - 16) 0 + sg (w.getD (t - 15) 0) 7 18 3) + w.getD (t - 7) 0) + sg (w.getD (t - 2) 0) 17 19 10)
def wsN (b : List UInt8) : Nat → List Int
  | 0 => []
  | n + 1 => wsN b n ++ [if n < 16 then word32 b n else wnext (wsN b n) n]
theorem zFe (b : List UInt8) : ∀ n, (wsN b n).length = n
  | 0 => rfl
  | n + 1 => by rw [wsN, List.length_append, zFe b n]; rfl
structure S8 where
  a : Int
  b : Int
  c : Int
  d : Int
  e : Int
  f : Int
  g : Int
  h : Int
def S8.t1 (s : S8) (k x : Int) : Int := w32 (w32 (w32 (w32 (s.h + sG s.e 6 11 25) + xo32 (an32 s.e s.f) (an32 (nt32 s.e) s.g)) + k) + x)
def S8.t2 (s : S8) : Int := w32 (sG s.a 2 13 22 + xo32 (xo32 (an32 s.a s.b) (an32 s.a s.c)) (an32 s.b s.c))
def S8.step (s : S8) (k x : Int) : S8 := ⟨w32 (s.t1 k x + s.t2), s.a, s.b, s.c, w32 (s.d + s.t1 k x), s.e, s.f, s.g⟩
def S8.mix (h : S8) (K ws : List Int) : Nat → S8
  | 0 => h
  | n + 1 => (S8.mix h K ws n).step (K.getD n 0) (ws.getD n 0)
def S8.add (h v : S8) : S8 := ⟨w32 (h.a + v.a), w32 (h.b + v.b), w32 (h.c + v.c), w32 (h.d + v.d), w32 (h.e + v.e), w32 (h.f + v.f), w32 (h.g + v.g), w32 (h.h + v.h)⟩
def S8.l (s : S8) : List Int := [s.a, s.b, s.c, s.d, s.e, s.f, s.g, s.h]
abbrev u32s (l : List Int) : List Value := l.map (Value.int .u32)
def shaK : List Int := [1116352408, 1899447441, 3049323471, 3921009573, 961987163, 1508970993, 2453635748, 2870763221, 3624381080, 310598401, 607225278, 1426881987, 1925078388, 2162078206, 2614888103, 3248222580, 3835390401, 4022224774, 264347078, 604807628, 770255983, 1249150122, 1555081692, 1996064986, 2554220882, 2821834349, 2952996808, 3210313671, 3336571891, 3584528711, 113926993, 338241895, 666307205, 773529912, 1294757372, 1396182291, 1695183700, 1986661051, 2177026350, 2456956037, 2730485921, 2820302411, 3259730800, 3345764771, 3516065817, 3600352804, 4094571909, 275423344, 430227734, 506948616, 659060556, 883997877, 958139571, 1322822218, 1537002063, 1747873779, 1955562222, 2024104815, 2227730452, 2361852424, 2428436474, 2756734187, 3204031479, 3329325298]
def sha0 : S8 := ⟨1779033703, 3144134277, 1013904242, 2773480762, 1359893119, 2600822924, 528734635, 1541459225⟩
def blk (all : List UInt8) (k : Nat) : List UInt8 := (all.drop (64 * k)).take 64
def shaStep (h : S8) (b : List UInt8) : S8 := h.add (h.mix shaK (wsN b 64) 64)
def shaH (all : List UInt8) : Nat → S8
  | 0 => sha0
  | k + 1 => shaStep (shaH all k) (blk all k)
def lenB (n : Nat) : Nat → List UInt8
  | 0 => []
  | k + 1 => lenB n k ++ [UInt8.ofNat (n / 2 ^ (56 - 8 * k))]
theorem zJk (n : Nat) : ∀ k, (lenB n k).length = k
  | 0 => rfl
  | k + 1 => by rw [lenB, List.length_append, zJk n k]; rfl
def padZ (n : Nat) : Nat := (119 - n % 64) % 64
def padL (b : List UInt8) : List UInt8 := b ++ [128] ++ List.replicate (padZ b.length) 0 ++ lenB (b.length * 8) 8
theorem zJl (b : List UInt8) : (padL b).length = b.length + 9 + padZ b.length := by
  simp only [padL, List.length_append, zJk, List.length_replicate, List.length_cons, List.length_nil]; omega
theorem padL_64 (b : List UInt8) : (padL b).length % 64 = 0 := by rw [zJl, padZ]; omega
def pairI (x y : Int) : Int := bits .or .u64 (IntKind.u64.wrap (IntKind.u64.wrap x * 2 ^ (32 : Int).toNat)) (IntKind.u64.wrap y)
theorem pairI_in (x y : Int) : 0 ≤ pairI x y ∧ pairI x y < 18446744073709551616 := by
  unfold pairI
  show 0 ≤ IntKind.u64.wrap _ ∧ IntKind.u64.wrap _ < _
  rw [IntKind.wrap_u64]; omega
def pairN (x y : Int) : Nat := (pairI x y).toNat
theorem pairN_eq (x y : Int) : ((pairN x y : Nat) : Int) = pairI x y := by have := pairI_in x y; unfold pairN; omega
def S8.fs (h : S8) : Fs := ⟨pairN h.a h.b, pairN h.c h.d, pairN h.e h.f, pairN h.g h.h⟩
def shaF (b : List UInt8) : Fs := (shaH (padL b) ((padL b).length / 64)).fs
end Go.Sl
