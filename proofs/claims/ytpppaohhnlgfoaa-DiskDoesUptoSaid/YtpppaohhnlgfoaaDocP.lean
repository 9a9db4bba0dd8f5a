/-
  The document's disks: what its memory says; its small functions.
-/
import Derived.Test.YtpppaohhnlgfoaaRackR
namespace Go.Sl
/-- Two lists, place by place. -/
def All2 {α β : Type} (P : α → β → Prop) (al : List α) (bl : List β) : Prop := al.length = bl.length ∧ ∀ (i : Nat) (a : α) (b : β), al[i]? = some a → bl[i]? = some b → P a b
section
variable {α β : Type} {P Q : α → β → Prop} {al al2 : List α} {bl bl2 : List β} {a : α} {b : β}
theorem All2.nil : All2 P [] [] := ⟨rfl, fun i a b h => by simp at h⟩
theorem All2.imp (h : All2 P al bl) (k : ∀ a b, P a b → Q a b) : All2 Q al bl := ⟨h.1, fun i a b h1 h2 => k a b (h.2 i a b h1 h2)⟩
theorem All2.snoc (h : All2 P al bl) (k : P a b) : All2 P (al ++ [a]) (bl ++ [b]) := by
  refine ⟨by simp [h.1], fun i x y h1 h2 => ?_⟩
  have hl := h.1
  by_cases hi : i < al.length
  · rw [List.getElem?_append_left hi] at h1
    rw [List.getElem?_append_left (by omega)] at h2
    exact h.2 i x y h1 h2
  · rw [List.getElem?_append_right (by omega)] at h1
    rw [List.getElem?_append_right (by omega)] at h2
    have hi2 : i - al.length = 0 := by have := (List.getElem?_eq_some_iff.1 h1).1; simp at this; omega
    rw [hi2] at h1
    rw [show i - bl.length = 0 by omega] at h2
    simp at h1 h2
    rw [← h1, ← h2]; exact k
theorem All2.set (h : All2 P al bl) (i : Nat) (k : P a b) : All2 P (al.set i a) (bl.set i b) := by
  refine ⟨by simp [h.1], fun j x y h1 h2 => ?_⟩
  rw [List.getElem?_set] at h1 h2
  have hl := h.1
  split at h1
  · split at h1
    · rename_i q1 q2
      rw [if_pos q1, if_pos (by omega)] at h2
      cases h1; cases h2; exact k
    · cases h1
  · rename_i q1
    rw [if_neg q1] at h2
    exact h.2 j x y h1 h2
theorem All2.get (h : All2 P al bl) {i : Nat} (hi : i < al.length) : ∃ a b, al[i]? = some a ∧ bl[i]? = some b ∧ P a b := by
  have hl := h.1
  have h1 := List.getElem?_eq_getElem hi
  have h2 := List.getElem?_eq_getElem (show i < bl.length by omega)
  exact ⟨_, _, h1, h2, h.2 i _ _ h1 h2⟩
theorem All2.at (h : All2 P al bl) {i : Nat} (hi : al[i]? = some a) : ∃ b, bl[i]? = some b ∧ P a b := by
  have hl := h.1
  have h0 := (List.getElem?_eq_some_iff.1 hi).1
  have h2 := List.getElem?_eq_getElem (show i < bl.length by omega)
  exact ⟨_, h2, h.2 i _ _ hi h2⟩
end
/-- The document's disk: its block, its platter's slice and cells, what they hold, whether it failed. -/
structure Dd where
  b : Nat
  vp : Value
  C : Chunk
  vs : List Value
  f : Bool
/-- A write that waits there. -/
structure Dw where
  k : Nat
  at_ : Nat
  v : Value
def Dw.lay (x : Dw) : List Value := [.int .i64 x.k, .int .i64 x.at_, x.v]
theorem Dw.lay_len (x : Dw) : x.lay.length = 3 := rfl
theorem get_split {α : Type} {l : List α} {i : Nat} {a : α} (h : l[i]? = some a) : ∃ A B, l = A ++ a :: B ∧ A.length = i := by
  obtain ⟨hi, rfl⟩ := List.getElem?_eq_some_iff.1 h
  refine ⟨l.take i, l.drop (i + 1), ?_, by rw [List.length_take]; omega⟩
  rw [← List.drop_eq_getElem_cons hi, List.take_append_drop]
theorem set_mid {α : Type} {A B : List α} {a b : α} : (A ++ a :: B).set A.length b = A ++ b :: B := by simp
end Go.Sl
namespace Go.Proofs.Ytpppaohhnlgfoaa
open Go.Sl
set_option maxRecDepth 10000

abbrev qcl (s : Pw) (vd vw : Value) : Obj := cel [vd, vw, .int .i64 s.left, .bool s.off, .int .i64 s.wr] 77
abbrev dd1 (y : Dd) : Chunk := [(y.b, cel [y.vp, .bool y.f] 80)]
def dch (ys : List Dd) : List Chunk := ys.flatMap fun y => [dd1 y, y.C]
theorem dch_open (X Y Z V : Chunk) (A B : List Dd) (y : Dd) (As : List Chunk) : (X :: Y :: Z :: V :: (dch (A ++ y :: B) ++ As)).Perm (dd1 y :: y.C :: X :: Y :: Z :: V :: (dch (A ++ B) ++ As)) := by
  have e1 : dch (A ++ y :: B) ++ As = dch A ++ (dd1 y :: y.C :: (dch B ++ As)) := by simp [dch]
  have e2 : dch (A ++ B) ++ As = dch A ++ (dch B ++ As) := by simp [dch]
  rw [e1, e2]
  have h : ∀ (l : List Chunk) (a : Chunk) (r : List Chunk), (X :: Y :: Z :: V :: (l ++ a :: r)).Perm (a :: X :: Y :: Z :: V :: (l ++ r)) := fun l a r =>
    (List.perm_middle (l₁ := X :: Y :: Z :: V :: l) (a := a) (l₂ := r))
  exact (h _ _ _).trans ((h _ _ _).cons _)
/-- What a disk of the document's says of the program's. -/
def DdOk (J : Chunk) (x : Dk) (y : Dd) : Prop := y.f = x.failed ∧ Buf y.C 32 1 y.vp y.vs.length y.vs ∧ 128 * y.vs.length = x.pl.length ∧ ∀ i v, y.vs[i]? = some v → Rd J 1 v 128 (byt (secB x.pl i))
def DwOk (J : Chunk) (ds : List Dk) (w : Wt) (u : Dw) : Prop := (∃ x, ds[u.k]? = some x ∧ x.d = w.d) ∧ u.at_ = w.at_ ∧ Rd J 1 u.v 128 (byt w.b)
theorem DdOk.sub {J J' : Chunk} {x : Dk} {y : Dd} (h : DdOk J x y) (k : ∀ c ∈ J, c ∈ J') : DdOk J' x y := ⟨h.1, h.2.1, h.2.2.1, fun i v hv => (h.2.2.2 i v hv).sub k⟩
theorem DwOk.sub {J J' : Chunk} {ds : List Dk} {w : Wt} {u : Dw} (h : DwOk J ds w u) (k : ∀ c ∈ J, c ∈ J') : DwOk J' ds w u := ⟨h.1, h.2.1, h.2.2.sub k⟩
abbrev RfL (q : Nat) (s : Pw) (vd vw : Value) (Cd Cw J : Chunk) (ys : List Dd) : List Chunk := [(q, qcl s vd vw)] :: Cd :: Cw :: J :: dch ys
/-- The document's power holds what the program's does. -/
def RfC (q : Nat) (R : Rk) (C : Chunk) : Prop :=
  ∃ vd vw Cd Cw J ys us, Buf Cd 81 1 vd ys.length (ys.map fun y => ptr y.b) ∧ Buf Cw 84 3 vw us.length (us.flatMap Dw.lay) ∧ All2 (DdOk J) R.ds ys ∧ All2 (DwOk J R.ds) R.ws us ∧ C = (RfL q R.pw vd vw Cd Cw J ys).flatten

section
variable {w0 w : World} {As Ls : List Chunk} {q : Nat} {s : Pw} {vd vw : Value} {Cd Cw J : Chunk} {A B ys : List Dd} {y : Dd}
theorem rf_open (S : St w0 As w ((RfL q s vd vw Cd Cw J ys).flatten :: Ls)) : St w0 As w ([(q, qcl s vd vw)] :: Cd :: Cw :: J :: (dch ys ++ Ls)) := S.openF
theorem rf_close (S : St w0 As w ([(q, qcl s vd vw)] :: Cd :: Cw :: J :: (dch ys ++ Ls))) : St w0 As w ((RfL q s vd vw Cd Cw J ys).flatten :: Ls) := St.closeF (Ms := RfL q s vd vw Cd Cw J ys) S
theorem rf_out (S : St w0 As w ([(q, qcl s vd vw)] :: Cd :: Cw :: J :: (dch (A ++ y :: B) ++ Ls))) : St w0 As w ([(q, qcl s vd vw)] :: Cd :: Cw :: J :: dd1 y :: y.C :: (dch (A ++ B) ++ Ls)) := by
  have S := S.perm (dch_open _ _ _ _ A B y Ls)
  exact S.front6 (A := [(q, qcl s vd vw)]) (by repeat (first | exact pk1 | apply pick_tail)) (B := Cd) (by repeat (first | exact pk1 | apply pick_tail)) (C := Cw) (by repeat (first | exact pk1 | apply pick_tail)) (D := J) (by repeat (first | exact pk1 | apply pick_tail)) (F := dd1 y) (by repeat (first | exact pk1 | apply pick_tail)) (G := y.C) (by repeat (first | exact pk1 | apply pick_tail))
theorem rf_in (S : St w0 As w ([(q, qcl s vd vw)] :: Cd :: Cw :: J :: dd1 y :: y.C :: (dch (A ++ B) ++ Ls))) : St w0 As w ([(q, qcl s vd vw)] :: Cd :: Cw :: J :: (dch (A ++ y :: B) ++ Ls)) := by
  have S := S.front6 (A := dd1 y) (by repeat (first | exact pk1 | apply pick_tail)) (B := y.C) (by repeat (first | exact pk1 | apply pick_tail)) (C := [(q, qcl s vd vw)]) (by repeat (first | exact pk1 | apply pick_tail)) (D := Cd) (by repeat (first | exact pk1 | apply pick_tail)) (F := Cw) (by repeat (first | exact pk1 | apply pick_tail)) (G := J) (by repeat (first | exact pk1 | apply pick_tail))
  exact S.perm (dch_open _ _ _ _ A B y Ls).symm
end

theorem qnew_ret (w0 : World) : Ret Try.prog 32 #[] w0 fun u w' => ∃ q C, u = ptr q ∧ RfC q ⟨⟨-1, false, 0⟩, [], []⟩ C ∧ Trs w0 w' [] [C] := by
  have S := St.begin (hp_nil w0)
  refine enter0 3 Try.func32 rfl rfl ?_; intro a E
  refine wp_seq_k ?_; intro K hK
  refine region_list ?_
  refine list_pure E rfl rfl (by decide) (rn_assign E rfl rfl) ?_; clear E a; intro a E
  refine wpList_nil ?_
  refine then_k hK ?_; clear hK; clear K
  refine wp_seq_k ?_; intro K hK
  refine region_list ?_
  refine list_pure E rfl rfl (by decide) (rn_build (cells := [_, _, _, _, _]) E rfl rfl rfl) ?_; clear E a; intro a E
  refine list_wp rfl (wp_box E S rfl rfl (by decide) rfl rfl ?_); clear E S a; intro a w b2 E S
  refine list_pure E rfl rfl (by decide) (rn_assign E rfl rfl) ?_; clear E a; intro a E
  refine wpList_nil ?_
  refine then_k hK ?_; clear hK; clear K
  refine wp_ret ?_
  refine ret1 E rfl rfl ?_
  exact ⟨_, rfl, b2, _, rfl, ⟨.slice none 0 0, .slice none 0 0, [], [], [], [], [], Buf.nil _ _, Buf.nil _ _, All2.nil, All2.nil, rfl⟩, by have h := S.tr; simp only [dch, List.flatMap_nil, List.flatten_cons, List.flatten_nil, List.append_nil]; exact h⟩
theorem noughts_ret (w0 : World) : Ret Try.prog 43 #[] w0 fun u w' => ∃ v C, u = v ∧ Buf C 5 1 v 128 (byt (List.replicate 128 0)) ∧ Trs w0 w' [] [C] := by
  have S := St.begin (hp_nil w0)
  refine enter0 2 Try.func43 rfl rfl ?_; intro a E
  refine wp_seq_k ?_; intro K hK
  refine region_list ?_
  refine list_pure E rfl rfl (by decide) (rn_assign E rfl rfl) ?_; clear E a; intro a E
  refine wpList_nil ?_
  refine then_k hK ?_; clear hK; clear K
  refine wp_seq_k ?_; intro K hK
  refine region_list ?_
  refine list_wp rfl (wp_make1 (by' := 1) E S rfl rfl (by decide) rfl rfl rfl rfl rfl rfl rfl rfl rfl rfl rfl (by decide) (by decide) ?_); clear E S a; intro a w g1 E S
  rw [show List.replicate 128 (Value.int .u8 0) = byt (List.replicate 128 0) from (byt_rep 128).symm] at S
  refine list_pure E rfl rfl (by decide) (rn_assign E rfl rfl) ?_; clear E a; intro a E
  refine wpList_nil ?_
  refine then_k hK ?_; clear hK; clear K
  refine wp_ret ?_
  refine ret1 E rfl rfl ?_
  have hB := buf_mk (g := g1) (c := 128) (s := 1) (m := 128) (T := 5) (xs := byt (List.replicate 128 0)) (r := []) (by rw [byt_length, List.length_replicate]) (byt_one _) (Nat.le_refl _) (by decide) (by rw [byt_length, List.length_replicate]; rfl)
  rw [List.append_nil] at hB
  exact ⟨_, rfl, _, _, rfl, hB, S.tr⟩
theorem qcut_ret (q : Nat) (R : Rk) (C : Chunk) (hC : RfC q R C) (k : Int) (w0 : World) (H : Hp w0 [C]) : Ret Try.prog 40 #[ptr q, .int .i64 k] w0 fun _ w' => ∃ C', RfC q (R.cut k) C' ∧ Trs w0 w' [C] [C'] := by
  obtain ⟨vd, vw, Cd, Cw, J, ys, us, h1, h2, h3, h4, rfl⟩ := hC
  have S := rf_open (St.begin H)
  refine enter2 13 Try.func40 rfl rfl (by decide) ?_; intro a E
  refine wp_seq_k ?_; intro K hK
  refine region_list ?_
  refine list_pure E rfl rfl (by decide) (rn_move E rfl rfl) ?_; clear E a; intro a E
  refine list_pure E rfl rfl (by decide) (rn_move E rfl rfl) ?_; clear E a; intro a E
  refine list_pure E rfl rfl (by decide) (rn_nilCheck E rfl rfl) ?_; clear E a; intro a E
  refine list_pure E rfl rfl (by decide) (by first | exact rn_fieldAddr0 (q := 2) E rfl rfl rfl | exact rn_fieldAddr (q := 2) E rfl rfl rfl) ?_; clear E a; intro a E
  refine list_wp rfl (wp_store1 E S rfl rfl rfl rfl rfl rfl (by repeat (first | exact pk1 | apply pick_tail)) (by first | exact Nat.le_of_ble_eq_true rfl | (simp; done) | (simp; omega)) ?_); clear E S a; intro a w E S; try dsimp only [List.set] at S
  refine wpList_nil ?_
  refine then_k hK ?_; clear hK; clear K
  refine wp_seq_k ?_; intro K hK
  refine region_list ?_
  refine list_pure E rfl rfl (by decide) (rn_move E rfl rfl) ?_; clear E a; intro a E
  refine list_pure E rfl rfl (by decide) (rn_lss E rfl rfl rfl) ?_; clear E a; intro a E
  refine wpList_nil ?_
  refine then_k hK ?_; clear hK; clear K
  refine if_bool E rfl (fun hb => ?_) (fun hb => ?_)
  · replace hb := Nrm.nrm hb
    refine region_list ?_
    refine list_pure E rfl rfl (by decide) (rn_move E rfl rfl) ?_; clear E a; intro a E
    refine list_pure E rfl rfl (by decide) (rn_nilCheck E rfl rfl) ?_; clear E a; intro a E
    refine list_pure E rfl rfl (by decide) (by first | exact rn_fieldAddr0 (q := 2) E rfl rfl rfl | exact rn_fieldAddr (q := 2) E rfl rfl rfl) ?_; clear E a; intro a E
    refine list_wp rfl (wp_store1 E S rfl rfl rfl rfl rfl rfl (by repeat (first | exact pk1 | apply pick_tail)) (by first | exact Nat.le_of_ble_eq_true rfl | (simp; done) | (simp; omega)) ?_); clear E S a; intro a w E S; try dsimp only [List.set] at S
    refine wpList_nil ?_
    refine end0 E rfl ?_
    first
    | (have e : max (-1) k = -1 := by omega
       refine ⟨_, rfl, _, ⟨vd, vw, Cd, Cw, J, ys, us, h1, h2, h3, h4, rfl⟩, ?_⟩
       have hS := rf_close (s := { R.pw with left := -1 }) (vd := vd) (vw := vw) S
       simp only [Rk.cut]; rw [e]; exact hS.tr)
    | (have e : max (-1) k = k := by omega
       refine ⟨_, rfl, _, ⟨vd, vw, Cd, Cw, J, ys, us, h1, h2, h3, h4, rfl⟩, ?_⟩
       have hS := rf_close (s := { R.pw with left := k }) (vd := vd) (vw := vw) S
       simp only [Rk.cut]; rw [e]; exact hS.tr)
  · replace hb := Nrm.nrm hb
    refine wp_skip ?_
    refine end0 E rfl ?_
    first
    | (have e : max (-1) k = -1 := by omega
       refine ⟨_, rfl, _, ⟨vd, vw, Cd, Cw, J, ys, us, h1, h2, h3, h4, rfl⟩, ?_⟩
       have hS := rf_close (s := { R.pw with left := -1 }) (vd := vd) (vw := vw) S
       simp only [Rk.cut]; rw [e]; exact hS.tr)
    | (have e : max (-1) k = k := by omega
       refine ⟨_, rfl, _, ⟨vd, vw, Cd, Cw, J, ys, us, h1, h2, h3, h4, rfl⟩, ?_⟩
       have hS := rf_close (s := { R.pw with left := k }) (vd := vd) (vw := vw) S
       simp only [Rk.cut]; rw [e]; exact hS.tr)
theorem qdown_ret (q : Nat) (s : Pw) (vd vw : Value) (Cd : Chunk) (ys : List Dd) (hCd : Buf Cd 81 1 vd ys.length (ys.map fun y => ptr y.b)) (n : Nat) (y : Dd) (hy : ys[n]? = some y) (w0 : World) (H : Hp w0 [[(q, qcl s vd vw)], Cd, dd1 y]) :
    Ret Try.prog 45 #[ptr q, .int .i64 n] w0 fun u w' => u = .int .i64 (flE s y.f) ∧ Trs w0 w' [[(q, qcl s vd vw)], Cd, dd1 y] [[(q, qcl s vd vw)], Cd, dd1 y] := by
  have S := St.begin H
  obtain ⟨add, cd, rfl⟩ := hCd.slice
  have hn : n < ys.length := (List.getElem?_eq_some_iff.1 hy).1
  obtain ⟨gd, rfl⟩ := hCd.addr (by omega)
  refine enter2 19 Try.func45 rfl rfl (by decide) ?_; intro a E
  refine wp_seq_k ?_; intro K hK
  refine region_list ?_
  refine list_pure E rfl rfl (by decide) (rn_assign E rfl rfl) ?_; clear E a; intro a E
  refine wpList_nil ?_
  refine then_k hK ?_; clear hK; clear K
  refine wp_seq_k ?_; intro K hK
  refine wp_seq_k ?_; intro K hK
  refine region_list ?_
  refine list_pure E rfl rfl (by decide) (rn_move E rfl rfl) ?_; clear E a; intro a E
  refine list_pure E rfl rfl (by decide) (rn_nilCheck E rfl rfl) ?_; clear E a; intro a E
  refine list_pure E rfl rfl (by decide) (by first | exact rn_fieldAddr0 (q := 3) E rfl rfl rfl | exact rn_fieldAddr (q := 3) E rfl rfl rfl) ?_; clear E a; intro a E
  refine list_pure E rfl rfl (by decide) (by first | exact rn_load E rfl rfl rfl (S.get (by repeat (first | exact pk1 | apply pick_tail))) rfl | exact rn_loadc E rfl rfl rfl (by assumption)) ?_; clear E a; intro a E
  refine wpList_nil ?_
  refine then_k hK ?_; clear hK; clear K
  refine if_bool E rfl (fun hb => ?_) (fun hb => ?_)
  · replace hb := Nrm.nrm hb
    refine wp_seq_k ?_; intro K hK
    refine region_list ?_
    refine list_pure E rfl rfl (by decide) (rn_assign E rfl rfl) ?_; clear E a; intro a E
    refine wpList_nil ?_
    refine then_k hK ?_; clear hK; clear K
    refine wp_ret ?_
    refine then_ret ?_; clear hK; clear K
    refine ret1 E rfl rfl ?_
    exact ⟨_, rfl, by unfold flE; simp [*], S.tr⟩
  · replace hb := Nrm.nrm hb
    refine wp_skip ?_
    refine then_k hK ?_; clear hK; clear K
    refine wp_seq_k ?_; intro K hK
    refine wp_seq_k ?_; intro K hK
    refine region_list ?_
    refine list_pure E rfl rfl (by decide) (rn_move E rfl rfl) ?_; clear E a; intro a E
    refine list_pure E rfl rfl (by decide) (rn_nilCheck E rfl rfl) ?_; clear E a; intro a E
    refine list_pure E rfl rfl (by decide) (by first | exact rn_fieldAddr0 (q := 0) E rfl rfl rfl | exact rn_fieldAddr (q := 0) E rfl rfl rfl) ?_; clear E a; intro a E
    refine list_pure E rfl rfl (by decide) (by first | exact rn_load E rfl rfl rfl (S.get (by repeat (first | exact pk1 | apply pick_tail))) rfl | exact rn_loadc E rfl rfl rfl (by assumption)) ?_; clear E a; intro a E
    refine list_pure E rfl rfl (by decide) (rn_move E rfl rfl) ?_; clear E a; intro a E
    refine list_pure E rfl rfl (by decide) (rn_indexAddr1 (i := n) E rfl rfl rfl rfl rfl rfl (by omega)) ?_; clear E a; intro a E
    refine list_pure E rfl rfl (by decide) (rn_loadc E rfl rfl rfl (hCd.rd.cells (S.stab.at (by repeat (first | exact mm1 | assumption | apply List.Mem.tail))) rfl n (ptr y.b) (by rw [List.getElem?_map, hy]; rfl))) ?_; clear E a; intro a E
    refine list_pure E rfl rfl (by decide) (rn_nilCheck E rfl rfl) ?_; clear E a; intro a E
    refine list_pure E rfl rfl (by decide) (by first | exact rn_fieldAddr0 (q := 1) E rfl rfl rfl | exact rn_fieldAddr (q := 1) E rfl rfl rfl) ?_; clear E a; intro a E
    refine list_pure E rfl rfl (by decide) (by first | exact rn_load E rfl rfl rfl (S.get (by repeat (first | exact pk1 | apply pick_tail))) rfl | exact rn_loadc E rfl rfl rfl (by assumption)) ?_; clear E a; intro a E
    refine wpList_nil ?_
    refine then_k hK ?_; clear hK; clear K
    refine if_bool E rfl (fun hb => ?_) (fun hb => ?_)
    · replace hb := Nrm.nrm hb
      refine wp_seq_k ?_; intro K hK
      refine region_list ?_
      refine list_pure E rfl rfl (by decide) (rn_assign E rfl rfl) ?_; clear E a; intro a E
      refine wpList_nil ?_
      refine then_k hK ?_; clear hK; clear K
      refine wp_ret ?_
      refine then_ret ?_; clear hK; clear K
      refine ret1 E rfl rfl ?_
      exact ⟨_, rfl, by unfold flE; simp [*], S.tr⟩
    · replace hb := Nrm.nrm hb
      refine wp_skip ?_
      refine then_k hK ?_; clear hK; clear K
      refine wp_seq_k ?_; intro K hK
      refine region_list ?_
      refine list_pure E rfl rfl (by decide) (rn_assign E rfl rfl) ?_; clear E a; intro a E
      refine wpList_nil ?_
      refine then_k hK ?_; clear hK; clear K
      refine wp_ret ?_
      refine ret1 E rfl rfl ?_
      exact ⟨_, rfl, by unfold flE; simp [*], S.tr⟩
end Go.Proofs.Ytpppaohhnlgfoaa
