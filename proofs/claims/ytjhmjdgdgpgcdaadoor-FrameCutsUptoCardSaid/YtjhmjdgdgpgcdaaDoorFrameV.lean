/-
  Requests read: plain, and the program.
-/
import Derived.Test.YtjhmjdgdgpgcdaaDoorFrameR
namespace Go.Sl
/-- Bytes with how many they are ahead; too many are none. -/
def dataP (most : Nat) (s : Rdr) : List UInt8 × Rdr := (s.num 2).2.bytes (if most < (s.num 2).1 then (s.num 2).2.left + 1 else (s.num 2).1)
def dataD (s : Rdr) : List UInt8 × Rdr := (s.num 2).2.bytes (s.num 2).1
/-- The reader behind so many texts, and each of them. -/
def sT (s : Rdr) : Nat → Rdr
  | 0 => s
  | n + 1 => ((sT s n).text 240).2
def tT (s : Rdr) (n : Nat) : List UInt8 := ((sT s n).text 240).1
def rqP (f : Rdr → List UInt8 × Rdr) (s : Rdr) : Rq × Rdr :=
  let a := s.num 1; let b := a.2.num 4; let c := b.2.num 1; let d := (sT c.2 4).num 6; let e := d.2.num 6; let x := f e.2
  (⟨a.1, b.1, c.1, tT c.2 0, tT c.2 1, tT c.2 2, tT c.2 3, d.1, e.1, x.1⟩, x.2)
abbrev rq0 : Rq := ⟨0, 0, 0, [], [], [], [], 0, 0, []⟩
/-- A request out of bytes, and why there is none. -/
def rqF (f : Rdr → List UInt8 × Rdr) (b : List UInt8) : Rq × Int :=
  if opE b 1 ≠ 0 then (rq0, opE b 1) else
  if (rqP f ⟨opX b, 1, 0⟩).2.done = 0 ∧ (rqP f ⟨opX b, 1, 0⟩).1.may then ((rqP f ⟨opX b, 1, 0⟩).1, 0) else (rq0, 230)
/-- A request's texts, as far as they are read. -/
def tC (s : Rdr) (i j : Nat) : List UInt8 := if j < i then tT s j else []
theorem tC_set (s : Rdr) (a b c : Int) (i : Nat) (hi : i < 4) (v : Value) :
    ([.int .i64 a, .int .i64 b, .int .i64 c, str (tC s i 0), str (tC s i 1), str (tC s i 2), str (tC s i 3), .int .i64 0, .int .i64 0, v] : List Value).set (3 + i) (str (tT s i))
      = [.int .i64 a, .int .i64 b, .int .i64 c, str (tC s (i + 1) 0), str (tC s (i + 1) 1), str (tC s (i + 1) 2), str (tC s (i + 1) 3), .int .i64 0, .int .i64 0, v] := by
  obtain rfl | rfl | rfl | rfl : i = 0 ∨ i = 1 ∨ i = 2 ∨ i = 3 := by omega
  all_goals simp [tC, List.set]
theorem ptr4_get (b : Nat) {i : Nat} (hi : i < 4) : ([.pointer (some ⟨b, 3, none⟩), .pointer (some ⟨b, 4, none⟩), .pointer (some ⟨b, 5, none⟩), .pointer (some ⟨b, 6, none⟩)] : List Value)[i]? = some (.pointer (some ⟨b, 3 + i, none⟩)) := by
  obtain rfl | rfl | rfl | rfl : i = 0 ∨ i = 1 ∨ i = 2 ∨ i = 3 := by omega
  all_goals rfl
end Go.Sl
namespace Go.Proofs.YtjhmjdgdgpgcdaaDoor
open Go.Sl
set_option maxRecDepth 10000

theorem bdata_ret (pb p : Nat) (s : Rdr) (A : Chunk) (w0 : World) (hA : RdC 100 p s A) (most : Nat) (H : Hp w0 [[(pb, cel [ptr p] 79)], A]) :
    Ret Tryd.prog 38 #[ptr pb, .int .i64 most] w0 fun u w' => ∃ A' C, RdC 100 p (dataP most s).2 A' ∧ Buf C 5 1 u (dataP most s).1.length (byt (dataP most s).1) ∧ Trs w0 w' [[(pb, cel [ptr p] 79)], A] [[(pb, cel [ptr p] 79)], A', C] := by
  have S := St.begin H
  have hlt := num_lt s 2
  have e2 := p2
  refine enter2 23 Tryd.func38 rfl rfl (by decide) ?_; intro a E
  refine wp_seq_k ?_; intro K hK
  refine region_list ?_
  refine list_pure E rfl rfl (by decide) (rn_assign E rfl rfl) ?_; clear E a; intro a E
  refine wpList_nil ?_
  refine then_k hK ?_; clear hK; clear K
  refine wp_seq_k ?_; intro K hK
  refine region_list ?_
  refine list_pure E rfl rfl (by decide) (rn_move E rfl rfl) ?_; clear E a; intro a E
  refine list_call E rfl rfl (by decide) rfl Tryd.func36 rfl (by kernel_rfl) rfl (bnum_ret pb p s A _ hA 2 (by omega) (S.hp.sel (sel_cons (by repeat (first | exact pk1 | apply pick_tail)) (sel_cons (by repeat (first | exact pk1 | apply pick_tail)) (sel_nil _))))) ?_
  rintro v7 w ⟨A1, rfl, hA1, hT⟩; clear E a; intro a E
  have S := S.call2 (sel_cons (by repeat (first | exact pk1 | apply pick_tail)) (sel_cons (by repeat (first | exact pk1 | apply pick_tail)) (sel_nil _))) hT
  rw [show (((2 : Nat) : Int)) = 2 from rfl] at E hA1 hlt
  have hA1b := hA1.2.1
  have hA1c := hA1.1
  refine list_pure E rfl rfl (by decide) (rn_assign E rfl rfl) ?_; clear E a; intro a E
  refine wpList_nil ?_
  refine then_k hK ?_; clear hK; clear K
  refine wp_seq_k ?_; intro K hK
  refine wp_seq_k ?_; intro K hK
  refine region_list ?_
  refine list_pure E rfl rfl (by decide) (rn_move E rfl rfl) ?_; clear E a; intro a E
  refine list_pure E rfl rfl (by decide) (rn_move E rfl rfl) ?_; clear E a; intro a E
  refine list_pure E rfl rfl (by decide) (rn_gtr E rfl rfl rfl) ?_; clear E a; intro a E
  refine wpList_nil ?_
  refine then_k hK ?_; clear hK; clear K
  refine if_bool E rfl (fun hb => ?_) (fun hb => ?_)
  · replace hb := Nrm.nrm hb
    refine region_list ?_
    refine list_pure E rfl rfl (by decide) (rn_move E rfl rfl) ?_; clear E a; intro a E
    refine list_pure E rfl rfl (by decide) (rn_nilCheck E rfl rfl) ?_; clear E a; intro a E
    refine list_pure E rfl rfl (by decide) (by first | exact rn_fieldAddr0 (q := 0) E rfl rfl rfl | exact rn_fieldAddr (q := 0) E rfl rfl rfl) ?_; clear E a; intro a E
    refine list_pure E rfl rfl (by decide) (by first | exact rn_load E rfl rfl rfl (S.get (by repeat (first | exact pk1 | apply pick_tail))) rfl | exact rn_loadc E rfl rfl rfl (by assumption)) ?_; clear E a; intro a E
    refine list_call E rfl rfl (by decide) rfl Tryd.func65 rfl (by kernel_rfl) rfl (left_ret p _ A1 _ hA1 (S.hp.sel (sel_cons (by repeat (first | exact pk1 | apply pick_tail)) (sel_nil _)))) ?_
    rintro v15 w ⟨rfl, hT⟩; clear E a; intro a E
    have S := S.call1 (sel_cons (by repeat (first | exact pk1 | apply pick_tail)) (sel_nil _)) hT
    refine list_pure E rfl rfl (by decide) (rn_add E rfl rfl rfl (w_in (by unfold Rdr.left; omega))) ?_; clear E a; intro a E
    refine list_pure E rfl rfl (by decide) (rn_assign E rfl rfl) ?_; clear E a; intro a E
    refine wpList_nil ?_
    refine then_k hK ?_; clear hK; clear K
    refine wp_seq_k ?_; intro K hK
    refine region_list ?_
    refine list_pure E rfl rfl (by decide) (rn_move E rfl rfl) ?_; clear E a; intro a E
    refine list_pure E rfl rfl (by decide) (rn_nilCheck E rfl rfl) ?_; clear E a; intro a E
    refine list_pure E rfl rfl (by decide) (by first | exact rn_fieldAddr0 (q := 0) E rfl rfl rfl | exact rn_fieldAddr (q := 0) E rfl rfl rfl) ?_; clear E a; intro a E
    refine list_pure E rfl rfl (by decide) (by first | exact rn_load E rfl rfl rfl (S.get (by repeat (first | exact pk1 | apply pick_tail))) rfl | exact rn_loadc E rfl rfl rfl (by assumption)) ?_; clear E a; intro a E
    refine list_pure E rfl rfl (by decide) (rn_move E rfl rfl) ?_; clear E a; intro a E
    refine list_call E rfl rfl (by decide) rfl Tryd.func66 rfl (by kernel_rfl) rfl (rbytes_ret p _ A1 _ hA1 (S.hp.sel (sel_cons (by repeat (first | exact pk1 | apply pick_tail)) (sel_nil _))) _ (by first | omega | (unfold Rdr.left; omega))) ?_
    rintro v22 w ⟨A2, C, hA2, hT, hC⟩; clear E a; intro a E
    have S := S.call2 (sel_cons (by repeat (first | exact pk1 | apply pick_tail)) (sel_nil _)) hT
    refine list_pure E rfl rfl (by decide) (rn_assign E rfl rfl) ?_; clear E a; intro a E
    refine wpList_nil ?_
    refine then_k hK ?_; clear hK; clear K
    refine wp_ret ?_
    refine ret1 E rfl rfl ?_
    exact ⟨_, rfl, A2, C, by unfold dataP; first | (rw [if_pos (by omega)]; exact hA2) | (rw [if_neg (by omega)]; exact hA2), by unfold dataP; first | (rw [if_pos (by omega)]; exact hC) | (rw [if_neg (by omega)]; exact hC), (S.only (Bs := [[(pb, cel [ptr p] 79)], A2, C]) (sel_cons (by repeat (first | exact pk1 | apply pick_tail)) (sel_cons (by repeat (first | exact pk1 | apply pick_tail)) (sel_cons (by repeat (first | exact pk1 | apply pick_tail)) (sel_nil _))))).tr⟩
  · replace hb := Nrm.nrm hb
    refine wp_skip ?_
    refine then_k hK ?_; clear hK; clear K
    refine wp_seq_k ?_; intro K hK
    refine region_list ?_
    refine list_pure E rfl rfl (by decide) (rn_move E rfl rfl) ?_; clear E a; intro a E
    refine list_pure E rfl rfl (by decide) (rn_nilCheck E rfl rfl) ?_; clear E a; intro a E
    refine list_pure E rfl rfl (by decide) (by first | exact rn_fieldAddr0 (q := 0) E rfl rfl rfl | exact rn_fieldAddr (q := 0) E rfl rfl rfl) ?_; clear E a; intro a E
    refine list_pure E rfl rfl (by decide) (by first | exact rn_load E rfl rfl rfl (S.get (by repeat (first | exact pk1 | apply pick_tail))) rfl | exact rn_loadc E rfl rfl rfl (by assumption)) ?_; clear E a; intro a E
    refine list_pure E rfl rfl (by decide) (rn_move E rfl rfl) ?_; clear E a; intro a E
    refine list_call E rfl rfl (by decide) rfl Tryd.func66 rfl (by kernel_rfl) rfl (rbytes_ret p _ A1 _ hA1 (S.hp.sel (sel_cons (by repeat (first | exact pk1 | apply pick_tail)) (sel_nil _))) _ (by first | omega | (unfold Rdr.left; omega))) ?_
    rintro v22 w ⟨A2, C, hA2, hT, hC⟩; clear E a; intro a E
    have S := S.call2 (sel_cons (by repeat (first | exact pk1 | apply pick_tail)) (sel_nil _)) hT
    refine list_pure E rfl rfl (by decide) (rn_assign E rfl rfl) ?_; clear E a; intro a E
    refine wpList_nil ?_
    refine then_k hK ?_; clear hK; clear K
    refine wp_ret ?_
    refine ret1 E rfl rfl ?_
    exact ⟨_, rfl, A2, C, by unfold dataP; first | (rw [if_pos (by omega)]; exact hA2) | (rw [if_neg (by omega)]; exact hA2), by unfold dataP; first | (rw [if_pos (by omega)]; exact hC) | (rw [if_neg (by omega)]; exact hC), (S.only (Bs := [[(pb, cel [ptr p] 79)], A2, C]) (sel_cons (by repeat (first | exact pk1 | apply pick_tail)) (sel_cons (by repeat (first | exact pk1 | apply pick_tail)) (sel_cons (by repeat (first | exact pk1 | apply pick_tail)) (sel_nil _))))).tr⟩

theorem readrq_ret (D : Chunk) (v : Value) (b : List UInt8) (hD : Rd D 1 v b.length (byt b)) (hcap : ∃ ad c, v = .slice ad b.length c ∧ b.length ≤ c) (As : List Chunk) (hDA : D ∈ As) (hG : Tab As 2 shaK) (w0 : World) (H : Hp w0 As) :
    Ret Tryd.prog 18 #[v] w0 fun u w' => ∃ x C, u = .tuple #[rqagg (rqF (dataP 2048) b).1 x, .int .i64 (rqF (dataP 2048) b).2] ∧ Buf C 5 1 x (rqF (dataP 2048) b).1.data.length (byt (rqF (dataP 2048) b).1.data) ∧ Trs w0 w' As (C :: As) := by
  have S := St.begin H
  refine enter1 65 Tryd.func18 rfl rfl (by decide) ?_; intro a E
  refine wp_seq_k ?_; intro K hK
  refine region_list ?_
  refine list_wp rfl (wp_alloc E S rfl rfl (by decide) rfl rfl rfl ?_); clear E S a; intro a w b2 E S
  refine list_pure E rfl rfl (by decide) (rn_assign E rfl rfl) ?_; clear E a; intro a E
  refine wpList_nil ?_
  refine then_k hK ?_; clear hK; clear K
  refine wp_seq_k ?_; intro K hK
  refine region_list ?_
  refine list_pure E rfl rfl (by decide) (rn_move E rfl rfl) ?_; clear E a; intro a E
  refine list_call E rfl rfl (by decide) rfl Tryd.func35 rfl (by kernel_rfl) rfl (opened_ret D v b hD hcap 1 (by omega) _ (show D ∈ _ from (by repeat (first | exact mm1 | assumption | apply List.Mem.tail))) hG.tail _ S.hp) ?_
  rintro v11 w hO; clear E a; intro a E
  skip
  rcases hO with ⟨hE, rfl, hT⟩ | ⟨hE, h13, h64, pb, p, A, rfl, hA, hT⟩
  · skip
    have S := S.all hT
    refine list_pure E rfl rfl (by decide) (rn_move E rfl rfl) ?_; clear E a; intro a E
    refine list_pure E rfl rfl (by decide) (rn_extract E rfl rfl rfl) ?_; clear E a; intro a E
    refine list_pure E rfl rfl (by decide) (rn_extract E rfl rfl rfl) ?_; clear E a; intro a E
    refine list_pure E rfl rfl (by decide) (rn_assign E rfl rfl) ?_; clear E a; intro a E
    refine list_pure E rfl rfl (by decide) (rn_assign E rfl rfl) ?_; clear E a; intro a E
    refine wpList_nil ?_
    refine then_k hK ?_; clear hK; clear K
    refine wp_seq_k ?_; intro K hK
    refine wp_seq_k ?_; intro K hK
    refine region_list ?_
    refine list_pure E rfl rfl (by decide) (rn_move E rfl rfl) ?_; clear E a; intro a E
    refine list_pure E rfl rfl (by decide) (by first | exact rn_neq E rfl rfl rfl | exact rn_neq_ptr_nil E rfl rfl rfl rfl | exact rn_neq_bool E rfl rfl rfl rfl | exact rn_neq_string E rfl rfl rfl) ?_; clear E a; intro a E
    refine wpList_nil ?_
    refine then_k hK ?_; clear hK; clear K
    refine if_bool E rfl (fun hb => ?_) (fun hb => ?_)
    · replace hb := Nrm.nrm hb
      skip
      refine wp_seq_k ?_; intro K hK
      refine region_list ?_
      refine list_pure E rfl rfl (by decide) (rn_build (cells := [_, _, _, _, _, _, _, _, _, _]) E rfl rfl rfl) ?_; clear E a; intro a E
      refine list_pure E rfl rfl (by decide) (rn_move E rfl rfl) ?_; clear E a; intro a E
      refine list_wp rfl (wp_storeN E S rfl rfl rfl rfl (by simp [Value.oneCell']) rfl (by repeat (first | exact pk1 | apply pick_tail)) (by simp) ?_); clear E S a; intro a w E S; simp only [List.take_succ_cons, List.take_zero, List.drop_succ_cons, List.drop_zero, List.cons_append, List.nil_append, List.append_nil, List.length_cons, List.length_nil, Nat.zero_add, Nat.add_zero] at S
      refine list_pure E rfl rfl (by decide) (rn_assign E rfl rfl) ?_; clear E a; intro a E
      refine wpList_nil ?_
      refine then_k hK ?_; clear hK; clear K
      refine wp_ret ?_
      refine then_ret ?_; clear hK; clear K
      refine ret_ct E rfl rfl rfl (S.get (by repeat (first | exact pk1 | apply pick_tail))) rfl ?_
      have hv : rqF (dataP 2048) b = (rq0, opE b 1) := by unfold rqF; rw [if_pos hE]
      exact ⟨_, rfl, _, [], by rw [hv], by rw [hv]; exact Buf.nil _ _, (S.del (A := [(b2, _)]) (by repeat (first | exact pk1 | apply pick_tail))).addNil.tr⟩
    · replace hb := Nrm.nrm hb
      exfalso; omega
  · skip
    have S := S.all hT
    refine list_pure E rfl rfl (by decide) (rn_move E rfl rfl) ?_; clear E a; intro a E
    refine list_pure E rfl rfl (by decide) (rn_extract E rfl rfl rfl) ?_; clear E a; intro a E
    refine list_pure E rfl rfl (by decide) (rn_extract E rfl rfl rfl) ?_; clear E a; intro a E
    refine list_pure E rfl rfl (by decide) (rn_assign E rfl rfl) ?_; clear E a; intro a E
    refine list_pure E rfl rfl (by decide) (rn_assign E rfl rfl) ?_; clear E a; intro a E
    refine wpList_nil ?_
    refine then_k hK ?_; clear hK; clear K
    refine wp_seq_k ?_; intro K hK
    refine wp_seq_k ?_; intro K hK
    refine region_list ?_
    refine list_pure E rfl rfl (by decide) (rn_move E rfl rfl) ?_; clear E a; intro a E
    refine list_pure E rfl rfl (by decide) (by first | exact rn_neq E rfl rfl rfl | exact rn_neq_ptr_nil E rfl rfl rfl rfl | exact rn_neq_bool E rfl rfl rfl rfl | exact rn_neq_string E rfl rfl rfl) ?_; clear E a; intro a E
    refine wpList_nil ?_
    refine then_k hK ?_; clear hK; clear K
    refine if_bool E rfl (fun hb => ?_) (fun hb => ?_)
    · replace hb := Nrm.nrm hb
      exfalso; omega
    · replace hb := Nrm.nrm hb
      skip
      refine wp_skip ?_
      refine then_k hK ?_; clear hK; clear K
      refine wp_seq_k ?_; intro K hK
      refine region_list ?_
      refine list_pure E rfl rfl (by decide) (rn_move E rfl rfl) ?_; clear E a; intro a E
      refine list_call E rfl rfl (by decide) rfl Tryd.func36 rfl (by kernel_rfl) rfl (bnum_ret pb p _ A _ hA 1 (by omega) (S.hp.sel (sel_cons (by repeat (first | exact pk1 | apply pick_tail)) (sel_cons (by repeat (first | exact pk1 | apply pick_tail)) (sel_nil _))))) ?_
      rintro v19 w ⟨A1, rfl, hA1, hT⟩; clear E a; intro a E
      have S := S.call2 (sel_cons (by repeat (first | exact pk1 | apply pick_tail)) (sel_cons (by repeat (first | exact pk1 | apply pick_tail)) (sel_nil _))) hT
      obtain ⟨s1, hs1⟩ : ∃ s1, s1 = (Rdr.mk (opX b) 1 0).num 1 := ⟨_, rfl⟩
      rw [show (((1 : Nat) : Int)) = 1 from rfl, ← hs1] at E hA1
      refine list_pure E rfl rfl (by decide) (rn_move E rfl rfl) ?_; clear E a; intro a E
      refine list_call E rfl rfl (by decide) rfl Tryd.func36 rfl (by kernel_rfl) rfl (bnum_ret pb p _ A1 _ hA1 4 (by omega) (S.hp.sel (sel_cons (by repeat (first | exact pk1 | apply pick_tail)) (sel_cons (by repeat (first | exact pk1 | apply pick_tail)) (sel_nil _))))) ?_
      rintro v21 w ⟨A2, rfl, hA2, hT⟩; clear E a; intro a E
      have S := S.call2 (sel_cons (by repeat (first | exact pk1 | apply pick_tail)) (sel_cons (by repeat (first | exact pk1 | apply pick_tail)) (sel_nil _))) hT
      obtain ⟨s2, hs2⟩ : ∃ s2, s2 = s1.2.num 4 := ⟨_, rfl⟩
      rw [show (((4 : Nat) : Int)) = 4 from rfl, ← hs2] at E hA2
      refine list_pure E rfl rfl (by decide) (rn_move E rfl rfl) ?_; clear E a; intro a E
      refine list_call E rfl rfl (by decide) rfl Tryd.func36 rfl (by kernel_rfl) rfl (bnum_ret pb p _ A2 _ hA2 1 (by omega) (S.hp.sel (sel_cons (by repeat (first | exact pk1 | apply pick_tail)) (sel_cons (by repeat (first | exact pk1 | apply pick_tail)) (sel_nil _))))) ?_
      rintro v23 w ⟨A3, rfl, hA3, hT⟩; clear E a; intro a E
      have S := S.call2 (sel_cons (by repeat (first | exact pk1 | apply pick_tail)) (sel_cons (by repeat (first | exact pk1 | apply pick_tail)) (sel_nil _))) hT
      obtain ⟨s3, hs3⟩ : ∃ s3, s3 = s2.2.num 1 := ⟨_, rfl⟩
      rw [show (((1 : Nat) : Int)) = 1 from rfl, ← hs3] at E hA3
      refine list_pure E rfl rfl (by decide) (rn_build (cells := [_, _, _, _, _, _, _, _, _, _]) E rfl rfl rfl) ?_; clear E a; intro a E
      refine list_wp rfl (wp_alloc E S rfl rfl (by decide) rfl rfl rfl ?_); clear E S a; intro a w b6 E S
      refine list_wp rfl (wp_storeN E S rfl rfl rfl rfl (by simp [Value.oneCell']) rfl (by repeat (first | exact pk1 | apply pick_tail)) (by simp) ?_); clear E S a; intro a w E S; simp only [List.take_succ_cons, List.take_zero, List.drop_succ_cons, List.drop_zero, List.cons_append, List.nil_append, List.append_nil, List.length_cons, List.length_nil, Nat.zero_add, Nat.add_zero] at S
      refine wpList_nil ?_
      refine then_k hK ?_; clear hK; clear K
      refine wp_seq_k ?_; intro K hK
      refine wp_seq_k ?_; intro K hK
      refine region_list ?_
      refine list_pure E rfl rfl (by decide) (by first | exact rn_fieldAddr0 (q := 3) E rfl rfl rfl | exact rn_fieldAddr (q := 3) E rfl rfl rfl) ?_; clear E a; intro a E
      refine list_pure E rfl rfl (by decide) (by first | exact rn_fieldAddr0 (q := 4) E rfl rfl rfl | exact rn_fieldAddr (q := 4) E rfl rfl rfl) ?_; clear E a; intro a E
      refine list_pure E rfl rfl (by decide) (by first | exact rn_fieldAddr0 (q := 5) E rfl rfl rfl | exact rn_fieldAddr (q := 5) E rfl rfl rfl) ?_; clear E a; intro a E
      refine list_pure E rfl rfl (by decide) (by first | exact rn_fieldAddr0 (q := 6) E rfl rfl rfl | exact rn_fieldAddr (q := 6) E rfl rfl rfl) ?_; clear E a; intro a E
      refine list_wp rfl (wp_bslice (cells := [_, _, _, _]) E S rfl rfl (by decide) rfl rfl rfl rfl rfl (by decide) rfl ?_); clear E S a; intro a w b29 E S
      refine list_pure E rfl rfl (by decide) (by first | exact rn_len E rfl rfl rfl | exact rn_len_str E rfl rfl rfl | exact rn_len_string E rfl rfl rfl) ?_; clear E a; intro a E
      refine list_pure E rfl rfl (by decide) (rn_move E rfl rfl) ?_; clear E a; intro a E
      refine wpList_nil ?_
      refine then_k hK ?_; clear hK; clear K
      refine wp_block ?_
      refine wp_loop_ghost (fun (m : Nat) (a : Act) (w' : World) => ∃ (i : Nat) (A' : Chunk), m = 4 - i ∧ i ≤ 4 ∧ RdC 100 p (sT s3.2 i) A' ∧ St w0 As w' ([(pb, cel [ptr p] 79)] :: A' :: [(b6, cel [.int .i64 s1.1, .int .i64 s2.1, .int .i64 s3.1, str (tC s3.2 i 0), str (tC s3.2 i 1), str (tC s3.2 i 2), str (tC s3.2 i 3), .int .i64 0, .int .i64 0, .slice none 0 0] 24)] :: [(b29, cel [.pointer (some ⟨b6, 3, none⟩), .pointer (some ⟨b6, 4, none⟩), .pointer (some ⟨b6, 5, none⟩), .pointer (some ⟨b6, 6, none⟩)] 75)] :: [(b2, cel [.int .i64 0, .int .i64 0, .int .i64 0, str [], str [], str [], str [], .int .i64 0, .int .i64 0, .slice none 0 0] 24)] :: As) ∧ Fr a 65 [(2, ptr b2), (4, ptr pb), (6, ptr b6), (29, .slice (some ⟨b29, 0, none⟩) 4 4), (30, .int .i64 (4 : Nat)), (31, .int .i64 i)]) (4 - 0) ?_ ?_
      · exact ⟨0, A3, rfl, by omega, hA3, (S.front4 (A := [(pb, _)]) (by repeat (first | exact pk1 | apply pick_tail)) (B := A3) (by repeat (first | exact pk1 | apply pick_tail)) (C := [(b6, _)]) (by repeat (first | exact pk1 | apply pick_tail)) (D := [(b29, _)]) (by repeat (first | exact pk1 | apply pick_tail))), E.keep (keep_cons rfl (keep_cons rfl (keep_cons rfl (keep_cons rfl (keep_cons rfl (keep_cons rfl keep_nil))))))⟩
      clear E; clear a; (try clear S); rintro m a w ⟨i, A', rfl, hi, hA', S, E⟩
      refine wp_seq_k ?_; intro K hK
      refine region_list ?_
      refine list_pure E rfl rfl (by decide) (rn_lss E rfl rfl rfl) ?_; clear E a; intro a E
      refine wpList_nil ?_
      refine then_k hK ?_; clear hK; clear K
      refine wp_seq_k ?_; intro K hK
      refine if_bool E rfl (fun hb => ?_) (fun hb => ?_)
      · replace hb := Nrm.nrm hb
        refine wp_skip ?_
        refine then_k hK ?_; clear hK; clear K
        refine wp_seq_k ?_; intro K hK
        refine wp_block ?_
        refine wp_seq_k ?_; intro K hK
        have hi4 : i < 4 := by omega
        refine region_list ?_
        refine list_pure E rfl rfl (by decide) (rn_is0 (i := i) E rfl rfl rfl rfl rfl rfl (by omega)) ?_; clear E a; intro a E
        refine list_pure E rfl rfl (by decide) (rn_loadc E rfl rfl rfl (blk_cell (S.get (show List.Perm _ ([(b29, _)] :: _) from (by repeat (first | exact pk1 | apply pick_tail)))) (v := .pointer (some ⟨b6, 3 + i, none⟩)) (ptr4_get b6 hi4))) ?_; clear E a; intro a E
        refine list_pure E rfl rfl (by decide) (rn_assign E rfl rfl) ?_; clear E a; intro a E
        refine wpList_nil ?_
        refine then_k hK ?_; clear hK; clear K
        refine region_list ?_
        refine list_pure E rfl rfl (by decide) (rn_move E rfl rfl) ?_; clear E a; intro a E
        refine list_pure E rfl rfl (by decide) (rn_move E rfl rfl) ?_; clear E a; intro a E
        refine list_pure E rfl rfl (by decide) (rn_nilCheck E rfl rfl) ?_; clear E a; intro a E
        refine list_pure E rfl rfl (by decide) (by first | exact rn_fieldAddr0 (q := 0) E rfl rfl rfl | exact rn_fieldAddr (q := 0) E rfl rfl rfl) ?_; clear E a; intro a E
        refine list_pure E rfl rfl (by decide) (by first | exact rn_load E rfl rfl rfl (S.get (by repeat (first | exact pk1 | apply pick_tail))) rfl | exact rn_loadc E rfl rfl rfl (by assumption)) ?_; clear E a; intro a E
        refine list_call E rfl rfl (by decide) rfl Tryd.func37 rfl (by kernel_rfl) rfl (rtext_ret p _ A' _ hA' (S.hp.sel (sel_cons (by repeat (first | exact pk1 | apply pick_tail)) (sel_nil _))) 240) ?_
        rintro v40 w ⟨A5, rfl, hA5, hT⟩; clear E a; intro a E
        have S := S.call1 (sel_cons (by repeat (first | exact pk1 | apply pick_tail)) (sel_nil _)) hT
        refine list_pure E rfl rfl (by decide) (rn_nilCheck E rfl rfl) ?_; clear E a; intro a E
        refine list_wp rfl (wp_store1 E S rfl rfl rfl rfl rfl rfl (by repeat (first | exact pk1 | apply pick_tail)) (by show 3 + i < 10; omega) ?_); clear E S a; intro a w E S; try dsimp only [List.set] at S
        refine wpList_nil ?_
        refine in_normal ?_
        refine then_k hK ?_; clear hK; clear K
        refine region_list ?_
        refine list_pure E rfl rfl (by decide) (rn_add E rfl rfl rfl (by first | exact wa_lit (y := 1) (by omega) | exact w_in (by omega) | exact w_inu (by omega) | exact rfl)) ?_; clear E a; intro a E
        refine list_pure E rfl rfl (by decide) (rn_move E rfl rfl) ?_; clear E a; intro a E
        refine wpList_nil ?_
        refine then_normal ?_
        rw [show ((sT s3.2 i).text 240).1 = tT s3.2 i from rfl, tC_set s3.2 _ _ _ i hi4] at S
        exact ⟨_, by omega, i + 1, A5, rfl, by omega, hA5, S.front4 (A := [(pb, _)]) (by repeat (first | exact pk1 | apply pick_tail)) (B := A5) (by repeat (first | exact pk1 | apply pick_tail)) (C := [(b6, _)]) (by repeat (first | exact pk1 | apply pick_tail)) (D := [(b29, _)]) (by repeat (first | exact pk1 | apply pick_tail)), E.keep (keep_cons rfl (keep_cons rfl (keep_cons rfl (keep_cons rfl (keep_cons rfl (keep_cons rfl keep_nil))))))⟩
      · replace hb := Nrm.nrm hb
        refine wp_exit ?_
        refine then_exit ?_; clear hK; clear K
        refine then_exit ?_
        refine in_exit ?_
        refine then_k hK ?_; clear hK; clear K
        refine wp_seq_k ?_; intro K hK
        obtain rfl : i = 4 := by omega
        have S : St w0 As _ ([(pb, cel [ptr p] 79)] :: A' :: [(b6, cel [.int .i64 s1.1, .int .i64 s2.1, .int .i64 s3.1, str (tT s3.2 0), str (tT s3.2 1), str (tT s3.2 2), str (tT s3.2 3), .int .i64 0, .int .i64 0, .slice none 0 0] 24)] :: [(b29, cel [.pointer (some ⟨b6, 3, none⟩), .pointer (some ⟨b6, 4, none⟩), .pointer (some ⟨b6, 5, none⟩), .pointer (some ⟨b6, 6, none⟩)] 75)] :: [(b2, cel [.int .i64 0, .int .i64 0, .int .i64 0, str [], str [], str [], str [], .int .i64 0, .int .i64 0, .slice none 0 0] 24)] :: As) := S
        refine region_list ?_
        refine list_pure E rfl rfl (by decide) (rn_move E rfl rfl) ?_; clear E a; intro a E
        refine list_call E rfl rfl (by decide) rfl Tryd.func36 rfl (by kernel_rfl) rfl (bnum_ret pb p _ A' _ hA' 6 (by omega) (S.hp.sel (sel_cons (by repeat (first | exact pk1 | apply pick_tail)) (sel_cons (by repeat (first | exact pk1 | apply pick_tail)) (sel_nil _))))) ?_
        rintro v44 w ⟨A6, rfl, hA6, hT⟩; clear E a; intro a E
        have S := S.call2 (sel_cons (by repeat (first | exact pk1 | apply pick_tail)) (sel_cons (by repeat (first | exact pk1 | apply pick_tail)) (sel_nil _))) hT
        obtain ⟨s4, hs4⟩ : ∃ s4, s4 = (sT s3.2 4).num 6 := ⟨_, rfl⟩
        rw [show (((6 : Nat) : Int)) = 6 from rfl, ← hs4] at E hA6
        refine list_pure E rfl rfl (by decide) (rn_move E rfl rfl) ?_; clear E a; intro a E
        refine list_call E rfl rfl (by decide) rfl Tryd.func36 rfl (by kernel_rfl) rfl (bnum_ret pb p _ A6 _ hA6 6 (by omega) (S.hp.sel (sel_cons (by repeat (first | exact pk1 | apply pick_tail)) (sel_cons (by repeat (first | exact pk1 | apply pick_tail)) (sel_nil _))))) ?_
        rintro v46 w ⟨A7, rfl, hA7, hT⟩; clear E a; intro a E
        have S := S.call2 (sel_cons (by repeat (first | exact pk1 | apply pick_tail)) (sel_cons (by repeat (first | exact pk1 | apply pick_tail)) (sel_nil _))) hT
        obtain ⟨s5, hs5⟩ : ∃ s5, s5 = s4.2.num 6 := ⟨_, rfl⟩
        rw [show (((6 : Nat) : Int)) = 6 from rfl, ← hs5] at E hA7
        refine list_pure E rfl rfl (by decide) (by first | exact rn_fieldAddr0 (q := 7) E rfl rfl rfl | exact rn_fieldAddr (q := 7) E rfl rfl rfl) ?_; clear E a; intro a E
        refine list_wp rfl (wp_store1 E S rfl rfl rfl rfl rfl rfl (by repeat (first | exact pk1 | apply pick_tail)) (by first | exact Nat.le_of_ble_eq_true rfl | (simp; done) | (simp; omega)) ?_); clear E S a; intro a w E S; try dsimp only [List.set] at S
        refine list_pure E rfl rfl (by decide) (by first | exact rn_fieldAddr0 (q := 8) E rfl rfl rfl | exact rn_fieldAddr (q := 8) E rfl rfl rfl) ?_; clear E a; intro a E
        refine list_wp rfl (wp_store1 E S rfl rfl rfl rfl rfl rfl (by repeat (first | exact pk1 | apply pick_tail)) (by first | exact Nat.le_of_ble_eq_true rfl | (simp; done) | (simp; omega)) ?_); clear E S a; intro a w E S; try dsimp only [List.set] at S
        refine wpList_nil ?_
        refine then_k hK ?_; clear hK; clear K
        refine wp_seq_k ?_; intro K hK
        refine region_list ?_
        refine list_pure E rfl rfl (by decide) (rn_move E rfl rfl) ?_; clear E a; intro a E
        refine list_call E rfl rfl (by decide) rfl Tryd.func38 rfl (by kernel_rfl) rfl (bdata_ret pb p _ A7 _ hA7 2048 (S.hp.sel (sel_cons (by repeat (first | exact pk1 | apply pick_tail)) (sel_cons (by repeat (first | exact pk1 | apply pick_tail)) (sel_nil _))))) ?_
        rintro v50 w ⟨A8, C, hA8, hC, hT⟩; clear E a; intro a E
        have S := S.call3 (sel_cons (by repeat (first | exact pk1 | apply pick_tail)) (sel_cons (by repeat (first | exact pk1 | apply pick_tail)) (sel_nil _))) hT
        obtain ⟨s6, hs6⟩ : ∃ s6, s6 = dataP 2048 s5.2 := ⟨_, rfl⟩
        rw [← hs6] at hA8 hC
        obtain ⟨ad, c, rfl⟩ := hC.slice
        obtain ⟨R, hR⟩ : ∃ R : Rq, R = ⟨s1.1, s2.1, s3.1, tT s3.2 0, tT s3.2 1, tT s3.2 2, tT s3.2 3, s4.1, s5.1, s6.1⟩ := ⟨_, rfl⟩
        have hP : rqP (dataP 2048) ⟨opX b, 1, 0⟩ = (R, s6.2) := by subst hR hs6 hs5 hs4 hs3 hs2 hs1; rfl
        have hv : rqF (dataP 2048) b = if s6.2.done = 0 ∧ R.may then (R, 0) else (rq0, 230) := by unfold rqF; rw [if_neg (by omega), hP]
        refine list_pure E rfl rfl (by decide) (by first | exact rn_fieldAddr0 (q := 9) E rfl rfl rfl | exact rn_fieldAddr (q := 9) E rfl rfl rfl) ?_; clear E a; intro a E
        refine list_wp rfl (wp_store1 E S rfl rfl rfl rfl rfl rfl (by repeat (first | exact pk1 | apply pick_tail)) (by first | exact Nat.le_of_ble_eq_true rfl | (simp; done) | (simp; omega)) ?_); clear E S a; intro a w E S; try dsimp only [List.set] at S
        refine wpList_nil ?_
        refine then_k hK ?_; clear hK; clear K
        refine wp_seq_k ?_; intro K hK
        refine wp_seq_k ?_; intro K hK
        refine region_list ?_
        refine list_pure E rfl rfl (by decide) (rn_move E rfl rfl) ?_; clear E a; intro a E
        refine list_pure E rfl rfl (by decide) (rn_nilCheck E rfl rfl) ?_; clear E a; intro a E
        refine list_pure E rfl rfl (by decide) (by first | exact rn_fieldAddr0 (q := 0) E rfl rfl rfl | exact rn_fieldAddr (q := 0) E rfl rfl rfl) ?_; clear E a; intro a E
        refine list_pure E rfl rfl (by decide) (by first | exact rn_load E rfl rfl rfl (S.get (by repeat (first | exact pk1 | apply pick_tail))) rfl | exact rn_loadc E rfl rfl rfl (by assumption)) ?_; clear E a; intro a E
        refine list_call E rfl rfl (by decide) rfl Tryd.func39 rfl (by kernel_rfl) rfl (rdone_ret p _ A8 _ hA8 (S.hp.sel (sel_cons (by repeat (first | exact pk1 | apply pick_tail)) (sel_nil _)))) ?_
        rintro v56 w ⟨rfl, hT⟩; clear E a; intro a E
        have S := S.call1 (sel_cons (by repeat (first | exact pk1 | apply pick_tail)) (sel_nil _)) hT
        refine list_pure E rfl rfl (by decide) (by first | exact rn_neq E rfl rfl rfl | exact rn_neq_ptr_nil E rfl rfl rfl rfl | exact rn_neq_bool E rfl rfl rfl rfl | exact rn_neq_string E rfl rfl rfl) ?_; clear E a; intro a E
        refine list_pure E rfl rfl (by decide) (rn_move E rfl rfl) ?_; clear E a; intro a E
        refine guard_split E (t := 58) rfl (fun hb58 => ?_) (fun hb58 => ?_)
        · have hb58n := hb58; replace hb58n := Nrm.nrm hb58n
          refine list_guard_no E rfl rfl rfl rfl hb58 rfl (by decide) ?_; clear E a; intro a E
          refine list_guard_no E rfl rfl rfl rfl hb58 rfl (by decide) ?_; clear E a; intro a E
          refine list_guard_no E rfl rfl rfl rfl hb58 rfl (by decide) ?_; clear E a; intro a E
          refine list_pure E rfl rfl (by decide) (rn_pick_yes' E rfl rfl hb58 rfl) ?_; clear E a; intro a E
          refine wpList_nil ?_
          refine then_k hK ?_; clear hK; clear K
          refine if_true' E rfl rfl ?_
          refine wp_seq_k ?_; intro K hK
          replace E := E.keep (e' := [(2, _), (6, _)]) (keep_cons rfl (keep_cons rfl (keep_nil)))
          refine region_list ?_
          refine list_pure E rfl rfl (by decide) (rn_build (cells := [_, _, _, _, _, _, _, _, _, _]) E rfl rfl rfl) ?_; clear E a; intro a E
          refine list_wp rfl (wp_storeN E S rfl rfl rfl rfl (by simp [Value.oneCell']) rfl (by repeat (first | exact pk1 | apply pick_tail)) (by simp) ?_); clear E S a; intro a w E S; simp only [List.take_succ_cons, List.take_zero, List.drop_succ_cons, List.drop_zero, List.cons_append, List.nil_append, List.append_nil, List.length_cons, List.length_nil, Nat.zero_add, Nat.add_zero] at S
          refine list_pure E rfl rfl (by decide) (rn_assign E rfl rfl) ?_; clear E a; intro a E
          refine wpList_nil ?_
          refine then_k hK ?_; clear hK; clear K
          refine wp_ret ?_
          refine then_ret ?_; clear hK; clear K
          refine ret_ct E rfl rfl rfl (S.get (by repeat (first | exact pk1 | apply pick_tail))) rfl ?_
          rw [if_neg (fun q => by have := q.1; have := q.2; simp_all)] at hv
          exact ⟨_, rfl, _, [], by rw [hv], by rw [hv]; exact Buf.nil _ _, ((((((S.del (A := [(b2, _)]) (by repeat (first | exact pk1 | apply pick_tail))).del (A := A8) (by repeat (first | exact pk1 | apply pick_tail))).del (A := [(b6, _)]) (by repeat (first | exact pk1 | apply pick_tail))).del (A := [(pb, _)]) (by repeat (first | exact pk1 | apply pick_tail))).del (A := [(b29, _)]) (by repeat (first | exact pk1 | apply pick_tail))).del (A := C) (by repeat (first | exact pk1 | apply pick_tail))).addNil.tr⟩
        · have hb58n := hb58; replace hb58n := Nrm.nrm hb58n
          refine list_guard_yes E rfl rfl rfl rfl hb58 rfl (by decide) (rn_load_blk (vs := [_, _, _, _, _, _, _, _, _, _]) E rfl rfl rfl (S.get (by repeat (first | exact pk1 | apply pick_tail))) rfl rfl) ?_; clear E a; intro a E
          refine list_guard_wp E rfl rfl rfl rfl hb58 ?_; refine wp_call' E rfl (by decide) rfl Tryd.func27 rfl (by kernel_rfl) rfl (asks_ret ⟨s1.1, s2.1, s3.1, tT s3.2 0, tT s3.2 1, tT s3.2 2, tT s3.2 3, s4.1, s5.1, s6.1⟩ ad c _) ?_
          rintro v60 w ⟨rfl, hT⟩; clear E a; intro a E
          have S := S.quiet hT; rw [← hR] at E
          refine list_guard_yes E rfl rfl rfl rfl hb58 rfl (by decide) (rn_not E rfl rfl) ?_; clear E a; intro a E
          refine list_pure E rfl rfl (by decide) (rn_pick_no' E rfl rfl hb58 rfl) ?_; clear E a; intro a E
          refine wpList_nil ?_
          refine then_k hK ?_; clear hK; clear K
          refine if_bool E rfl (fun hb => ?_) (fun hb => ?_)
          · replace hb := Nrm.nrm hb
            refine wp_seq_k ?_; intro K hK
            replace E := E.keep (e' := [(2, _), (6, _)]) (keep_cons rfl (keep_cons rfl (keep_nil)))
            refine region_list ?_
            refine list_pure E rfl rfl (by decide) (rn_build (cells := [_, _, _, _, _, _, _, _, _, _]) E rfl rfl rfl) ?_; clear E a; intro a E
            refine list_wp rfl (wp_storeN E S rfl rfl rfl rfl (by simp [Value.oneCell']) rfl (by repeat (first | exact pk1 | apply pick_tail)) (by simp) ?_); clear E S a; intro a w E S; simp only [List.take_succ_cons, List.take_zero, List.drop_succ_cons, List.drop_zero, List.cons_append, List.nil_append, List.append_nil, List.length_cons, List.length_nil, Nat.zero_add, Nat.add_zero] at S
            refine list_pure E rfl rfl (by decide) (rn_assign E rfl rfl) ?_; clear E a; intro a E
            refine wpList_nil ?_
            refine then_k hK ?_; clear hK; clear K
            refine wp_ret ?_
            refine then_ret ?_; clear hK; clear K
            refine ret_ct E rfl rfl rfl (S.get (by repeat (first | exact pk1 | apply pick_tail))) rfl ?_
            rw [if_neg (fun q => by have := q.1; have := q.2; simp_all)] at hv
            exact ⟨_, rfl, _, [], by rw [hv], by rw [hv]; exact Buf.nil _ _, ((((((S.del (A := [(b2, _)]) (by repeat (first | exact pk1 | apply pick_tail))).del (A := A8) (by repeat (first | exact pk1 | apply pick_tail))).del (A := [(b6, _)]) (by repeat (first | exact pk1 | apply pick_tail))).del (A := [(pb, _)]) (by repeat (first | exact pk1 | apply pick_tail))).del (A := [(b29, _)]) (by repeat (first | exact pk1 | apply pick_tail))).del (A := C) (by repeat (first | exact pk1 | apply pick_tail))).addNil.tr⟩
          · replace hb := Nrm.nrm hb
            refine wp_skip ?_
            refine then_k hK ?_; clear hK; clear K
            refine wp_seq_k ?_; intro K hK
            replace E := E.keep (e' := [(2, _), (6, _)]) (keep_cons rfl (keep_cons rfl (keep_nil)))
            refine region_list ?_
            refine list_pure E rfl rfl (by decide) (rn_load_blk (vs := [_, _, _, _, _, _, _, _, _, _]) E rfl rfl rfl (S.get (by repeat (first | exact pk1 | apply pick_tail))) rfl rfl) ?_; clear E a; intro a E
            refine list_wp rfl (wp_storeN E S rfl rfl rfl rfl (by simp [Value.oneCell']) rfl (by repeat (first | exact pk1 | apply pick_tail)) (by simp) ?_); clear E S a; intro a w E S; simp only [List.take_succ_cons, List.take_zero, List.drop_succ_cons, List.drop_zero, List.cons_append, List.nil_append, List.append_nil, List.length_cons, List.length_nil, Nat.zero_add, Nat.add_zero] at S
            refine list_pure E rfl rfl (by decide) (rn_assign E rfl rfl) ?_; clear E a; intro a E
            refine wpList_nil ?_
            refine then_k hK ?_; clear hK; clear K
            refine wp_ret ?_
            refine ret_ct E rfl rfl rfl (S.get (by repeat (first | exact pk1 | apply pick_tail))) rfl ?_
            rw [if_pos ⟨by omega, by simpa using hb⟩] at hv
            exact ⟨_, rfl, _, C, by rw [hv, hR], by rw [hv, hR]; exact hC, (((((S.del (A := [(b2, _)]) (by repeat (first | exact pk1 | apply pick_tail))).del (A := A8) (by repeat (first | exact pk1 | apply pick_tail))).del (A := [(b6, _)]) (by repeat (first | exact pk1 | apply pick_tail))).del (A := [(pb, _)]) (by repeat (first | exact pk1 | apply pick_tail))).del (A := [(b29, _)]) (by repeat (first | exact pk1 | apply pick_tail))).tr⟩
end Go.Proofs.YtjhmjdgdgpgcdaaDoor
