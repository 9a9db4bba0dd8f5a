/-
  CodeOneForm: what is taken up, laid down again, is the same bytes.
-/
import Derived.Test.YtbnldjephphhhaaCodeC
namespace Go.Sl

theorem numOf_inj : ∀ {xs ys : List UInt8}, xs.length = ys.length → numOf xs = numOf ys → xs = ys
  | [], [], _, _ => rfl
  | [], _ :: _, h, _ => by simp at h
  | _ :: _, [], h, _ => by simp at h
  | a :: xs, b :: ys, h, hn => by
    simp only [numOf] at hn
    have h1 := a.toNat_lt
    have h2 := b.toNat_lt
    have h3 : a.toNat = b.toNat := by omega
    have h4 : numOf xs = numOf ys := by omega
    rw [UInt8.toNat_inj.1 h3, numOf_inj (by simpa using h) h4]
theorem form_numOf (xs : List UInt8) : formOf (numOf xs) xs.length = xs :=
  numOf_inj (formOf_length _ _) (by rw [numOf_form]; exact Nat.mod_eq_of_lt (numOf_lt xs))

section
variable {b : List UInt8} {at_ e : Nat}
theorem take_cut (k : Nat) (h : at_ + k ≤ b.length) : b.take at_ ++ (Rdr.mk b at_ e).cut k 0 = b.take (at_ + k) := by
  simp only [Rdr.cut, Nat.add_zero]
  exact (List.take_add ..).symm
theorem put_take {x : List UInt8} (hx : at_ + x.length ≤ b.length) : (Wr.mk b.length (b.take at_) 0).lay (.inr x) = ⟨b.length, b.take at_ ++ x, 0⟩ := by
  have hf : (Wr.mk b.length (b.take at_) 0).fits x = true := by simp only [Wr.fits, List.length_take, decide_eq_true_eq]; omega
  simp [Wr.lay, Wr.putE, Wr.putS, hf]

theorem one_num (hat : at_ ≤ b.length) (k : Int) : ∃ v at' e', (Rdr.mk b at_ e).num k = (v, ⟨b, at', e'⟩) ∧ at' ≤ b.length ∧ (at' = at_ ∨ (at_ < at' ∧ (Wr.mk b.length (b.take at_) 0).num v k = ⟨b.length, b.take at', 0⟩)) := by
  by_cases he : e ≠ 0
  · exact ⟨0, at_, e, by simp [Rdr.num, he], hat, .inl rfl⟩
  obtain rfl : e = 0 := by omega
  by_cases hk : k < 1 ∨ 8 < k
  · exact ⟨0, at_, 1, by simp [Rdr.num, hk], hat, .inl rfl⟩
  obtain ⟨n, rfl⟩ : ∃ n : Nat, k = n := ⟨k.toNat, by omega⟩
  by_cases hl : b.length < at_ + n
  · exact ⟨0, at_, 10, by simp [Rdr.num, hk, hl], hat, .inl rfl⟩
  have hc : ((Rdr.mk b at_ 0).cut n 0).length = n := Rdr.cut_length _ n 0 (by simp only; omega)
  refine ⟨numOf ((Rdr.mk b at_ 0).cut n 0), at_ + n, 0, by simp [Rdr.num, hk, hl], by omega, .inr ⟨by omega, ?_⟩⟩
  have h1 : numE (numOf ((Rdr.mk b at_ 0).cut n 0)) n = .inr ((Rdr.mk b at_ 0).cut n 0) := by
    have h2 := numOf_lt ((Rdr.mk b at_ 0).cut n 0)
    have h3 := form_numOf ((Rdr.mk b at_ 0).cut n 0)
    rw [hc] at h2 h3
    simp only [numE, Int.toNat_natCast]
    rw [if_neg hk, if_neg (by omega), h3]
  rw [Wr.num, h1, put_take (by rw [hc]; omega), take_cut n (by omega)]
theorem one_bytes (hat : at_ ≤ b.length) (k : Int) : ∃ x at' e', (Rdr.mk b at_ e).bytes k = (x, ⟨b, at', e'⟩) ∧ at' ≤ b.length ∧ (Wr.mk b.length (b.take at_) 0).bytes x = ⟨b.length, b.take at', 0⟩ := by
  have hn : (Wr.mk b.length (b.take at_) 0).bytes [] = ⟨b.length, b.take at_, 0⟩ := by
    rw [Wr.bytes, put_take (by simpa using hat), List.append_nil]
  by_cases he : e ≠ 0
  · exact ⟨[], at_, e, by simp [Rdr.bytes, he], hat, hn⟩
  obtain rfl : e = 0 := by omega
  by_cases hk : k < 0
  · exact ⟨[], at_, 1, by simp [Rdr.bytes, hk], hat, hn⟩
  obtain ⟨n, rfl⟩ : ∃ n : Nat, k = n := ⟨k.toNat, by omega⟩
  by_cases hl : b.length < at_ + n
  · exact ⟨[], at_, 10, by simp [Rdr.bytes, hk, hl], hat, hn⟩
  have hc : ((Rdr.mk b at_ 0).cut n 0).length = n := Rdr.cut_length _ n 0 (by simp only; omega)
  refine ⟨(Rdr.mk b at_ 0).cut n 0, at_ + n, 0, by simp [Rdr.bytes, hk, hl], by omega, ?_⟩
  rw [Wr.bytes, put_take (by rw [hc]; omega), take_cut n (by omega)]
theorem one_text (hat : at_ ≤ b.length) (most : Int) : ∃ t at' e', (Rdr.mk b at_ e).text most = (t, ⟨b, at', e'⟩) ∧ at' ≤ b.length ∧ (at' = at_ ∨ (at_ < at' ∧ (Wr.mk b.length (b.take at_) 0).text t = ⟨b.length, b.take at', 0⟩)) := by
  by_cases he : e ≠ 0
  · exact ⟨[], at_, e, by simp [Rdr.text, he], hat, .inl rfl⟩
  obtain rfl : e = 0 := by omega
  by_cases h2 : b.length < at_ + 2
  · exact ⟨[], at_, 10, by simp [Rdr.text, h2], hat, .inl rfl⟩
  by_cases hm : most < numOf ((Rdr.mk b at_ 0).cut 2 0)
  · exact ⟨[], at_, 11, by simp [Rdr.text, h2, hm], hat, .inl rfl⟩
  by_cases hl : b.length < at_ + 2 + numOf ((Rdr.mk b at_ 0).cut 2 0)
  · exact ⟨[], at_, 10, by simp [Rdr.text, h2, hm, hl], hat, .inl rfl⟩
  have h3 : ((Rdr.mk b at_ 0).cut 2 0).length = 2 := Rdr.cut_length _ 2 0 (by simp only; omega)
  have hc : ((Rdr.mk b at_ 0).cut (numOf ((Rdr.mk b at_ 0).cut 2 0)) 2).length = numOf ((Rdr.mk b at_ 0).cut 2 0) := Rdr.cut_length _ _ 2 (by simp only; omega)
  refine ⟨(Rdr.mk b at_ 0).cut (numOf ((Rdr.mk b at_ 0).cut 2 0)) 2, at_ + (2 + numOf ((Rdr.mk b at_ 0).cut 2 0)), 0, by simp [Rdr.text, h2, hm, hl], by omega, .inr ⟨by omega, ?_⟩⟩
  have h4 := numOf_lt ((Rdr.mk b at_ 0).cut 2 0)
  have h5 := form_numOf ((Rdr.mk b at_ 0).cut 2 0)
  rw [h3] at h4 h5
  have h6 : (256 : Nat) ^ 2 = 65536 := rfl
  have h7 : textE ((Rdr.mk b at_ 0).cut (numOf ((Rdr.mk b at_ 0).cut 2 0)) 2) = .inr ((Rdr.mk b at_ 0).cut 2 0 ++ (Rdr.mk b at_ 0).cut (numOf ((Rdr.mk b at_ 0).cut 2 0)) 2) := by
    simp only [textE, hc]
    rw [if_neg (by omega), h5]
  rw [Wr.text, h7, put_take (by rw [List.length_append, h3, hc]; omega), ← List.append_assoc, take_cut 2 (by omega)]
  have h8 : (Rdr.mk b at_ 0).cut (numOf ((Rdr.mk b at_ 0).cut 2 0)) 2 = (Rdr.mk b (at_ + 2) 0).cut (numOf ((Rdr.mk b at_ 0).cut 2 0)) 0 := by simp [Rdr.cut]
  generalize numOf ((Rdr.mk b at_ 0).cut 2 0) = k at *
  rw [h8, take_cut k (by omega), Nat.add_assoc]
theorem one_pad (hat : at_ ≤ b.length) (to : Int) : ∃ at' e', (Rdr.mk b at_ e).pad to = ⟨b, at', e'⟩ ∧ at' ≤ b.length ∧ (at' = at_ ∨ (at_ < at' ∧ (Wr.mk b.length (b.take at_) 0).pad to = ⟨b.length, b.take at', 0⟩)) := by
  by_cases he : e ≠ 0
  · exact ⟨at_, e, by simp [Rdr.pad, he], hat, .inl rfl⟩
  obtain rfl : e = 0 := by omega
  by_cases h1 : to < at_
  · exact ⟨at_, 11, by simp [Rdr.pad, h1], hat, .inl rfl⟩
  by_cases h2 : to > b.length
  · exact ⟨at_, 10, by simp [Rdr.pad, h1, h2], hat, .inl rfl⟩
  obtain ⟨n, rfl⟩ : ∃ n : Nat, to = n := ⟨to.toNat, by omega⟩
  by_cases h3 : (Rdr.mk b at_ 0).cut (n - at_) 0 = List.replicate (n - at_) 0
  · refine ⟨n, 0, by simp [Rdr.pad, h1, h2, h3], by omega, ?_⟩
    by_cases h4 : n = at_
    · exact .inl h4
    refine .inr ⟨by omega, ?_⟩
    have hlt : (b.take at_).length = at_ := by rw [List.length_take]; omega
    have h5 : padE (Wr.mk b.length (b.take at_) 0) n = .inr (List.replicate (n - at_) 0) := by
      simp only [padE, hlt, Int.toNat_natCast]
      rw [if_neg (by omega), if_neg (by omega)]
    rw [Wr.pad, h5, put_take (by rw [List.length_replicate]; omega), ← h3, take_cut (n - at_) (by omega), show at_ + (n - at_) = n by omega]
  · exact ⟨at_, 14, by simp [Rdr.pad, h1, h2, h3], hat, .inl rfl⟩
end
end Go.Sl

namespace Go.Proofs.Ytbnldjephphhhaa
open Go.Sl Go.ChangeShapes Go.WideShapes Go.ChangeAt Go.RowKit
set_option maxRecDepth 10000

theorem left_sub {b : List UInt8} {at' e' : Nat} (hat : at' ≤ b.length) (hb : b.length ≤ 140737488351232) : IntKind.i64.wrap ((b.length : Int) - Rdr.left ⟨b, at', e'⟩) = (at' : Int) := by
  rw [show ((b.length : Int) - Rdr.left ⟨b, at', e'⟩) = at' by simp only [Rdr.left]; omega]
  exact w_nat (by omega)

set_option maxHeartbeats 4000000 in
theorem form_walk (O : Chunk) (bv : Value) (b : List UInt8) (hOb : Rd O 1 bv b.length (byt b)) (hb9 : b.length ≤ 140737488351232) (hcap : ∃ ad c, bv = .slice ad b.length c ∧ b.length ≤ c)
    (lv : Value) (l : List Cl) (hO : Rd O 5 lv l.length (l.flatMap Cl.lay)) (hg : ∀ c ∈ l, c.Ok O) (hl : l.length * 64 ≤ 140737488351232) (w0 : World) (H : Hp w0 [O]) :
    Ret Try.prog 7 #[bv, lv] w0 fun u w' => u = .bool true ∧ Trs w0 w' [O] [O] := by
  have S := St.begin H
  obtain ⟨ad, cp, rfl⟩ := hO.slice
  obtain ⟨adb0, cpb0, rfl, hcp⟩ := hcap
  refine enter2 133 Try.func7 rfl rfl (by decide) ?_; intro a E
  refine wp_seq_k ?_; intro K hK
  refine region_list ?_
  refine list_pure E rfl rfl (by decide) (rn_assign E rfl rfl) ?_; clear E a; intro a E
  refine wpList_nil ?_
  refine then_k hK ?_; clear hK; clear K
  refine wp_seq_k ?_; intro K hK
  refine region_list ?_
  refine list_call E rfl rfl (by decide) rfl Try.func9 rfl (by kernel_rfl) rfl (awake_ret _) ?_
  rintro v16 w ⟨rfl, hT⟩; clear E a; intro a E
  have S := S.quiet hT
  refine list_pure E rfl rfl (by decide) (rn_assign E rfl rfl) ?_; clear E a; intro a E
  refine wpList_nil ?_
  refine then_k hK ?_; clear hK; clear K
  refine wp_seq_k ?_; intro K hK
  refine region_list ?_
  refine list_pure E rfl rfl (by decide) (rn_move E rfl rfl) ?_; clear E a; intro a E
  refine list_call E rfl rfl (by decide) rfl Try.func13 rfl (by kernel_rfl) rfl (reader_ret O _ b _ hOb S.hp (by omega)) ?_
  rintro v18 w ⟨q, R, rfl, hR, hT⟩; clear E a; intro a E
  have S := S.all hT
  refine list_pure E rfl rfl (by decide) (rn_assign E rfl rfl) ?_; clear E a; intro a E
  refine wpList_nil ?_
  refine then_k hK ?_; clear hK; clear K
  refine wp_seq_k ?_; intro K hK
  refine region_list ?_
  refine list_pure E rfl rfl (by decide) (rn_move E rfl rfl) ?_; clear E a; intro a E
  refine list_pure E rfl rfl (by decide) (by first | exact rn_len E rfl rfl rfl | exact rn_len_str E rfl rfl rfl | exact rn_len_string E rfl rfl rfl) ?_; clear E a; intro a E
  refine list_call E rfl rfl (by decide) rfl Try.func10 rfl (by kernel_rfl) rfl (writer_ret b.length _) ?_
  rintro v21 w ⟨p, A, rfl, hA, hT⟩; clear E a; intro a E
  have S := S.fresh hT
  have hA : WrC 57 p ⟨b.length, b.take 0, 0⟩ A := hA
  refine list_pure E rfl rfl (by decide) (rn_assign E rfl rfl) ?_; clear E a; intro a E
  refine wpList_nil ?_
  refine then_k hK ?_; clear hK; clear K
  refine wp_seq_k ?_; intro K hK
  refine wp_seq_k ?_; intro K hK
  refine region_list ?_
  refine list_pure E rfl rfl (by decide) (rn_move E rfl rfl) ?_; clear E a; intro a E
  refine list_pure E rfl rfl (by decide) (by first | exact rn_eql E rfl rfl rfl | exact rn_eql_ptr_nil E rfl rfl rfl rfl | exact rn_eql_bool E rfl rfl rfl rfl | exact rn_eql_string E rfl rfl rfl) ?_; clear E a; intro a E
  refine list_pure E rfl rfl (by decide) (rn_move E rfl rfl) ?_; clear E a; intro a E
  refine guard_false E (t := 24) rfl (rfl) (fun hb24 => ?_)
  refine list_guard_yes E rfl rfl rfl rfl hb24 rfl (by decide) (rn_move E rfl rfl) ?_; clear E a; intro a E
  refine list_guard_yes E rfl rfl rfl rfl hb24 rfl (by decide) (by first | exact rn_eql E rfl rfl rfl | exact rn_eql_ptr_nil E rfl rfl rfl rfl | exact rn_eql_bool E rfl rfl rfl rfl | exact rn_eql_string E rfl rfl rfl) ?_; clear E a; intro a E
  refine list_pure E rfl rfl (by decide) (rn_pick_no' E rfl rfl hb24 rfl) ?_; clear E a; intro a E
  refine list_pure E rfl rfl (by decide) (rn_move E rfl rfl) ?_; clear E a; intro a E
  refine guard_false E (t := 28) rfl (rfl) (fun hb28 => ?_)
  refine list_guard_yes E rfl rfl rfl rfl hb28 rfl (by decide) (rn_move E rfl rfl) ?_; clear E a; intro a E
  refine list_guard_yes E rfl rfl rfl rfl hb28 rfl (by decide) (rn_not E rfl rfl) ?_; clear E a; intro a E
  refine list_pure E rfl rfl (by decide) (rn_pick_no' E rfl rfl hb28 rfl) ?_; clear E a; intro a E
  refine wpList_nil ?_
  refine then_k hK ?_; clear hK; clear K
  refine if_false' E rfl (rfl) ?_
  refine wp_skip ?_
  refine then_k hK ?_; clear hK; clear K
  refine wp_seq_k ?_; intro K hK
  refine region_list ?_
  refine list_pure E rfl rfl (by decide) (rn_assign E rfl rfl) ?_; clear E a; intro a E
  refine wpList_nil ?_
  refine then_k hK ?_; clear hK; clear K
  refine wp_seq_k ?_; intro K hK
  refine wp_seq_k ?_; intro K hK
  refine region_list ?_
  refine list_pure E rfl rfl (by decide) (rn_assign E rfl rfl) ?_; clear E a; intro a E
  refine wpList_nil ?_
  refine then_k hK ?_; clear hK; clear K
  refine wp_block ?_
  refine wp_loop_ghost (fun (m : Nat) (a : Act) (w' : World) => ∃ (i at_ e : Nat) (R A : Chunk), i ≤ l.length ∧ m = l.length - i ∧ at_ ≤ b.length ∧ RdC 64 q ⟨b, at_, e⟩ R ∧ WrC 57 p ⟨b.length, b.take at_, 0⟩ A ∧ St w0 [O] w' [R, A, O] ∧ Fr a 133 [(0, .slice adb0 b.length cpb0), (1, .slice ad l.length cp), (6, ptr q), (7, ptr p), (8, .int .i64 at_), (9, .int .i64 i)]) (l.length - 0) ?_ ?_
  · exact ⟨0, 0, 0, R, A, by omega, rfl, by omega, hR, hA, S.perm (Bs := [R, A, O]) (sel_cons (by first | exact pk1 | exact pk2 | exact pk3 | exact pk4 | exact pk5 | exact pk6 | exact pk7 | exact pk8 | exact pk9) (sel_cons (by first | exact pk1 | exact pk2 | exact pk3 | exact pk4 | exact pk5 | exact pk6 | exact pk7 | exact pk8 | exact pk9) (sel_cons (by first | exact pk1 | exact pk2 | exact pk3 | exact pk4 | exact pk5 | exact pk6 | exact pk7 | exact pk8 | exact pk9) (sel_nil _)))), E.keep (keep_cons rfl (keep_cons rfl (keep_cons rfl (keep_cons rfl (keep_cons rfl (keep_cons rfl keep_nil))))))⟩
  clear E; clear a; rintro m a w ⟨i, at_, e, R, A, hi, rfl, hat, hR, hA, S, E⟩
  refine wp_seq_k ?_; intro K hK
  refine wp_seq_k ?_; intro K hK
  refine region_list ?_
  refine list_pure E rfl rfl (by decide) (rn_move E rfl rfl) ?_; clear E a; intro a E
  refine list_pure E rfl rfl (by decide) (rn_move E rfl rfl) ?_; clear E a; intro a E
  refine list_pure E rfl rfl (by decide) (by first | exact rn_len E rfl rfl rfl | exact rn_len_str E rfl rfl rfl | exact rn_len_string E rfl rfl rfl) ?_; clear E a; intro a E
  refine list_pure E rfl rfl (by decide) (rn_lss E rfl rfl rfl) ?_; clear E a; intro a E
  refine wpList_nil ?_
  refine then_k hK ?_; clear hK; clear K
  refine if_bool E rfl (fun hb => ?_) (fun hb => ?_)
  · first | replace hb := n1 hb | replace hb := n2 hb | replace hb := n3 hb | replace hb := n4 hb | replace hb := n5 hb | replace hb := n6 hb | skip
    refine wp_skip ?_
    refine then_k hK ?_; clear hK; clear K
    refine wp_seq_k ?_; intro K hK
    refine wp_block ?_
    refine wp_seq_k ?_; intro K hK
    obtain ⟨b0, off, rfl⟩ := hO.addr (by omega)
    have hcell := hO.elem (lay := Cl.lay) Cl.lay_len (S.stab.at (by first | exact mm1 | exact mm2 | exact mm3 | exact mm4 | exact mm5 | exact mm6 | exact mm7 | exact mm8)) (i := i) (by omega)
    have hcok := hg _ (List.getElem_mem (by omega : i < l.length))
    generalize l[i] = c at hcell hcok
    obtain ⟨adb, cpb, hbv⟩ := hcok.bv
    have hmb := hcok.many
    refine region_list ?_
    refine list_pure E rfl rfl (by decide) (rn_move E rfl rfl) ?_; clear E a; intro a E
    refine list_pure E rfl rfl (by decide) (rn_move E rfl rfl) ?_; clear E a; intro a E
    refine list_pure E rfl rfl (by decide) (by first | exact rn_indexAddr1 E rfl rfl rfl rfl rfl rfl (by omega) | exact rn_indexAddr E rfl rfl rfl rfl rfl rfl (by omega) | exact rn_indexAddr_array E rfl rfl rfl rfl rfl rfl (by omega)) ?_; clear E a; intro a E
    refine list_pure E rfl rfl (by decide) (rn_load_aggc (vs := [_, _, _, _, _]) E rfl rfl rfl rfl (hcell)) ?_; clear E a; intro a E
    rw [hbv] at E
    refine list_wp rfl (wp_alloc E S rfl rfl (by decide) rfl rfl rfl ?_); clear E S a; intro a w b10 E S
    refine list_wp rfl (wp_storeN E S rfl rfl rfl rfl (by simp [Value.oneCell']) rfl (by first | exact pk1 | exact pk2 | exact pk3 | exact pk4 | exact pk5 | exact pk6 | exact pk7 | exact pk8 | exact pk9) (by simp) ?_); clear E S a; intro a w E S; simp only [List.take_succ_cons, List.take_zero, List.drop_succ_cons, List.drop_zero, List.cons_append, List.nil_append, List.append_nil, List.length_cons, List.length_nil, Nat.zero_add, Nat.add_zero] at S
    refine wpList_nil ?_
    refine then_k hK ?_; clear hK; clear K
    refine wp_seq_k ?_; intro K hK
    refine wp_seq_k ?_; intro K hK
    refine region_list ?_
    refine list_pure E rfl rfl (by decide) (by first | exact rn_fieldAddr0 (q := 0) E rfl rfl rfl | exact rn_fieldAddr (q := 0) E rfl rfl rfl) ?_; clear E a; intro a E
    refine list_pure E rfl rfl (by decide) (by first | exact rn_load E rfl rfl rfl (S.get (by first | exact pk1 | exact pk2 | exact pk3 | exact pk4 | exact pk5 | exact pk6 | exact pk7 | exact pk8 | exact pk9)) rfl | exact rn_loadc E rfl rfl rfl (by assumption)) ?_; clear E a; intro a E
    refine wpList_nil ?_
    refine then_k hK ?_; clear hK; clear K
    refine wp_join (fun (a : Act) (w' : World) => ∃ (at' e' : Nat) (R1 A1 : Chunk), at' ≤ b.length ∧ RdC 64 q ⟨b, at', e'⟩ R1 ∧ WrC 57 p ⟨b.length, b.take at', 0⟩ A1 ∧ St w0 [O] w' [R1, A1, O] ∧ Fr a 133 [(0, .slice adb0 b.length cpb0), (1, .slice (some ⟨b0, off, none⟩) l.length cp), (6, ptr q), (7, ptr p), (9, .int .i64 i)]) ?_ ?_
    · refine wp_block ?_
      refine wp_seq_k ?_; intro K hK
      refine region_list ?_
      refine list_pure E rfl rfl (by decide) (by first | exact rn_eql E rfl rfl rfl | exact rn_eql_ptr_nil E rfl rfl rfl rfl | exact rn_eql_bool E rfl rfl rfl rfl | exact rn_eql_string E rfl rfl rfl) ?_; clear E a; intro a E
      refine list_pure E rfl rfl (by decide) (rn_assign E rfl rfl) ?_; clear E a; intro a E
      refine wpList_nil ?_
      refine then_k hK ?_; clear hK; clear K
      refine if_bool E rfl (fun hb => ?_) (fun hb => ?_)
      · first | replace hb := n1 hb | replace hb := n2 hb | replace hb := n3 hb | replace hb := n4 hb | replace hb := n5 hb | replace hb := n6 hb | skip
        refine wp_seq_k ?_; intro K hK
        refine region_list ?_
        refine list_pure E rfl rfl (by decide) (rn_move E rfl rfl) ?_; clear E a; intro a E
        refine list_pure E rfl rfl (by decide) (by first | exact rn_fieldAddr0 (q := 2) E rfl rfl rfl | exact rn_fieldAddr (q := 2) E rfl rfl rfl) ?_; clear E a; intro a E
        refine list_pure E rfl rfl (by decide) (by first | exact rn_load E rfl rfl rfl (S.get (by first | exact pk1 | exact pk2 | exact pk3 | exact pk4 | exact pk5 | exact pk6 | exact pk7 | exact pk8 | exact pk9)) rfl | exact rn_loadc E rfl rfl rfl (by assumption)) ?_; clear E a; intro a E
        refine list_call E rfl rfl (by decide) rfl Try.func14 rfl (by kernel_rfl) rfl (rnum_ret q _ R _ hR (S.hp.sel (sel_cons (by first | exact pk1 | exact pk2 | exact pk3 | exact pk4 | exact pk5 | exact pk6 | exact pk7 | exact pk8 | exact pk9) (sel_nil _))) c.many) ?_
        rintro v64 w ⟨R1, rfl, hR1, hT⟩; clear E a; intro a E
        have S := S.call1 (sel_cons (by first | exact pk1 | exact pk2 | exact pk3 | exact pk4 | exact pk5 | exact pk6 | exact pk7 | exact pk8 | exact pk9) (sel_nil _)) hT
        obtain ⟨v, at', e', hv, hat', hor⟩ := one_num (e := e) hat c.many
        rw [hv] at hR1 E
        refine list_pure E rfl rfl (by decide) (rn_assign E rfl rfl) ?_; clear E a; intro a E
        refine wpList_nil ?_
        refine then_k hK ?_; clear hK; clear K
        refine wp_seq_k ?_; intro K hK
        refine region_list ?_
        refine list_pure E rfl rfl (by decide) (rn_move E rfl rfl) ?_; clear E a; intro a E
        refine list_pure E rfl rfl (by decide) (by first | exact rn_len E rfl rfl rfl | exact rn_len_str E rfl rfl rfl | exact rn_len_string E rfl rfl rfl) ?_; clear E a; intro a E
        refine list_pure E rfl rfl (by decide) (rn_move E rfl rfl) ?_; clear E a; intro a E
        refine list_call E rfl rfl (by decide) rfl Try.func21 rfl (by kernel_rfl) rfl (left_ret q _ R1 _ hR1 (S.hp.sel (sel_cons (by first | exact pk1 | exact pk2 | exact pk3 | exact pk4 | exact pk5 | exact pk6 | exact pk7 | exact pk8 | exact pk9) (sel_nil _)))) ?_
        rintro v68 w ⟨rfl, hT⟩; clear E a; intro a E
        have S := S.call1 (sel_cons (by first | exact pk1 | exact pk2 | exact pk3 | exact pk4 | exact pk5 | exact pk6 | exact pk7 | exact pk8 | exact pk9) (sel_nil _)) hT
        refine list_pure E rfl rfl (by decide) (rn_sub E rfl rfl rfl (left_sub hat' hb9)) ?_; clear E a; intro a E
        refine list_pure E rfl rfl (by decide) (rn_move E rfl rfl) ?_; clear E a; intro a E
        refine list_pure E rfl rfl (by decide) (rn_gtr E rfl rfl rfl) ?_; clear E a; intro a E
        refine wpList_nil ?_
        refine then_k hK ?_; clear hK; clear K
        refine if_bool E rfl (fun hb => ?_) (fun hb => ?_)
        · first | replace hb := n1 hb | replace hb := n2 hb | replace hb := n3 hb | replace hb := n4 hb | replace hb := n5 hb | replace hb := n6 hb | skip
          have hlaw := (hor.resolve_left (by omega)).2
          refine region_list ?_
          refine list_pure E rfl rfl (by decide) (rn_move E rfl rfl) ?_; clear E a; intro a E
          refine list_pure E rfl rfl (by decide) (rn_move E rfl rfl) ?_; clear E a; intro a E
          refine list_pure E rfl rfl (by decide) (by first | exact rn_fieldAddr0 (q := 2) E rfl rfl rfl | exact rn_fieldAddr (q := 2) E rfl rfl rfl) ?_; clear E a; intro a E
          refine list_pure E rfl rfl (by decide) (by first | exact rn_load E rfl rfl rfl (S.get (by first | exact pk1 | exact pk2 | exact pk3 | exact pk4 | exact pk5 | exact pk6 | exact pk7 | exact pk8 | exact pk9)) rfl | exact rn_loadc E rfl rfl rfl (by assumption)) ?_; clear E a; intro a E
          refine list_call E rfl rfl (by decide) rfl Try.func11 rfl (by kernel_rfl) rfl (num_ret p _ A _ hA v c.many (S.hp.sel (sel_cons (by first | exact pk1 | exact pk2 | exact pk3 | exact pk4 | exact pk5 | exact pk6 | exact pk7 | exact pk8 | exact pk9) (sel_nil _))) (by simp only; omega)) ?_
          rintro v76 w ⟨A1, hA1, hT⟩; clear E a; intro a E
          have S := S.call1 (sel_cons (by first | exact pk1 | exact pk2 | exact pk3 | exact pk4 | exact pk5 | exact pk6 | exact pk7 | exact pk8 | exact pk9) (sel_nil _)) hT
          rw [hlaw] at hA1
          refine wpList_nil ?_
          refine in_normal ?_
          refine joined_here ?_
          exact ⟨at', e', R1, A1, hat', hR1, hA1, S.only (Bs := [R1, A1, O]) (sel_cons (by first | exact pk1 | exact pk2 | exact pk3 | exact pk4 | exact pk5 | exact pk6 | exact pk7 | exact pk8 | exact pk9) (sel_cons (by first | exact pk1 | exact pk2 | exact pk3 | exact pk4 | exact pk5 | exact pk6 | exact pk7 | exact pk8 | exact pk9) (sel_cons (by first | exact pk1 | exact pk2 | exact pk3 | exact pk4 | exact pk5 | exact pk6 | exact pk7 | exact pk8 | exact pk9) (sel_nil _)))), E.keep (keep_cons rfl (keep_cons rfl (keep_cons rfl (keep_cons rfl (keep_cons rfl keep_nil)))))⟩
        · first | replace hb := n1 hb | replace hb := n2 hb | replace hb := n3 hb | replace hb := n4 hb | replace hb := n5 hb | replace hb := n6 hb | skip
          refine wp_skip ?_
          refine in_normal ?_
          refine joined_here ?_
          exact ⟨at', e', R1, A, hat', hR1, (by rcases hor with h | ⟨h, -⟩; rw [h]; exact hA; omega), S.only (Bs := [R1, A, O]) (sel_cons (by first | exact pk1 | exact pk2 | exact pk3 | exact pk4 | exact pk5 | exact pk6 | exact pk7 | exact pk8 | exact pk9) (sel_cons (by first | exact pk1 | exact pk2 | exact pk3 | exact pk4 | exact pk5 | exact pk6 | exact pk7 | exact pk8 | exact pk9) (sel_cons (by first | exact pk1 | exact pk2 | exact pk3 | exact pk4 | exact pk5 | exact pk6 | exact pk7 | exact pk8 | exact pk9) (sel_nil _)))), E.keep (keep_cons rfl (keep_cons rfl (keep_cons rfl (keep_cons rfl (keep_cons rfl keep_nil)))))⟩
      · first | replace hb := n1 hb | replace hb := n2 hb | replace hb := n3 hb | replace hb := n4 hb | replace hb := n5 hb | replace hb := n6 hb | skip
        refine wp_seq_k ?_; intro K hK
        refine region_list ?_
        refine list_pure E rfl rfl (by decide) (by first | exact rn_eql E rfl rfl rfl | exact rn_eql_ptr_nil E rfl rfl rfl rfl | exact rn_eql_bool E rfl rfl rfl rfl | exact rn_eql_string E rfl rfl rfl) ?_; clear E a; intro a E
        refine list_pure E rfl rfl (by decide) (rn_assign E rfl rfl) ?_; clear E a; intro a E
        refine wpList_nil ?_
        refine then_k hK ?_; clear hK; clear K
        refine if_bool E rfl (fun hb => ?_) (fun hb => ?_)
        · first | replace hb := n1 hb | replace hb := n2 hb | replace hb := n3 hb | replace hb := n4 hb | replace hb := n5 hb | replace hb := n6 hb | skip
          refine wp_seq_k ?_; intro K hK
          refine region_list ?_
          refine list_pure E rfl rfl (by decide) (rn_move E rfl rfl) ?_; clear E a; intro a E
          refine list_pure E rfl rfl (by decide) (by first | exact rn_fieldAddr0 (q := 2) E rfl rfl rfl | exact rn_fieldAddr (q := 2) E rfl rfl rfl) ?_; clear E a; intro a E
          refine list_pure E rfl rfl (by decide) (by first | exact rn_load E rfl rfl rfl (S.get (by first | exact pk1 | exact pk2 | exact pk3 | exact pk4 | exact pk5 | exact pk6 | exact pk7 | exact pk8 | exact pk9)) rfl | exact rn_loadc E rfl rfl rfl (by assumption)) ?_; clear E a; intro a E
          refine list_call E rfl rfl (by decide) rfl Try.func27 rfl (by kernel_rfl) rfl (rbytes_ret q _ R _ hR (S.hp.sel (sel_cons (by first | exact pk1 | exact pk2 | exact pk3 | exact pk4 | exact pk5 | exact pk6 | exact pk7 | exact pk8 | exact pk9) (sel_nil _))) c.many (by omega)) ?_
          rintro v82 w ⟨R1, C1, hR1, hT, hB1⟩; clear E a; intro a E
          have S := S.call2 (sel_cons (by first | exact pk1 | exact pk2 | exact pk3 | exact pk4 | exact pk5 | exact pk6 | exact pk7 | exact pk8 | exact pk9) (sel_nil _)) hT
          obtain ⟨x, at', e', hv, hat', hlaw⟩ := one_bytes (e := e) hat c.many
          rw [hv] at hR1 hB1
          obtain ⟨ad1, c1, rfl⟩ := hB1.slice
          refine list_pure E rfl rfl (by decide) (rn_assign E rfl rfl) ?_; clear E a; intro a E
          refine wpList_nil ?_
          refine then_k hK ?_; clear hK; clear K
          refine region_list ?_
          refine list_pure E rfl rfl (by decide) (rn_move E rfl rfl) ?_; clear E a; intro a E
          refine list_pure E rfl rfl (by decide) (rn_move E rfl rfl) ?_; clear E a; intro a E
          refine list_call E rfl rfl (by decide) rfl Try.func24 rfl (by kernel_rfl) rfl (bytes_ret p _ A C1 _ hA _ x hB1.rd (S.hp.sel (sel_cons (by first | exact pk1 | exact pk2 | exact pk3 | exact pk4 | exact pk5 | exact pk6 | exact pk7 | exact pk8 | exact pk9) (sel_cons (by first | exact pk1 | exact pk2 | exact pk3 | exact pk4 | exact pk5 | exact pk6 | exact pk7 | exact pk8 | exact pk9) (sel_nil _)))) (by simp only; omega)) ?_
          rintro v85 w ⟨A1, hA1, hT⟩; clear E a; intro a E
          have S := S.call2 (sel_cons (by first | exact pk1 | exact pk2 | exact pk3 | exact pk4 | exact pk5 | exact pk6 | exact pk7 | exact pk8 | exact pk9) (sel_cons (by first | exact pk1 | exact pk2 | exact pk3 | exact pk4 | exact pk5 | exact pk6 | exact pk7 | exact pk8 | exact pk9) (sel_nil _))) hT
          rw [hlaw] at hA1
          refine wpList_nil ?_
          refine in_normal ?_
          refine joined_here ?_
          exact ⟨at', e', R1, A1, hat', hR1, hA1, S.only (Bs := [R1, A1, O]) (sel_cons (by first | exact pk1 | exact pk2 | exact pk3 | exact pk4 | exact pk5 | exact pk6 | exact pk7 | exact pk8 | exact pk9) (sel_cons (by first | exact pk1 | exact pk2 | exact pk3 | exact pk4 | exact pk5 | exact pk6 | exact pk7 | exact pk8 | exact pk9) (sel_cons (by first | exact pk1 | exact pk2 | exact pk3 | exact pk4 | exact pk5 | exact pk6 | exact pk7 | exact pk8 | exact pk9) (sel_nil _)))), E.keep (keep_cons rfl (keep_cons rfl (keep_cons rfl (keep_cons rfl (keep_cons rfl keep_nil)))))⟩
        · first | replace hb := n1 hb | replace hb := n2 hb | replace hb := n3 hb | replace hb := n4 hb | replace hb := n5 hb | replace hb := n6 hb | skip
          refine wp_seq_k ?_; intro K hK
          refine region_list ?_
          refine list_pure E rfl rfl (by decide) (by first | exact rn_eql E rfl rfl rfl | exact rn_eql_ptr_nil E rfl rfl rfl rfl | exact rn_eql_bool E rfl rfl rfl rfl | exact rn_eql_string E rfl rfl rfl) ?_; clear E a; intro a E
          refine list_pure E rfl rfl (by decide) (rn_assign E rfl rfl) ?_; clear E a; intro a E
          refine wpList_nil ?_
          refine then_k hK ?_; clear hK; clear K
          refine if_bool E rfl (fun hb => ?_) (fun hb => ?_)
          · first | replace hb := n1 hb | replace hb := n2 hb | replace hb := n3 hb | replace hb := n4 hb | replace hb := n5 hb | replace hb := n6 hb | skip
            refine wp_seq_k ?_; intro K hK
            refine region_list ?_
            refine list_pure E rfl rfl (by decide) (rn_move E rfl rfl) ?_; clear E a; intro a E
            refine list_pure E rfl rfl (by decide) (by first | exact rn_fieldAddr0 (q := 2) E rfl rfl rfl | exact rn_fieldAddr (q := 2) E rfl rfl rfl) ?_; clear E a; intro a E
            refine list_pure E rfl rfl (by decide) (by first | exact rn_load E rfl rfl rfl (S.get (by first | exact pk1 | exact pk2 | exact pk3 | exact pk4 | exact pk5 | exact pk6 | exact pk7 | exact pk8 | exact pk9)) rfl | exact rn_loadc E rfl rfl rfl (by assumption)) ?_; clear E a; intro a E
            refine list_call E rfl rfl (by decide) rfl Try.func28 rfl (by kernel_rfl) rfl (rtext_ret q _ R _ hR (S.hp.sel (sel_cons (by first | exact pk1 | exact pk2 | exact pk3 | exact pk4 | exact pk5 | exact pk6 | exact pk7 | exact pk8 | exact pk9) (sel_nil _))) c.many) ?_
            rintro v91 w ⟨R1, rfl, hR1, hT⟩; clear E a; intro a E
            have S := S.call1 (sel_cons (by first | exact pk1 | exact pk2 | exact pk3 | exact pk4 | exact pk5 | exact pk6 | exact pk7 | exact pk8 | exact pk9) (sel_nil _)) hT
            obtain ⟨t, at', e', hv, hat', hor⟩ := one_text (e := e) hat c.many
            rw [hv] at hR1 E
            refine list_pure E rfl rfl (by decide) (rn_assign E rfl rfl) ?_; clear E a; intro a E
            refine wpList_nil ?_
            refine then_k hK ?_; clear hK; clear K
            refine wp_seq_k ?_; intro K hK
            refine region_list ?_
            refine list_pure E rfl rfl (by decide) (rn_move E rfl rfl) ?_; clear E a; intro a E
            refine list_pure E rfl rfl (by decide) (by first | exact rn_len E rfl rfl rfl | exact rn_len_str E rfl rfl rfl | exact rn_len_string E rfl rfl rfl) ?_; clear E a; intro a E
            refine list_pure E rfl rfl (by decide) (rn_move E rfl rfl) ?_; clear E a; intro a E
            refine list_call E rfl rfl (by decide) rfl Try.func21 rfl (by kernel_rfl) rfl (left_ret q _ R1 _ hR1 (S.hp.sel (sel_cons (by first | exact pk1 | exact pk2 | exact pk3 | exact pk4 | exact pk5 | exact pk6 | exact pk7 | exact pk8 | exact pk9) (sel_nil _)))) ?_
            rintro v95 w ⟨rfl, hT⟩; clear E a; intro a E
            have S := S.call1 (sel_cons (by first | exact pk1 | exact pk2 | exact pk3 | exact pk4 | exact pk5 | exact pk6 | exact pk7 | exact pk8 | exact pk9) (sel_nil _)) hT
            refine list_pure E rfl rfl (by decide) (rn_sub E rfl rfl rfl (left_sub hat' hb9)) ?_; clear E a; intro a E
            refine list_pure E rfl rfl (by decide) (rn_move E rfl rfl) ?_; clear E a; intro a E
            refine list_pure E rfl rfl (by decide) (rn_gtr E rfl rfl rfl) ?_; clear E a; intro a E
            refine wpList_nil ?_
            refine then_k hK ?_; clear hK; clear K
            refine if_bool E rfl (fun hb => ?_) (fun hb => ?_)
            · first | replace hb := n1 hb | replace hb := n2 hb | replace hb := n3 hb | replace hb := n4 hb | replace hb := n5 hb | replace hb := n6 hb | skip
              have hlaw := (hor.resolve_left (by omega)).2
              refine region_list ?_
              refine list_pure E rfl rfl (by decide) (rn_move E rfl rfl) ?_; clear E a; intro a E
              refine list_pure E rfl rfl (by decide) (rn_move E rfl rfl) ?_; clear E a; intro a E
              refine list_call E rfl rfl (by decide) rfl Try.func25 rfl (by kernel_rfl) rfl (text_ret p _ A _ hA t (S.hp.sel (sel_cons (by first | exact pk1 | exact pk2 | exact pk3 | exact pk4 | exact pk5 | exact pk6 | exact pk7 | exact pk8 | exact pk9) (sel_nil _))) (by simp only; omega)) ?_
              rintro v101 w ⟨A1, hA1, hT⟩; clear E a; intro a E
              have S := S.call1 (sel_cons (by first | exact pk1 | exact pk2 | exact pk3 | exact pk4 | exact pk5 | exact pk6 | exact pk7 | exact pk8 | exact pk9) (sel_nil _)) hT
              rw [hlaw] at hA1
              refine wpList_nil ?_
              refine in_normal ?_
              refine joined_here ?_
              exact ⟨at', e', R1, A1, hat', hR1, hA1, S.only (Bs := [R1, A1, O]) (sel_cons (by first | exact pk1 | exact pk2 | exact pk3 | exact pk4 | exact pk5 | exact pk6 | exact pk7 | exact pk8 | exact pk9) (sel_cons (by first | exact pk1 | exact pk2 | exact pk3 | exact pk4 | exact pk5 | exact pk6 | exact pk7 | exact pk8 | exact pk9) (sel_cons (by first | exact pk1 | exact pk2 | exact pk3 | exact pk4 | exact pk5 | exact pk6 | exact pk7 | exact pk8 | exact pk9) (sel_nil _)))), E.keep (keep_cons rfl (keep_cons rfl (keep_cons rfl (keep_cons rfl (keep_cons rfl keep_nil)))))⟩
            · first | replace hb := n1 hb | replace hb := n2 hb | replace hb := n3 hb | replace hb := n4 hb | replace hb := n5 hb | replace hb := n6 hb | skip
              refine wp_skip ?_
              refine in_normal ?_
              refine joined_here ?_
              exact ⟨at', e', R1, A, hat', hR1, (by rcases hor with h | ⟨h, -⟩; rw [h]; exact hA; omega), S.only (Bs := [R1, A, O]) (sel_cons (by first | exact pk1 | exact pk2 | exact pk3 | exact pk4 | exact pk5 | exact pk6 | exact pk7 | exact pk8 | exact pk9) (sel_cons (by first | exact pk1 | exact pk2 | exact pk3 | exact pk4 | exact pk5 | exact pk6 | exact pk7 | exact pk8 | exact pk9) (sel_cons (by first | exact pk1 | exact pk2 | exact pk3 | exact pk4 | exact pk5 | exact pk6 | exact pk7 | exact pk8 | exact pk9) (sel_nil _)))), E.keep (keep_cons rfl (keep_cons rfl (keep_cons rfl (keep_cons rfl (keep_cons rfl keep_nil)))))⟩
          · first | replace hb := n1 hb | replace hb := n2 hb | replace hb := n3 hb | replace hb := n4 hb | replace hb := n5 hb | replace hb := n6 hb | skip
            refine wp_seq_k ?_; intro K hK
            refine region_list ?_
            refine list_pure E rfl rfl (by decide) (rn_move E rfl rfl) ?_; clear E a; intro a E
            refine list_pure E rfl rfl (by decide) (by first | exact rn_fieldAddr0 (q := 2) E rfl rfl rfl | exact rn_fieldAddr (q := 2) E rfl rfl rfl) ?_; clear E a; intro a E
            refine list_pure E rfl rfl (by decide) (by first | exact rn_load E rfl rfl rfl (S.get (by first | exact pk1 | exact pk2 | exact pk3 | exact pk4 | exact pk5 | exact pk6 | exact pk7 | exact pk8 | exact pk9)) rfl | exact rn_loadc E rfl rfl rfl (by assumption)) ?_; clear E a; intro a E
            refine list_call E rfl rfl (by decide) rfl Try.func29 rfl (by kernel_rfl) rfl (rpad_ret q _ R _ hR (S.hp.sel (sel_cons (by first | exact pk1 | exact pk2 | exact pk3 | exact pk4 | exact pk5 | exact pk6 | exact pk7 | exact pk8 | exact pk9) (sel_nil _))) c.many (by omega)) ?_
            rintro v47 w ⟨R1, hR1, hT⟩; clear E a; intro a E
            have S := S.call1 (sel_cons (by first | exact pk1 | exact pk2 | exact pk3 | exact pk4 | exact pk5 | exact pk6 | exact pk7 | exact pk8 | exact pk9) (sel_nil _)) hT
            obtain ⟨at', e', hv, hat', hor⟩ := one_pad (e := e) hat c.many
            rw [hv] at hR1
            refine wpList_nil ?_
            refine then_k hK ?_; clear hK; clear K
            refine wp_seq_k ?_; intro K hK
            refine region_list ?_
            refine list_pure E rfl rfl (by decide) (rn_move E rfl rfl) ?_; clear E a; intro a E
            refine list_pure E rfl rfl (by decide) (by first | exact rn_len E rfl rfl rfl | exact rn_len_str E rfl rfl rfl | exact rn_len_string E rfl rfl rfl) ?_; clear E a; intro a E
            refine list_pure E rfl rfl (by decide) (rn_move E rfl rfl) ?_; clear E a; intro a E
            refine list_call E rfl rfl (by decide) rfl Try.func21 rfl (by kernel_rfl) rfl (left_ret q _ R1 _ hR1 (S.hp.sel (sel_cons (by first | exact pk1 | exact pk2 | exact pk3 | exact pk4 | exact pk5 | exact pk6 | exact pk7 | exact pk8 | exact pk9) (sel_nil _)))) ?_
            rintro v51 w ⟨rfl, hT⟩; clear E a; intro a E
            have S := S.call1 (sel_cons (by first | exact pk1 | exact pk2 | exact pk3 | exact pk4 | exact pk5 | exact pk6 | exact pk7 | exact pk8 | exact pk9) (sel_nil _)) hT
            refine list_pure E rfl rfl (by decide) (rn_sub E rfl rfl rfl (left_sub hat' hb9)) ?_; clear E a; intro a E
            refine list_pure E rfl rfl (by decide) (rn_move E rfl rfl) ?_; clear E a; intro a E
            refine list_pure E rfl rfl (by decide) (rn_gtr E rfl rfl rfl) ?_; clear E a; intro a E
            refine wpList_nil ?_
            refine then_k hK ?_; clear hK; clear K
            refine if_bool E rfl (fun hb => ?_) (fun hb => ?_)
            · first | replace hb := n1 hb | replace hb := n2 hb | replace hb := n3 hb | replace hb := n4 hb | replace hb := n5 hb | replace hb := n6 hb | skip
              have hlaw := (hor.resolve_left (by omega)).2
              refine region_list ?_
              refine list_pure E rfl rfl (by decide) (rn_move E rfl rfl) ?_; clear E a; intro a E
              refine list_pure E rfl rfl (by decide) (by first | exact rn_fieldAddr0 (q := 2) E rfl rfl rfl | exact rn_fieldAddr (q := 2) E rfl rfl rfl) ?_; clear E a; intro a E
              refine list_pure E rfl rfl (by decide) (by first | exact rn_load E rfl rfl rfl (S.get (by first | exact pk1 | exact pk2 | exact pk3 | exact pk4 | exact pk5 | exact pk6 | exact pk7 | exact pk8 | exact pk9)) rfl | exact rn_loadc E rfl rfl rfl (by assumption)) ?_; clear E a; intro a E
              refine list_call E rfl rfl (by decide) rfl Try.func26 rfl (by kernel_rfl) rfl (pad_ret p _ A _ hA c.many (S.hp.sel (sel_cons (by first | exact pk1 | exact pk2 | exact pk3 | exact pk4 | exact pk5 | exact pk6 | exact pk7 | exact pk8 | exact pk9) (sel_nil _))) (by simp only; omega)) ?_
              rintro v58 w ⟨A1, hA1, hT⟩; clear E a; intro a E
              have S := S.call1 (sel_cons (by first | exact pk1 | exact pk2 | exact pk3 | exact pk4 | exact pk5 | exact pk6 | exact pk7 | exact pk8 | exact pk9) (sel_nil _)) hT
              rw [hlaw] at hA1
              refine wpList_nil ?_
              refine in_normal ?_
              refine joined_here ?_
              exact ⟨at', e', R1, A1, hat', hR1, hA1, S.only (Bs := [R1, A1, O]) (sel_cons (by first | exact pk1 | exact pk2 | exact pk3 | exact pk4 | exact pk5 | exact pk6 | exact pk7 | exact pk8 | exact pk9) (sel_cons (by first | exact pk1 | exact pk2 | exact pk3 | exact pk4 | exact pk5 | exact pk6 | exact pk7 | exact pk8 | exact pk9) (sel_cons (by first | exact pk1 | exact pk2 | exact pk3 | exact pk4 | exact pk5 | exact pk6 | exact pk7 | exact pk8 | exact pk9) (sel_nil _)))), E.keep (keep_cons rfl (keep_cons rfl (keep_cons rfl (keep_cons rfl (keep_cons rfl keep_nil)))))⟩
            · first | replace hb := n1 hb | replace hb := n2 hb | replace hb := n3 hb | replace hb := n4 hb | replace hb := n5 hb | replace hb := n6 hb | skip
              refine wp_skip ?_
              refine in_normal ?_
              refine joined_here ?_
              exact ⟨at', e', R1, A, hat', hR1, (by rcases hor with h | ⟨h, -⟩; rw [h]; exact hA; omega), S.only (Bs := [R1, A, O]) (sel_cons (by first | exact pk1 | exact pk2 | exact pk3 | exact pk4 | exact pk5 | exact pk6 | exact pk7 | exact pk8 | exact pk9) (sel_cons (by first | exact pk1 | exact pk2 | exact pk3 | exact pk4 | exact pk5 | exact pk6 | exact pk7 | exact pk8 | exact pk9) (sel_cons (by first | exact pk1 | exact pk2 | exact pk3 | exact pk4 | exact pk5 | exact pk6 | exact pk7 | exact pk8 | exact pk9) (sel_nil _)))), E.keep (keep_cons rfl (keep_cons rfl (keep_cons rfl (keep_cons rfl (keep_cons rfl keep_nil)))))⟩
    · clear S E a; intro a w J; obtain ⟨at', e', R1, A1, hat', hR1, hA1, S, E⟩ := J
      refine then_k hK ?_; clear hK; clear K
      refine region_list ?_
      refine list_pure E rfl rfl (by decide) (rn_move E rfl rfl) ?_; clear E a; intro a E
      refine list_pure E rfl rfl (by decide) (by first | exact rn_len E rfl rfl rfl | exact rn_len_str E rfl rfl rfl | exact rn_len_string E rfl rfl rfl) ?_; clear E a; intro a E
      refine list_pure E rfl rfl (by decide) (rn_move E rfl rfl) ?_; clear E a; intro a E
      refine list_call E rfl rfl (by decide) rfl Try.func21 rfl (by kernel_rfl) rfl (left_ret q _ R1 _ hR1 (S.hp.sel (sel_cons (by first | exact pk1 | exact pk2 | exact pk3 | exact pk4 | exact pk5 | exact pk6 | exact pk7 | exact pk8 | exact pk9) (sel_nil _)))) ?_
      rintro v105 w ⟨rfl, hT⟩; clear E a; intro a E
      have S := S.call1 (sel_cons (by first | exact pk1 | exact pk2 | exact pk3 | exact pk4 | exact pk5 | exact pk6 | exact pk7 | exact pk8 | exact pk9) (sel_nil _)) hT
      refine list_pure E rfl rfl (by decide) (rn_sub E rfl rfl rfl (left_sub hat' hb9)) ?_; clear E a; intro a E
      refine list_pure E rfl rfl (by decide) (rn_assign E rfl rfl) ?_; clear E a; intro a E
      refine wpList_nil ?_
      refine in_normal ?_
      refine then_k hK ?_; clear hK; clear K
      refine region_list ?_
      refine list_pure E rfl rfl (by decide) (rn_move E rfl rfl) ?_; clear E a; intro a E
      refine list_pure E rfl rfl (by decide) (rn_add E rfl rfl rfl (by first | exact wa_lit (y := 1) (by omega) | exact w_in (by omega) | exact w_inu (by omega) | exact rfl)) ?_; clear E a; intro a E
      refine list_pure E rfl rfl (by decide) (rn_assign E rfl rfl) ?_; clear E a; intro a E
      refine wpList_nil ?_
      refine then_normal ?_
      exact ⟨_, by omega, i + 1, at', e', R1, A1, by omega, rfl, hat', hR1, hA1, S.only (Bs := [R1, A1, O]) (sel_cons (by first | exact pk1 | exact pk2 | exact pk3 | exact pk4 | exact pk5 | exact pk6 | exact pk7 | exact pk8 | exact pk9) (sel_cons (by first | exact pk1 | exact pk2 | exact pk3 | exact pk4 | exact pk5 | exact pk6 | exact pk7 | exact pk8 | exact pk9) (sel_cons (by first | exact pk1 | exact pk2 | exact pk3 | exact pk4 | exact pk5 | exact pk6 | exact pk7 | exact pk8 | exact pk9) (sel_nil _)))), E.keep (keep_cons rfl (keep_cons rfl (keep_cons rfl (keep_cons rfl (keep_cons rfl (keep_cons rfl keep_nil))))))⟩
  · first | replace hb := n1 hb | replace hb := n2 hb | replace hb := n3 hb | replace hb := n4 hb | replace hb := n5 hb | replace hb := n6 hb | skip
    refine wp_exit ?_
    refine then_exit ?_; clear hK; clear K
    refine then_exit ?_
    refine in_exit ?_
    refine then_k hK ?_; clear hK; clear K
    refine wp_seq_k ?_; intro K hK
    refine region_list ?_
    refine list_pure E rfl rfl (by decide) (rn_move E rfl rfl) ?_; clear E a; intro a E
    refine list_call E rfl rfl (by decide) rfl Try.func12 rfl (by kernel_rfl) rfl (done_ok p _ A _ hA (S.hp.sel (sel_cons (by first | exact pk1 | exact pk2 | exact pk3 | exact pk4 | exact pk5 | exact pk6 | exact pk7 | exact pk8 | exact pk9) (sel_nil _))) (by simp only [List.length_take]; omega) rfl) ?_
    rintro v109 w ⟨g, rfl, hT⟩; clear E a; intro a E
    have S := S.call2 (sel_cons (by first | exact pk1 | exact pk2 | exact pk3 | exact pk4 | exact pk5 | exact pk6 | exact pk7 | exact pk8 | exact pk9) (sel_nil _)) hT
    refine list_pure E rfl rfl (by decide) (rn_move E rfl rfl) ?_; clear E a; intro a E
    refine list_pure E rfl rfl (by decide) (rn_extract E rfl rfl rfl) ?_; clear E a; intro a E
    refine list_pure E rfl rfl (by decide) (rn_extract E rfl rfl rfl) ?_; clear E a; intro a E
    refine list_pure E rfl rfl (by decide) (rn_assign E rfl rfl) ?_; clear E a; intro a E
    refine list_pure E rfl rfl (by decide) (rn_assign E rfl rfl) ?_; clear E a; intro a E
    refine wpList_nil ?_
    refine then_k hK ?_; clear hK; clear K
    refine wp_seq_k ?_; intro K hK
    refine region_mix0 S [(0, 0), (1, 0), (2, 0), (3, 0), (4, 0), (5, 0), (6, 0), (7, 0), (8, 0), (9, 0), (10, 0), (11, 0), (12, 0), (13, 0), (14, 0), (15, 0), (16, 0), (17, 0), (18, 0), (19, 0), (20, 0), (21, 0)] (by kernel_rfl) (by kernel_rfl) ?_
    clear S; intro w S
    refine mix_pure E rfl rfl rfl (by decide) (fun w h => rn_move E rfl rfl) ?_; clear E a; intro a E
    refine mix_pure E rfl rfl rfl (by decide) (fun w h => by first | exact rn_eql E rfl rfl rfl | exact rn_eql_ptr_nil E rfl rfl rfl rfl | exact rn_eql_bool E rfl rfl rfl rfl | exact rn_eql_string E rfl rfl rfl) ?_; clear E a; intro a E
    refine mix_pure E rfl rfl rfl (by decide) (fun w h => rn_move E rfl rfl) ?_; clear E a; intro a E
    refine guard_true E (t := 114) rfl (rfl) (fun hb114 => ?_)
    refine mix_guard_yes E rfl rfl rfl rfl rfl hb114 rfl (by decide) (fun w h => rn_move E rfl rfl) ?_; clear E a; intro a E
    refine mix_guard_yes E rfl rfl rfl rfl rfl hb114 rfl (by decide) (fun w h => rn_geq E rfl rfl rfl) ?_; clear E a; intro a E
    refine mix_pure E rfl rfl rfl (by decide) (fun w h => rn_pick_yes' E rfl rfl hb114 rfl) ?_; clear E a; intro a E
    refine mix_pure E rfl rfl rfl (by decide) (fun w h => rn_move E rfl rfl) ?_; clear E a; intro a E
    refine guard_true E (t := 118) rfl (decide_eq_true (by omega)) (fun hb118 => ?_)
    refine mix_guard_yes E rfl rfl rfl rfl rfl hb118 rfl (by decide) (fun w h => rn_move E rfl rfl) ?_; clear E a; intro a E
    refine mix_guard_yes E rfl rfl rfl rfl rfl hb118 rfl (by decide) (fun w h => rn_move E rfl rfl) ?_; clear E a; intro a E
    refine mix_guard_yes E rfl rfl rfl rfl rfl hb118 rfl (by decide) (fun w h => by first | exact rn_len E rfl rfl rfl | exact rn_len_str E rfl rfl rfl | exact rn_len_string E rfl rfl rfl) ?_; clear E a; intro a E
    refine mix_guard_yes E rfl rfl rfl rfl rfl hb118 rfl (by decide) (fun w h => rn_leq E rfl rfl rfl) ?_; clear E a; intro a E
    refine mix_pure E rfl rfl rfl (by decide) (fun w h => rn_pick_yes' E rfl rfl hb118 rfl) ?_; clear E a; intro a E
    refine mix_pure E rfl rfl rfl (by decide) (fun w h => rn_move E rfl rfl) ?_; clear E a; intro a E
    refine guard_true E (t := 124) rfl (decide_eq_true (by omega)) (fun hb124 => ?_)
    refine mix_guard_yes E rfl rfl rfl rfl rfl hb124 rfl (by decide) (fun w h => rn_move E rfl rfl) ?_; clear E a; intro a E
    refine mix_guard_yes E rfl rfl rfl rfl rfl hb124 rfl (by decide) (fun w h => rn_string E rfl rfl rfl rfl rfl (bs := b.take at_) (C := [(g, _)]) (rd_block rfl (by simp only [List.length_take]; omega) _) (h.at (by first | exact mm1 | exact mm2 | exact mm3 | exact mm4 | exact mm5 | exact mm6 | exact mm7 | exact mm8))) ?_; clear E a; intro a E
    refine mix_guard_yes E rfl rfl rfl rfl rfl hb124 rfl (by decide) (fun w h => rn_move E rfl rfl) ?_; clear E a; intro a E
    refine mix_guard_yes E rfl rfl rfl rfl rfl hb124 rfl (by decide) (fun w h => rn_move E rfl rfl) ?_; clear E a; intro a E
    refine mix_guard_yes E rfl rfl rfl rfl rfl hb124 rfl (by decide) (fun w h => rn_slice_h (s := 1) E rfl rfl rfl rfl rfl rfl (by omega)) ?_; clear E a; intro a E
    obtain ⟨ad2, c2, hs2, hR2⟩ := hOb.cut (lo := 0) (hi := at_) (by omega) (by omega) (by omega)
    rw [hs2] at E
    have hR2 : Rd O 1 (.slice ad2 (at_ - 0) c2) (b.take at_).length (byt (b.take at_)) := by simpa [byt_take, List.length_take, Nat.min_eq_left hat] using hR2
    refine mix_guard_yes E rfl rfl rfl rfl rfl hb124 rfl (by decide) (fun w h => rn_string E rfl rfl rfl rfl rfl (bs := b.take at_) hR2 (h.at (by first | exact mm1 | exact mm2 | exact mm3 | exact mm4 | exact mm5 | exact mm6 | exact mm7 | exact mm8))) ?_; clear E a; intro a E
    refine mix_guard_yes E rfl rfl rfl rfl rfl hb124 rfl (by decide) (fun w h => by first | exact rn_eql E rfl rfl rfl | exact rn_eql_ptr_nil E rfl rfl rfl rfl | exact rn_eql_bool E rfl rfl rfl rfl | exact rn_eql_string E rfl rfl rfl) ?_; clear E a; intro a E
    refine mix_pure E rfl rfl rfl (by decide) (fun w h => rn_pick_yes' E rfl rfl hb124 rfl) ?_; clear E a; intro a E
    refine mix_pure E rfl rfl rfl (by decide) (fun w h => rn_assign E rfl rfl) ?_; clear E a; intro a E
    refine mix_nil ?_
    refine then_k hK ?_; clear hK; clear K
    refine wp_ret ?_
    refine ret1 E rfl rfl ?_
    exact ⟨_, rfl, by simp, (S.only (Bs := [O]) (sel_cons (by first | exact pk1 | exact pk2 | exact pk3 | exact pk4 | exact pk5 | exact pk6 | exact pk7 | exact pk8 | exact pk9) (sel_nil _))).tr⟩
end Go.Proofs.Ytbnldjephphhhaa
