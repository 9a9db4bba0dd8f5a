/-
  Requests as frames: the document's.
-/
import Derived.Test.YtjhmjdgdgpgcdaaDoorFrameU
namespace Go.Sl
theorem byt_str (xs t : List UInt8) : byt (xs ++ t) = byt xs ++ byt t := byt_append xs t
end Go.Sl
namespace Go.Proofs.YtjhmjdgdgpgcdaaDoor
open Go.Sl
set_option maxRecDepth 10000

theorem dnumber_ret (v : Value) (bs : List UInt8) (C : Chunk) (n k : Nat) (hC : Buf C 5 1 v bs.length (byt bs)) (hl : bs.length ≤ 140737488353000) (hn : n < 9223372036854775808) (hk : k ≤ 8) (w0 : World) (H : Hp w0 [C]) :
    Ret Tryd.prog 48 #[v, .int .i64 n, .int .i64 k] w0 fun u w' => ∃ C', Buf C' 5 1 u (bs ++ formOf n k).length (byt (bs ++ formOf n k)) ∧ Trs w0 w' [C] [C'] := by
  have S := St.begin H
  refine enter3 22 Tryd.func48 rfl rfl (by decide) ?_; intro a E
  refine wp_seq_k ?_; intro K hK
  refine region_list ?_
  refine list_pure E rfl rfl (by decide) (rn_assign E rfl rfl) ?_; clear E a; intro a E
  refine wpList_nil ?_
  refine then_k hK ?_; clear hK; clear K
  refine wp_seq_k ?_; intro K hK
  refine wp_seq_k ?_; intro K hK
  refine region_list ?_
  refine list_pure E rfl rfl (by decide) (rn_assign E rfl rfl) ?_; clear E a; intro a E
  refine wpList_nil ?_
  refine then_k hK ?_; clear hK; clear K
  refine wp_block ?_
  refine wp_loop_ghost (fun (m : Nat) (a : Act) (w' : World) => ∃ (i : Nat) (v : Value) (C' : Chunk), m = k - i ∧ i ≤ k ∧ Buf C' 5 1 v (bs ++ formOf n i).length (byt (bs ++ formOf n i)) ∧ St w0 [C] w' [C'] ∧ Fr a 22 [(0, v), (1, .int .i64 (n / 256 ^ i : Nat)), (2, .int .i64 k), (7, .int .i64 i)]) (k - 0) ?_ ?_
  · exact ⟨0, v, C, rfl, by omega, by simpa [formOf] using hC, S, by rw [Nat.pow_zero, Nat.div_one]; exact E.keep (keep_cons rfl (keep_cons rfl (keep_cons rfl (keep_cons rfl keep_nil))))⟩
  clear E; clear a; (try clear S); rintro m a w ⟨i, v, C', rfl, hi, hC', S, E⟩
  refine wp_seq_k ?_; intro K hK
  refine wp_seq_k ?_; intro K hK
  refine region_list ?_
  refine list_pure E rfl rfl (by decide) (rn_move E rfl rfl) ?_; clear E a; intro a E
  refine list_pure E rfl rfl (by decide) (rn_move E rfl rfl) ?_; clear E a; intro a E
  refine list_pure E rfl rfl (by decide) (rn_lss E rfl rfl rfl) ?_; clear E a; intro a E
  refine wpList_nil ?_
  refine then_k hK ?_; clear hK; clear K
  refine if_bool E rfl (fun hb => ?_) (fun hb => ?_)
  · replace hb := Nrm.nrm hb
    refine wp_skip ?_
    refine then_k hK ?_; clear hK; clear K
    refine wp_seq_k ?_; intro K hK
    refine wp_block ?_
    refine wp_seq_k ?_; intro K hK
    have hfl : (bs ++ formOf n i).length = bs.length + i := by rw [List.length_append, formOf_length]
    have hdl : n / 256 ^ i ≤ n := Nat.div_le_self _ _
    have hq1 : [UInt8.ofNat (n / 256 ^ i % 256)].length = 1 := rfl
    refine region_list ?_
    refine list_pure E rfl rfl (by decide) (rn_move E rfl rfl) ?_; clear E a; intro a E
    refine list_pure E rfl rfl (by decide) (rn_move E rfl rfl) ?_; clear E a; intro a E
    refine list_pure E rfl rfl (by decide) (rn_rem E rfl rfl rfl (by decide) (by first | exact wr_lit (y := 256) | exact rfl)) ?_; clear E a; intro a E
    refine list_pure E rfl rfl (by decide) (rn_convert E rfl rfl rfl rfl (w8 _)) ?_; clear E a; intro a E
    refine list_wp rfl (wp_bslice (cells := [_]) E S rfl rfl (by decide) rfl rfl rfl rfl rfl (by decide) rfl ?_); clear E S a; intro a w b17 E S
    refine list_wp rfl (wp_append (by' := 1) E S rfl rfl (by decide) rfl rfl hC' (by repeat (first | exact pk1 | apply pick_tail)) ((buf_bytes b17 [UInt8.ofNat (n / 256 ^ i % 256)] 5 (by simp)).rd.src (S.stab.at (by repeat (first | exact mm1 | assumption | apply List.Mem.tail))) rfl) rfl rfl rfl rfl rfl rfl (by simp only [maxLen]; omega) (by omega) ?_); clear E S a; intro a w v18 C18 E S hB18
    refine list_pure E rfl rfl (by decide) (rn_assign E rfl rfl) ?_; clear E a; intro a E
    refine wpList_nil ?_
    refine then_k hK ?_; clear hK; clear K
    refine region_list ?_
    refine list_pure E rfl rfl (by decide) (rn_move E rfl rfl) ?_; clear E a; intro a E
    refine list_pure E rfl rfl (by decide) (rn_quo E rfl rfl rfl (by decide) (by first | exact wq_lit (y := 256) (by omega) | exact wq_litu (y := 256) (by omega) | exact rfl)) ?_; clear E a; intro a E
    rw [div_step] at E
    refine list_pure E rfl rfl (by decide) (rn_assign E rfl rfl) ?_; clear E a; intro a E
    refine wpList_nil ?_
    refine in_normal ?_
    refine then_k hK ?_; clear hK; clear K
    refine region_list ?_
    refine list_pure E rfl rfl (by decide) (rn_move E rfl rfl) ?_; clear E a; intro a E
    refine list_pure E rfl rfl (by decide) (rn_add E rfl rfl rfl (by first | exact wa_lit (y := 1) (by omega) | exact w_in (by omega) | exact w_inu (by omega) | exact rfl)) ?_; clear E a; intro a E
    refine list_pure E rfl rfl (by decide) (rn_assign E rfl rfl) ?_; clear E a; intro a E
    refine wpList_nil ?_
    refine then_normal ?_
    have hB : Buf C18 5 1 v18 (bs ++ formOf n (i + 1)).length (byt (bs ++ formOf n (i + 1))) := by
      rw [form_step, ← List.append_assoc, byt_append, List.length_append]; exact hB18
    exact ⟨_, by omega, i + 1, v18, C18, rfl, by omega, hB, S.del (A := [(b17, _)]) (by repeat (first | exact pk1 | apply pick_tail)), E.keep (keep_cons rfl (keep_cons rfl (keep_cons rfl (keep_cons rfl keep_nil))))⟩
  · replace hb := Nrm.nrm hb
    refine wp_exit ?_
    refine then_exit ?_; clear hK; clear K
    refine then_exit ?_
    refine in_exit ?_
    refine then_k hK ?_; clear hK; clear K
    refine wp_seq_k ?_; intro K hK
    refine region_list ?_
    refine list_pure E rfl rfl (by decide) (rn_move E rfl rfl) ?_; clear E a; intro a E
    refine list_pure E rfl rfl (by decide) (rn_assign E rfl rfl) ?_; clear E a; intro a E
    refine wpList_nil ?_
    refine then_k hK ?_; clear hK; clear K
    refine wp_ret ?_
    refine ret1 E rfl rfl ?_
    obtain rfl : i = k := by omega
    exact ⟨_, rfl, C', hC', S.tr⟩

theorem dtext_ret (v : Value) (bs : List UInt8) (C : Chunk) (t : List UInt8) (hC : Buf C 5 1 v bs.length (byt bs)) (hl : bs.length ≤ 5000) (ht : t.length ≤ 140737488350000) (w0 : World) (H : Hp w0 [C]) :
    Ret Tryd.prog 56 #[v, str t] w0 fun u w' => ∃ C', Buf C' 5 1 u (bs ++ txtB t).length (byt (bs ++ txtB t)) ∧ Trs w0 w' [C] [C'] := by
  have S := St.begin H
  refine enter2 12 Tryd.func56 rfl rfl (by decide) ?_; intro a E
  refine wp_seq_k ?_; intro K hK
  refine region_list ?_
  refine list_pure E rfl rfl (by decide) (rn_assign E rfl rfl) ?_; clear E a; intro a E
  refine wpList_nil ?_
  refine then_k hK ?_; clear hK; clear K
  refine wp_seq_k ?_; intro K hK
  refine region_list ?_
  refine list_pure E rfl rfl (by decide) (rn_move E rfl rfl) ?_; clear E a; intro a E
  refine list_pure E rfl rfl (by decide) (rn_move E rfl rfl) ?_; clear E a; intro a E
  refine list_pure E rfl rfl (by decide) (by first | exact rn_len E rfl rfl rfl | exact rn_len_str E rfl rfl rfl | exact rn_len_string E rfl rfl rfl) ?_; clear E a; intro a E
  refine list_call E rfl rfl (by decide) rfl Tryd.func48 rfl (by kernel_rfl) rfl (dnumber_ret v bs C t.length 2 hC (by omega) (by omega) (by omega) _ (S.hp.sel (sel_cons (by repeat (first | exact pk1 | apply pick_tail)) (sel_nil _)))) ?_
  rintro v8 w ⟨C1, hC1, hT⟩; clear E a; intro a E
  have S := S.call1 (sel_cons (by repeat (first | exact pk1 | apply pick_tail)) (sel_nil _)) hT; have hfl : (bs ++ formOf t.length 2).length = bs.length + 2 := (by rw [List.length_append, formOf_length])
  refine list_pure E rfl rfl (by decide) (rn_assign E rfl rfl) ?_; clear E a; intro a E
  refine wpList_nil ?_
  refine then_k hK ?_; clear hK; clear K
  refine wp_seq_k ?_; intro K hK
  refine region_list ?_
  refine list_pure E rfl rfl (by decide) (rn_move E rfl rfl) ?_; clear E a; intro a E
  refine list_pure E rfl rfl (by decide) (rn_move E rfl rfl) ?_; clear E a; intro a E
  refine list_wp rfl (wp_append (by' := 1) E S rfl rfl (by decide) rfl rfl hC1 (by repeat (first | exact pk1 | apply pick_tail)) (src_str rfl t _) rfl rfl rfl rfl rfl rfl (by simp only [maxLen]; omega) (by omega) ?_); clear E S a; intro a w v11 C11 E S hB11
  refine list_pure E rfl rfl (by decide) (rn_assign E rfl rfl) ?_; clear E a; intro a E
  refine wpList_nil ?_
  refine then_k hK ?_; clear hK; clear K
  refine wp_ret ?_
  refine ret1 E rfl rfl ?_
  exact ⟨_, rfl, C11, by rw [txtB, ← List.append_assoc, byt_append, List.length_append]; exact hB11, S.tr⟩

theorem askbody_ret (r : Rq) (O : Chunk) (v : Value) (hO : Rd O 1 v r.data.length (byt r.data)) (hm : r.may) (w0 : World) (H : Hp w0 [O]) :
    Ret Tryd.prog 30 #[rqagg r v] w0 fun u w' => ∃ C, Buf C 5 1 u (rqB r).length (byt (rqB r)) ∧ Trs w0 w' [O] [C, O] := by
  have S := (St.begin H).addNil
  have hsm := rqB_small hm
  obtain ⟨m1, m2, m3, m4, m5, m6, m7, m8, m9, m10, m11, m12, m13, m14, m15⟩ := hm
  obtain ⟨sn, hsn⟩ : ∃ n : Nat, r.ses = n := ⟨r.ses.toNat, by omega⟩
  obtain ⟨idn, hidn⟩ : ∃ n : Nat, r.id = n := ⟨r.id.toNat, by omega⟩
  obtain ⟨vn, hvn⟩ : ∃ n : Nat, r.verb = n := ⟨r.verb.toNat, by omega⟩
  obtain ⟨an, han⟩ : ∃ n : Nat, r.at_ = n := ⟨r.at_.toNat, by omega⟩
  obtain ⟨mn, hmn⟩ : ∃ n : Nat, r.many = n := ⟨r.many.toNat, by omega⟩
  have hO0 := hO
  obtain ⟨ad, c, rfl⟩ := hO.slice
  have hB : rqB r = [] ++ formOf sn 1 ++ formOf idn 4 ++ formOf vn 1 ++ txtB r.name ++ txtB r.item ++ txtB r.other ++ txtB r.path ++ formOf an 6 ++ formOf mn 6 ++ formOf r.data.length 2 ++ r.data := by
    rw [rqB, hsn, hidn, hvn, han, hmn]; simp [Rq.strs]
  refine enter1 48 Tryd.func30 rfl rfl (by decide) ?_; intro a E
  refine wp_seq_k ?_; intro K hK
  refine region_list ?_
  refine list_wp rfl (wp_box E S rfl rfl (by decide) rfl rfl ?_); clear E S a; intro a w b1 E S
  refine list_pure E rfl rfl (by decide) (rn_assign E rfl rfl) ?_; clear E a; intro a E
  refine wpList_nil ?_
  refine then_k hK ?_; clear hK; clear K
  refine wp_seq_k ?_; intro K hK
  refine region_list ?_
  refine list_pure E rfl rfl (by decide) (by first | exact rn_fieldAddr0 (q := 0) E rfl rfl rfl | exact rn_fieldAddr (q := 0) E rfl rfl rfl) ?_; clear E a; intro a E
  refine list_pure E rfl rfl (by decide) (by first | exact rn_load E rfl rfl rfl (S.get (by repeat (first | exact pk1 | apply pick_tail))) rfl | exact rn_loadc E rfl rfl rfl (by assumption)) ?_; clear E a; intro a E
  rw [hsn] at E
  refine list_call E rfl rfl (by decide) rfl Tryd.func48 rfl (by kernel_rfl) rfl (dnumber_ret _ [] [] sn 1 (Buf.nil _ _) (by simp) (by omega) (by omega) _ (S.hp.sel (sel_cons (by repeat (first | exact pk1 | apply pick_tail)) (sel_nil _)))) ?_
  rintro v6 w ⟨C1, hC1, hT⟩; clear E a; intro a E
  have S := S.call1 (sel_cons (by repeat (first | exact pk1 | apply pick_tail)) (sel_nil _)) hT
  refine list_pure E rfl rfl (by decide) (rn_assign E rfl rfl) ?_; clear E a; intro a E
  refine wpList_nil ?_
  refine then_k hK ?_; clear hK; clear K
  refine wp_seq_k ?_; intro K hK
  refine region_list ?_
  refine list_pure E rfl rfl (by decide) (rn_move E rfl rfl) ?_; clear E a; intro a E
  refine list_pure E rfl rfl (by decide) (by first | exact rn_fieldAddr0 (q := 1) E rfl rfl rfl | exact rn_fieldAddr (q := 1) E rfl rfl rfl) ?_; clear E a; intro a E
  refine list_pure E rfl rfl (by decide) (by first | exact rn_load E rfl rfl rfl (S.get (by repeat (first | exact pk1 | apply pick_tail))) rfl | exact rn_loadc E rfl rfl rfl (by assumption)) ?_; clear E a; intro a E
  rw [hidn] at E
  refine list_call E rfl rfl (by decide) rfl Tryd.func48 rfl (by kernel_rfl) rfl (dnumber_ret _ _ C1 idn 4 hC1 (by simp only [List.length_append, formOf_length, List.length_nil]; omega) (by omega) (by omega) _ (S.hp.sel (sel_cons (by repeat (first | exact pk1 | apply pick_tail)) (sel_nil _)))) ?_
  rintro v10 w ⟨C2, hC2, hT⟩; clear E a; intro a E
  have S := S.call1 (sel_cons (by repeat (first | exact pk1 | apply pick_tail)) (sel_nil _)) hT
  refine list_pure E rfl rfl (by decide) (rn_assign E rfl rfl) ?_; clear E a; intro a E
  refine wpList_nil ?_
  refine then_k hK ?_; clear hK; clear K
  refine wp_seq_k ?_; intro K hK
  refine region_list ?_
  refine list_pure E rfl rfl (by decide) (rn_move E rfl rfl) ?_; clear E a; intro a E
  refine list_pure E rfl rfl (by decide) (by first | exact rn_fieldAddr0 (q := 2) E rfl rfl rfl | exact rn_fieldAddr (q := 2) E rfl rfl rfl) ?_; clear E a; intro a E
  refine list_pure E rfl rfl (by decide) (by first | exact rn_load E rfl rfl rfl (S.get (by repeat (first | exact pk1 | apply pick_tail))) rfl | exact rn_loadc E rfl rfl rfl (by assumption)) ?_; clear E a; intro a E
  rw [hvn] at E
  refine list_call E rfl rfl (by decide) rfl Tryd.func48 rfl (by kernel_rfl) rfl (dnumber_ret _ _ C2 vn 1 hC2 (by simp only [List.length_append, formOf_length, List.length_nil]; omega) (by omega) (by omega) _ (S.hp.sel (sel_cons (by repeat (first | exact pk1 | apply pick_tail)) (sel_nil _)))) ?_
  rintro v14 w ⟨C3, hC3, hT⟩; clear E a; intro a E
  have S := S.call1 (sel_cons (by repeat (first | exact pk1 | apply pick_tail)) (sel_nil _)) hT
  refine list_pure E rfl rfl (by decide) (rn_assign E rfl rfl) ?_; clear E a; intro a E
  refine wpList_nil ?_
  refine then_k hK ?_; clear hK; clear K
  refine wp_seq_k ?_; intro K hK
  refine region_list ?_
  refine list_pure E rfl rfl (by decide) (rn_move E rfl rfl) ?_; clear E a; intro a E
  refine list_pure E rfl rfl (by decide) (by first | exact rn_fieldAddr0 (q := 3) E rfl rfl rfl | exact rn_fieldAddr (q := 3) E rfl rfl rfl) ?_; clear E a; intro a E
  refine list_pure E rfl rfl (by decide) (by first | exact rn_load E rfl rfl rfl (S.get (by repeat (first | exact pk1 | apply pick_tail))) rfl | exact rn_loadc E rfl rfl rfl (by assumption)) ?_; clear E a; intro a E
  refine list_call E rfl rfl (by decide) rfl Tryd.func56 rfl (by kernel_rfl) rfl (dtext_ret _ _ C3 r.name hC3 (by simp only [List.length_append, formOf_length, List.length_nil]; omega) (by omega) _ (S.hp.sel (sel_cons (by repeat (first | exact pk1 | apply pick_tail)) (sel_nil _)))) ?_
  rintro v18 w ⟨C4, hC4, hT⟩; clear E a; intro a E
  have S := S.call1 (sel_cons (by repeat (first | exact pk1 | apply pick_tail)) (sel_nil _)) hT
  refine list_pure E rfl rfl (by decide) (rn_assign E rfl rfl) ?_; clear E a; intro a E
  refine wpList_nil ?_
  refine then_k hK ?_; clear hK; clear K
  refine wp_seq_k ?_; intro K hK
  refine region_list ?_
  refine list_pure E rfl rfl (by decide) (rn_move E rfl rfl) ?_; clear E a; intro a E
  refine list_pure E rfl rfl (by decide) (by first | exact rn_fieldAddr0 (q := 4) E rfl rfl rfl | exact rn_fieldAddr (q := 4) E rfl rfl rfl) ?_; clear E a; intro a E
  refine list_pure E rfl rfl (by decide) (by first | exact rn_load E rfl rfl rfl (S.get (by repeat (first | exact pk1 | apply pick_tail))) rfl | exact rn_loadc E rfl rfl rfl (by assumption)) ?_; clear E a; intro a E
  refine list_call E rfl rfl (by decide) rfl Tryd.func56 rfl (by kernel_rfl) rfl (dtext_ret _ _ C4 r.item hC4 (by simp only [List.length_append, formOf_length, List.length_nil, txtB_length]; omega) (by omega) _ (S.hp.sel (sel_cons (by repeat (first | exact pk1 | apply pick_tail)) (sel_nil _)))) ?_
  rintro v22 w ⟨C5, hC5, hT⟩; clear E a; intro a E
  have S := S.call1 (sel_cons (by repeat (first | exact pk1 | apply pick_tail)) (sel_nil _)) hT
  refine list_pure E rfl rfl (by decide) (rn_assign E rfl rfl) ?_; clear E a; intro a E
  refine wpList_nil ?_
  refine then_k hK ?_; clear hK; clear K
  refine wp_seq_k ?_; intro K hK
  replace E := E.keep (e' := [(1, _), (2, _), (3, _)]) (keep_cons rfl (keep_cons rfl (keep_cons rfl (keep_nil))))
  refine region_list ?_
  refine list_pure E rfl rfl (by decide) (rn_move E rfl rfl) ?_; clear E a; intro a E
  refine list_pure E rfl rfl (by decide) (by first | exact rn_fieldAddr0 (q := 5) E rfl rfl rfl | exact rn_fieldAddr (q := 5) E rfl rfl rfl) ?_; clear E a; intro a E
  refine list_pure E rfl rfl (by decide) (by first | exact rn_load E rfl rfl rfl (S.get (by repeat (first | exact pk1 | apply pick_tail))) rfl | exact rn_loadc E rfl rfl rfl (by assumption)) ?_; clear E a; intro a E
  refine list_call E rfl rfl (by decide) rfl Tryd.func56 rfl (by kernel_rfl) rfl (dtext_ret _ _ C5 r.other hC5 (by simp only [List.length_append, formOf_length, List.length_nil, txtB_length]; omega) (by omega) _ (S.hp.sel (sel_cons (by repeat (first | exact pk1 | apply pick_tail)) (sel_nil _)))) ?_
  rintro v26 w ⟨C6, hC6, hT⟩; clear E a; intro a E
  have S := S.call1 (sel_cons (by repeat (first | exact pk1 | apply pick_tail)) (sel_nil _)) hT
  refine list_pure E rfl rfl (by decide) (rn_assign E rfl rfl) ?_; clear E a; intro a E
  refine wpList_nil ?_
  refine then_k hK ?_; clear hK; clear K
  refine wp_seq_k ?_; intro K hK
  refine region_list ?_
  refine list_pure E rfl rfl (by decide) (rn_move E rfl rfl) ?_; clear E a; intro a E
  refine list_pure E rfl rfl (by decide) (by first | exact rn_fieldAddr0 (q := 6) E rfl rfl rfl | exact rn_fieldAddr (q := 6) E rfl rfl rfl) ?_; clear E a; intro a E
  refine list_pure E rfl rfl (by decide) (by first | exact rn_load E rfl rfl rfl (S.get (by repeat (first | exact pk1 | apply pick_tail))) rfl | exact rn_loadc E rfl rfl rfl (by assumption)) ?_; clear E a; intro a E
  refine list_call E rfl rfl (by decide) rfl Tryd.func56 rfl (by kernel_rfl) rfl (dtext_ret _ _ C6 r.path hC6 (by simp only [List.length_append, formOf_length, List.length_nil, txtB_length]; omega) (by omega) _ (S.hp.sel (sel_cons (by repeat (first | exact pk1 | apply pick_tail)) (sel_nil _)))) ?_
  rintro v30 w ⟨C7, hC7, hT⟩; clear E a; intro a E
  have S := S.call1 (sel_cons (by repeat (first | exact pk1 | apply pick_tail)) (sel_nil _)) hT
  refine list_pure E rfl rfl (by decide) (rn_assign E rfl rfl) ?_; clear E a; intro a E
  refine wpList_nil ?_
  refine then_k hK ?_; clear hK; clear K
  refine wp_seq_k ?_; intro K hK
  refine region_list ?_
  refine list_pure E rfl rfl (by decide) (rn_move E rfl rfl) ?_; clear E a; intro a E
  refine list_pure E rfl rfl (by decide) (by first | exact rn_fieldAddr0 (q := 7) E rfl rfl rfl | exact rn_fieldAddr (q := 7) E rfl rfl rfl) ?_; clear E a; intro a E
  refine list_pure E rfl rfl (by decide) (by first | exact rn_load E rfl rfl rfl (S.get (by repeat (first | exact pk1 | apply pick_tail))) rfl | exact rn_loadc E rfl rfl rfl (by assumption)) ?_; clear E a; intro a E
  rw [han] at E
  refine list_call E rfl rfl (by decide) rfl Tryd.func48 rfl (by kernel_rfl) rfl (dnumber_ret _ _ C7 an 6 hC7 (by simp only [List.length_append, formOf_length, List.length_nil, txtB_length]; omega) (by omega) (by omega) _ (S.hp.sel (sel_cons (by repeat (first | exact pk1 | apply pick_tail)) (sel_nil _)))) ?_
  rintro v34 w ⟨C8, hC8, hT⟩; clear E a; intro a E
  have S := S.call1 (sel_cons (by repeat (first | exact pk1 | apply pick_tail)) (sel_nil _)) hT
  refine list_pure E rfl rfl (by decide) (rn_assign E rfl rfl) ?_; clear E a; intro a E
  refine wpList_nil ?_
  refine then_k hK ?_; clear hK; clear K
  refine wp_seq_k ?_; intro K hK
  refine region_list ?_
  refine list_pure E rfl rfl (by decide) (rn_move E rfl rfl) ?_; clear E a; intro a E
  refine list_pure E rfl rfl (by decide) (by first | exact rn_fieldAddr0 (q := 8) E rfl rfl rfl | exact rn_fieldAddr (q := 8) E rfl rfl rfl) ?_; clear E a; intro a E
  refine list_pure E rfl rfl (by decide) (by first | exact rn_load E rfl rfl rfl (S.get (by repeat (first | exact pk1 | apply pick_tail))) rfl | exact rn_loadc E rfl rfl rfl (by assumption)) ?_; clear E a; intro a E
  rw [hmn] at E
  refine list_call E rfl rfl (by decide) rfl Tryd.func48 rfl (by kernel_rfl) rfl (dnumber_ret _ _ C8 mn 6 hC8 (by simp only [List.length_append, formOf_length, List.length_nil, txtB_length]; omega) (by omega) (by omega) _ (S.hp.sel (sel_cons (by repeat (first | exact pk1 | apply pick_tail)) (sel_nil _)))) ?_
  rintro v38 w ⟨C9, hC9, hT⟩; clear E a; intro a E
  have S := S.call1 (sel_cons (by repeat (first | exact pk1 | apply pick_tail)) (sel_nil _)) hT
  refine list_pure E rfl rfl (by decide) (rn_assign E rfl rfl) ?_; clear E a; intro a E
  refine wpList_nil ?_
  refine then_k hK ?_; clear hK; clear K
  refine wp_seq_k ?_; intro K hK
  refine region_list ?_
  refine list_pure E rfl rfl (by decide) (rn_move E rfl rfl) ?_; clear E a; intro a E
  refine list_pure E rfl rfl (by decide) (by first | exact rn_fieldAddr0 (q := 9) E rfl rfl rfl | exact rn_fieldAddr (q := 9) E rfl rfl rfl) ?_; clear E a; intro a E
  refine list_pure E rfl rfl (by decide) (by first | exact rn_load E rfl rfl rfl (S.get (by repeat (first | exact pk1 | apply pick_tail))) rfl | exact rn_loadc E rfl rfl rfl (by assumption)) ?_; clear E a; intro a E
  refine list_pure E rfl rfl (by decide) (by first | exact rn_len E rfl rfl rfl | exact rn_len_str E rfl rfl rfl | exact rn_len_string E rfl rfl rfl) ?_; clear E a; intro a E
  refine list_call E rfl rfl (by decide) rfl Tryd.func48 rfl (by kernel_rfl) rfl (dnumber_ret _ _ C9 r.data.length 2 hC9 (by simp only [List.length_append, formOf_length, List.length_nil, txtB_length]; omega) (by omega) (by omega) _ (S.hp.sel (sel_cons (by repeat (first | exact pk1 | apply pick_tail)) (sel_nil _)))) ?_
  rintro v43 w ⟨C10, hC10, hT⟩; clear E a; intro a E
  have S := S.call1 (sel_cons (by repeat (first | exact pk1 | apply pick_tail)) (sel_nil _)) hT; obtain ⟨y, hy⟩ : ∃ y, y = [] ++ formOf sn 1 ++ formOf idn 4 ++ formOf vn 1 ++ txtB r.name ++ txtB r.item ++ txtB r.other ++ txtB r.path ++ formOf an 6 ++ formOf mn 6 ++ formOf r.data.length 2 := ⟨_, rfl⟩; rw [← hy] at hC10 hB; have hyl : y.length ≤ 3036 := (by rw [hB, List.length_append] at hsm; omega)
  refine list_pure E rfl rfl (by decide) (rn_assign E rfl rfl) ?_; clear E a; intro a E
  refine wpList_nil ?_
  refine then_k hK ?_; clear hK; clear K
  refine wp_seq_k ?_; intro K hK
  replace E := E.keep (e' := [(1, _), (2, _), (3, _)]) (keep_cons rfl (keep_cons rfl (keep_cons rfl (keep_nil))))
  refine region_list ?_
  refine list_pure E rfl rfl (by decide) (rn_move E rfl rfl) ?_; clear E a; intro a E
  refine list_pure E rfl rfl (by decide) (by first | exact rn_fieldAddr0 (q := 9) E rfl rfl rfl | exact rn_fieldAddr (q := 9) E rfl rfl rfl) ?_; clear E a; intro a E
  refine list_pure E rfl rfl (by decide) (by first | exact rn_load E rfl rfl rfl (S.get (by repeat (first | exact pk1 | apply pick_tail))) rfl | exact rn_loadc E rfl rfl rfl (by assumption)) ?_; clear E a; intro a E
  refine list_wp rfl (wp_append (by' := 1) E S rfl rfl (by decide) rfl rfl hC10 (by repeat (first | exact pk1 | apply pick_tail)) (hO0.src (S.stab.at (by repeat (first | exact mm1 | assumption | apply List.Mem.tail))) rfl) rfl rfl rfl rfl rfl rfl (by simp only [maxLen]; omega) (by omega) ?_); clear E S a; intro a w v47 C47 E S hB47
  refine list_pure E rfl rfl (by decide) (rn_assign E rfl rfl) ?_; clear E a; intro a E
  refine wpList_nil ?_
  refine then_k hK ?_; clear hK; clear K
  refine wp_ret ?_
  refine ret1 E rfl rfl ?_
  exact ⟨_, rfl, C47, by rw [hB, byt_append, List.length_append]; exact hB47, (S.only (Bs := [C47, O]) (sel_cons (by repeat (first | exact pk1 | apply pick_tail)) (sel_cons (by repeat (first | exact pk1 | apply pick_tail)) (sel_nil _)))).tr⟩

theorem dframed_ret (k : Nat) (hk : k < 256) (O : Chunk) (v : Value) (b : List UInt8) (hO : Rd O 1 v b.length (byt b)) (hbl : b.length ≤ 140737488351500) (As : List Chunk) (hOA : O ∈ As) (hG0 : Tab As 0 sha0.l) (hG1 : Tab As 1 shaK) (w0 : World) (H : Hp w0 As) :
    Ret Tryd.prog 23 #[.int .i64 k, v] w0 fun u w' => ∃ C, Buf C 5 1 u (frm (UInt8.ofNat k :: b)).length (byt (frm (UInt8.ofNat k :: b))) ∧ Trs w0 w' As (C :: As) := by
  have S := St.begin H
  obtain ⟨x, hx⟩ : ∃ x, x = UInt8.ofNat k :: b := ⟨_, rfl⟩
  have hxl : x.length = b.length + 1 := by rw [hx]; rfl
  have hok := (shaF_ok x).a
  rw [← hx]
  refine enter2 44 Tryd.func23 rfl rfl (by decide) ?_; intro a E
  refine wp_seq_k ?_; intro K hK
  refine region_list ?_
  refine list_pure E rfl rfl (by decide) (rn_assign E rfl rfl) ?_; clear E a; intro a E
  refine wpList_nil ?_
  refine then_k hK ?_; clear hK; clear K
  refine wp_seq_k ?_; intro K hK
  refine region_list ?_
  refine list_pure E rfl rfl (by decide) (rn_move E rfl rfl) ?_; clear E a; intro a E
  refine list_pure E rfl rfl (by decide) (rn_convert E rfl rfl rfl rfl (w8 _)) ?_; clear E a; intro a E
  refine list_wp rfl (wp_bslice (cells := [_]) E S rfl rfl (by decide) rfl rfl rfl rfl rfl (by decide) rfl ?_); clear E S a; intro a w b13 E S
  refine list_pure E rfl rfl (by decide) (rn_assign E rfl rfl) ?_; clear E a; intro a E
  refine wpList_nil ?_
  have hB1 := buf_bytes b13 [UInt8.ofNat k] 5 (by simp)
  have hq1 : [UInt8.ofNat k].length = 1 := rfl
  refine then_k hK ?_; clear hK; clear K
  refine wp_seq_k ?_; intro K hK
  refine region_list ?_
  refine list_pure E rfl rfl (by decide) (rn_move E rfl rfl) ?_; clear E a; intro a E
  refine list_pure E rfl rfl (by decide) (rn_move E rfl rfl) ?_; clear E a; intro a E
  refine list_wp rfl (wp_append (by' := 1) E S rfl rfl (by decide) rfl rfl hB1 (by repeat (first | exact pk1 | apply pick_tail)) (hO.src (S.stab.at (by repeat (first | exact mm1 | assumption | apply List.Mem.tail))) rfl) rfl rfl rfl rfl rfl rfl (by simp only [maxLen]; omega) (by omega) ?_); clear E S a; intro a w v16 C16 E S hB16
  have hX : Buf C16 5 1 v16 x.length (byt x) := by rw [hxl, Nat.add_comm, hx]; exact hB16
  obtain ⟨adx, cx, rfl⟩ := hX.slice
  refine list_pure E rfl rfl (by decide) (rn_assign E rfl rfl) ?_; clear E a; intro a E
  refine wpList_nil ?_
  refine then_k hK ?_; clear hK; clear K
  refine wp_seq_k ?_; intro K hK
  refine region_list ?_
  refine list_pure E rfl rfl (by decide) (rn_move E rfl rfl) ?_; clear E a; intro a E
  refine list_call E rfl rfl (by decide) rfl Tryd.func47 rfl (by kernel_rfl) rfl (dsumof2_ret C16 _ x hX.rd (by omega) _ (show C16 ∈ _ from (by repeat (first | exact mm1 | assumption | apply List.Mem.tail))) hG0.tail hG1.tail _ S.hp) ?_
  rintro v19 w ⟨rfl, hT⟩; clear E a; intro a E
  have S := S.all hT
  refine list_pure E rfl rfl (by decide) (rn_move E rfl rfl) ?_; clear E a; intro a E
  refine list_pure E rfl rfl (by decide) (rn_extract E rfl rfl rfl) ?_; clear E a; intro a E
  refine list_pure E rfl rfl (by decide) (rn_extract E rfl rfl rfl) ?_; clear E a; intro a E
  refine list_wp rfl (wp_alloc E S rfl rfl (by decide) rfl rfl rfl ?_); clear E S a; intro a w b6 E S
  refine list_wp rfl (wp_storeN E S rfl rfl rfl rfl (by simp [Value.oneCell']) rfl (by repeat (first | exact pk1 | apply pick_tail)) (by simp) ?_); clear E S a; intro a w E S; simp only [List.take_succ_cons, List.take_zero, List.drop_succ_cons, List.drop_zero, List.cons_append, List.nil_append, List.append_nil, List.length_cons, List.length_nil, Nat.zero_add, Nat.add_zero] at S
  refine list_pure E rfl rfl (by decide) (rn_assign E rfl rfl) ?_; clear E a; intro a E
  refine wpList_nil ?_
  refine then_k hK ?_; clear hK; clear K
  refine wp_seq_k ?_; intro K hK
  refine region_list ?_
  refine list_pure E rfl rfl (by decide) (rn_move E rfl rfl) ?_; clear E a; intro a E
  refine list_pure E rfl rfl (by decide) (by first | exact rn_len E rfl rfl rfl | exact rn_len_str E rfl rfl rfl | exact rn_len_string E rfl rfl rfl) ?_; clear E a; intro a E
  refine list_pure E rfl rfl (by decide) (rn_add E rfl rfl rfl (by first | exact wa_lit (y := 8) (by omega) | exact w_in (by omega) | exact w_inu (by omega) | exact rfl)) ?_; clear E a; intro a E
  refine list_call E rfl rfl (by decide) rfl Tryd.func48 rfl (by kernel_rfl) rfl (dnumber_ret _ [] [] (x.length + 8) 4 (Buf.nil _ _) (by simp) (by omega) (by omega) _ (S.addNil.hp.sel (sel_cons (by repeat (first | exact pk1 | apply pick_tail)) (sel_nil _)))) ?_
  rintro v25 w ⟨C8, hC8, hT⟩; clear E a; intro a E
  have S := S.addNil.call1 (sel_cons pk1 (sel_nil _)) hT; rw [List.nil_append] at hC8; have hf4 : (formOf (x.length + 8) 4).length = 4 := formOf_length _ _
  refine list_pure E rfl rfl (by decide) (rn_assign E rfl rfl) ?_; clear E a; intro a E
  refine wpList_nil ?_
  refine then_k hK ?_; clear hK; clear K
  refine wp_seq_k ?_; intro K hK
  refine region_list ?_
  refine list_pure E rfl rfl (by decide) (rn_move E rfl rfl) ?_; clear E a; intro a E
  refine list_pure E rfl rfl (by decide) (rn_move E rfl rfl) ?_; clear E a; intro a E
  refine list_wp rfl (wp_append (by' := 1) E S rfl rfl (by decide) rfl rfl hC8 (by repeat (first | exact pk1 | apply pick_tail)) (hX.rd.src (S.stab.at (by repeat (first | exact mm1 | assumption | apply List.Mem.tail))) rfl) rfl rfl rfl rfl rfl rfl (by simp only [maxLen]; omega) (by omega) ?_); clear E S a; intro a w v28 C28 E S hB28
  have hC9 : Buf C28 5 1 v28 (formOf (x.length + 8) 4 ++ x).length (byt (formOf (x.length + 8) 4 ++ x)) := by rw [byt_append, List.length_append]; exact hB28
  refine list_pure E rfl rfl (by decide) (rn_assign E rfl rfl) ?_; clear E a; intro a E
  refine wpList_nil ?_
  refine then_k hK ?_; clear hK; clear K
  refine wp_seq_k ?_; intro K hK
  replace E := E.keep (e' := [(4, _), (6, _), (8, _)]) (keep_cons rfl (keep_cons rfl (keep_cons rfl (keep_nil))))
  refine region_list ?_
  refine list_pure E rfl rfl (by decide) (by first | exact rn_fieldAddr0 (q := 0) E rfl rfl rfl | exact rn_fieldAddr (q := 0) E rfl rfl rfl) ?_; clear E a; intro a E
  refine list_pure E rfl rfl (by decide) (by first | exact rn_load E rfl rfl rfl (S.get (by repeat (first | exact pk1 | apply pick_tail))) rfl | exact rn_loadc E rfl rfl rfl (by assumption)) ?_; clear E a; intro a E
  refine list_pure E rfl rfl (by decide) (rn_assign E rfl rfl) ?_; clear E a; intro a E
  refine wpList_nil ?_
  refine then_k hK ?_; clear hK; clear K
  refine wp_seq_k ?_; intro K hK
  refine wp_seq_k ?_; intro K hK
  refine region_list ?_
  refine list_pure E rfl rfl (by decide) (rn_assign E rfl rfl) ?_; clear E a; intro a E
  refine wpList_nil ?_
  refine then_k hK ?_; clear hK; clear K
  refine wp_block ?_
  refine wp_loop_ghost (fun (m : Nat) (a : Act) (w' : World) => ∃ (i : Nat) (v : Value) (C : Chunk), m = 8 - i ∧ i ≤ 8 ∧ Buf C 5 1 v (formOf (x.length + 8) 4 ++ x ++ formOf (shaF x).a i).length (byt (formOf (x.length + 8) 4 ++ x ++ formOf (shaF x).a i)) ∧ St w0 As w' (C :: As) ∧ Fr a 44 [(8, v), (9, .int .u64 ((shaF x).a / 256 ^ i : Nat)), (10, .int .i64 i)]) (8 - 0) ?_ ?_
  · exact ⟨0, v28, C28, rfl, by omega, by simpa [formOf] using hC9, (S.del (A := C16) (by repeat (first | exact pk1 | apply pick_tail))).del (A := [(b6, _)]) (by repeat (first | exact pk1 | apply pick_tail)), by rw [Nat.pow_zero, Nat.div_one]; exact E.keep (keep_cons rfl (keep_cons rfl (keep_cons rfl keep_nil)))⟩
  clear E; clear a; (try clear S); rintro m a w ⟨i, v, C, rfl, hi, hC, S, E⟩
  refine wp_seq_k ?_; intro K hK
  refine wp_seq_k ?_; intro K hK
  refine region_list ?_
  refine list_pure E rfl rfl (by decide) (rn_move E rfl rfl) ?_; clear E a; intro a E
  refine list_pure E rfl rfl (by decide) (rn_lss E rfl rfl rfl) ?_; clear E a; intro a E
  refine wpList_nil ?_
  refine then_k hK ?_; clear hK; clear K
  refine if_bool E rfl (fun hb => ?_) (fun hb => ?_)
  · replace hb := Nrm.nrm hb
    refine wp_skip ?_
    refine then_k hK ?_; clear hK; clear K
    refine wp_seq_k ?_; intro K hK
    refine wp_block ?_
    refine wp_seq_k ?_; intro K hK
    have hfl : (formOf (x.length + 8) 4 ++ x ++ formOf (shaF x).a i).length = 4 + x.length + i := by simp only [List.length_append, formOf_length]
    have hdl : (shaF x).a / 256 ^ i ≤ (shaF x).a := Nat.div_le_self _ _
    have hq1 : [UInt8.ofNat ((shaF x).a / 256 ^ i % 256)].length = 1 := rfl
    refine region_list ?_
    refine list_pure E rfl rfl (by decide) (rn_move E rfl rfl) ?_; clear E a; intro a E
    refine list_pure E rfl rfl (by decide) (rn_move E rfl rfl) ?_; clear E a; intro a E
    refine list_pure E rfl rfl (by decide) (rn_rem E rfl rfl rfl (by decide) (by first | exact wr_lit (y := 256) | exact rfl)) ?_; clear E a; intro a E
    refine list_pure E rfl rfl (by decide) (rn_convert E rfl rfl rfl rfl (w8 _)) ?_; clear E a; intro a E
    refine list_wp rfl (wp_bslice (cells := [_]) E S rfl rfl (by decide) rfl rfl rfl rfl rfl (by decide) rfl ?_); clear E S a; intro a w b39 E S
    refine list_wp rfl (wp_append (by' := 1) E S rfl rfl (by decide) rfl rfl hC (by repeat (first | exact pk1 | apply pick_tail)) ((buf_bytes b39 [UInt8.ofNat ((shaF x).a / 256 ^ i % 256)] 5 (by simp)).rd.src (S.stab.at (by repeat (first | exact mm1 | assumption | apply List.Mem.tail))) rfl) rfl rfl rfl rfl rfl rfl (by simp only [maxLen]; omega) (by omega) ?_); clear E S a; intro a w v40 C40 E S hB40
    refine list_pure E rfl rfl (by decide) (rn_assign E rfl rfl) ?_; clear E a; intro a E
    refine wpList_nil ?_
    refine then_k hK ?_; clear hK; clear K
    refine region_list ?_
    refine list_pure E rfl rfl (by decide) (rn_move E rfl rfl) ?_; clear E a; intro a E
    refine list_pure E rfl rfl (by decide) (rn_quo E rfl rfl rfl (by decide) (by first | exact wq_lit (y := 256) (by omega) | exact wq_litu (y := 256) (by omega) | exact rfl)) ?_; clear E a; intro a E
    rw [div_step] at E
    refine list_pure E rfl rfl (by decide) (rn_assign E rfl rfl) ?_; clear E a; intro a E
    refine wpList_nil ?_
    refine in_normal ?_
    refine then_k hK ?_; clear hK; clear K
    refine region_list ?_
    refine list_pure E rfl rfl (by decide) (rn_move E rfl rfl) ?_; clear E a; intro a E
    refine list_pure E rfl rfl (by decide) (rn_add E rfl rfl rfl (by first | exact wa_lit (y := 1) (by omega) | exact w_in (by omega) | exact w_inu (by omega) | exact rfl)) ?_; clear E a; intro a E
    refine list_pure E rfl rfl (by decide) (rn_assign E rfl rfl) ?_; clear E a; intro a E
    refine wpList_nil ?_
    refine then_normal ?_
    have hB : Buf C40 5 1 v40 (formOf (x.length + 8) 4 ++ x ++ formOf (shaF x).a (i + 1)).length (byt (formOf (x.length + 8) 4 ++ x ++ formOf (shaF x).a (i + 1))) := by
      rw [form_step (shaF x).a i, ← List.append_assoc (formOf (x.length + 8) 4 ++ x), byt_append, List.length_append]; exact hB40
    exact ⟨_, by omega, i + 1, v40, C40, rfl, by omega, hB, S.del (A := [(b39, _)]) (by repeat (first | exact pk1 | apply pick_tail)), E.keep (keep_cons rfl (keep_cons rfl (keep_cons rfl keep_nil)))⟩
  · replace hb := Nrm.nrm hb
    refine wp_exit ?_
    refine then_exit ?_; clear hK; clear K
    refine then_exit ?_
    refine in_exit ?_
    refine then_k hK ?_; clear hK; clear K
    refine wp_seq_k ?_; intro K hK
    refine region_list ?_
    refine list_pure E rfl rfl (by decide) (rn_move E rfl rfl) ?_; clear E a; intro a E
    refine list_pure E rfl rfl (by decide) (rn_assign E rfl rfl) ?_; clear E a; intro a E
    refine wpList_nil ?_
    refine then_k hK ?_; clear hK; clear K
    refine wp_ret ?_
    refine ret1 E rfl rfl ?_
    obtain rfl : i = 8 := by omega
    exact ⟨_, rfl, C, hC, S.tr⟩

theorem drqencode_ret (r : Rq) (O : Chunk) (v : Value) (hO : Rd O 1 v r.data.length (byt r.data)) (As : List Chunk) (hOA : O ∈ As) (hG0 : Tab As 0 sha0.l) (hG1 : Tab As 1 shaK) (w0 : World) (H : Hp w0 As) :
    Ret Tryd.prog 11 #[rqagg r v] w0 fun u w' => ∃ x C, u = .tuple #[x, .int .i64 (rqE r)] ∧ Buf C 5 1 x (rqO r).length (byt (rqO r)) ∧ Trs w0 w' As (C :: As) := by
  obtain ⟨Rs, hp⟩ := mem_perm hOA
  have S := (St.begin H).perm hp
  have hG0 := hG0.perm hp
  have hG1 := hG1.perm hp
  have hO0 := hO
  obtain ⟨ad, c, rfl⟩ := hO.slice
  refine enter1 12 Tryd.func11 rfl rfl (by decide) ?_; intro a E
  refine wp_seq_k ?_; intro K hK
  refine region_list ?_
  refine list_wp rfl (wp_box E S rfl rfl (by decide) rfl rfl ?_); clear E S a; intro a w b1 E S
  refine list_pure E rfl rfl (by decide) (rn_assign E rfl rfl) ?_; clear E a; intro a E
  refine list_pure E rfl rfl (by decide) (rn_assign E rfl rfl) ?_; clear E a; intro a E
  refine wpList_nil ?_
  refine then_k hK ?_; clear hK; clear K
  refine wp_seq_k ?_; intro K hK
  refine region_list ?_
  refine list_pure E rfl rfl (by decide) (rn_load_blk (vs := [_, _, _, _, _, _, _, _, _, _]) E rfl rfl rfl (S.get (by repeat (first | exact pk1 | apply pick_tail))) rfl rfl) ?_; clear E a; intro a E
  refine list_call E rfl rfl (by decide) rfl Tryd.func29 rfl (by kernel_rfl) rfl (dasks_ret r ad c _) ?_
  rintro v6 w ⟨rfl, hT⟩; clear E a; intro a E
  have S := S.quiet hT
  refine list_pure E rfl rfl (by decide) (rn_assign E rfl rfl) ?_; clear E a; intro a E
  refine wpList_nil ?_
  refine then_k hK ?_; clear hK; clear K
  refine wp_seq_k ?_; intro K hK
  refine wp_seq_k ?_; intro K hK
  refine region_list ?_
  refine list_pure E rfl rfl (by decide) (rn_move E rfl rfl) ?_; clear E a; intro a E
  refine list_pure E rfl rfl (by decide) (rn_not E rfl rfl) ?_; clear E a; intro a E
  refine wpList_nil ?_
  refine then_k hK ?_; clear hK; clear K
  refine if_bool E rfl (fun hb => ?_) (fun hb => ?_)
  · replace hb := Nrm.nrm hb
    have hno : ¬ r.may := (by simpa using hb)
    refine wp_seq_k ?_; intro K hK
    refine region_list ?_
    refine list_pure E rfl rfl (by decide) (rn_assign E rfl rfl) ?_; clear E a; intro a E
    refine list_pure E rfl rfl (by decide) (rn_assign E rfl rfl) ?_; clear E a; intro a E
    refine wpList_nil ?_
    refine then_k hK ?_; clear hK; clear K
    refine wp_ret ?_
    refine then_ret ?_; clear hK; clear K
    refine ret2 E rfl rfl rfl ?_
    exact ⟨_, rfl, _, [], by rw [rqE_no hno], by rw [rqO_no hno]; exact Buf.nil _ _, ((S.del (A := [(b1, _)]) (by repeat (first | exact pk1 | apply pick_tail))).perm hp.symm).addNil.tr⟩
  · replace hb := Nrm.nrm hb
    have hm : r.may := (by simpa using hb)
    refine wp_skip ?_
    refine then_k hK ?_; clear hK; clear K
    refine wp_seq_k ?_; intro K hK
    refine region_list ?_
    refine list_pure E rfl rfl (by decide) (rn_load_blk (vs := [_, _, _, _, _, _, _, _, _, _]) E rfl rfl rfl (S.get (by repeat (first | exact pk1 | apply pick_tail))) rfl rfl) ?_; clear E a; intro a E
    refine list_call E rfl rfl (by decide) rfl Tryd.func30 rfl (by kernel_rfl) rfl (askbody_ret r O _ hO0 hm _ (S.hp.sel (sel_cons (by repeat (first | exact pk1 | apply pick_tail)) (sel_nil _)))) ?_
    rintro v10 w ⟨C, hC, hT⟩; clear E a; intro a E
    have S := S.call2 (sel_cons (by repeat (first | exact pk1 | apply pick_tail)) (sel_nil _)) hT; have hsm := rqB_small hm
    refine list_call E rfl rfl (by decide) rfl Tryd.func23 rfl (by kernel_rfl) rfl (dframed_ret 1 (by omega) C _ (rqB r) hC.rd (by omega) _ (show C ∈ _ from (by repeat (first | exact mm1 | assumption | apply List.Mem.tail))) (hG0.sub (fun C hC => by rcases List.mem_cons.1 hC with rfl | hC <;> simp [hC])) (hG1.sub (fun C hC => by rcases List.mem_cons.1 hC with rfl | hC <;> simp [hC])) _ S.hp) ?_
    rintro v11 w ⟨D, hD, hT⟩; clear E a; intro a E
    have S := S.all hT
    refine list_pure E rfl rfl (by decide) (rn_assign E rfl rfl) ?_; clear E a; intro a E
    refine list_pure E rfl rfl (by decide) (rn_assign E rfl rfl) ?_; clear E a; intro a E
    refine wpList_nil ?_
    refine then_k hK ?_; clear hK; clear K
    refine wp_ret ?_
    refine ret2 E rfl rfl rfl ?_
    exact ⟨_, rfl, _, D, by rw [rqE_yes hm], by rw [rqO_yes hm]; exact hD, ((((S.del (A := C) (by repeat (first | exact pk1 | apply pick_tail))).del (A := [(b1, _)]) (by repeat (first | exact pk1 | apply pick_tail))).front2 (A := D) (by repeat (first | exact pk1 | apply pick_tail)) (B := O) (by repeat (first | exact pk1 | apply pick_tail))).perm (hp.symm.cons _)).tr⟩
end Go.Proofs.YtjhmjdgdgpgcdaaDoor
