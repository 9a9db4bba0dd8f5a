/-
  Replies as frames: the program's functions.
-/
import Derived.Test.YtjhmjdgdgpgcdaaDoorRepP
namespace Go.Sl
section
variable {w0 w w' : World} {X As Ls : List Chunk} {A A' D L : Chunk}
/-- A call that changes one chunk and reads another one, which may be shared. -/
theorem St.hpin (S : St w0 X w Ls) (p : Ls.Perm (A :: As)) (h : D ∈ As) : Hp w [A, D] := by
  obtain ⟨Rs, hp⟩ := mem_perm h
  exact (S.perm (p.trans (hp.cons _))).hp.sel (sel_cons pk1 (sel_cons pk1 (sel_nil _)))
theorem St.callin (S : St w0 X w Ls) (p : Ls.Perm (A :: As)) (h : D ∈ As) (t : Trs w w' [A, D] [A', D]) : St w0 X w' (A' :: As) := by
  obtain ⟨Rs, hp⟩ := mem_perm h
  exact ((S.perm (p.trans (hp.cons _))).call2 (sel_cons pk1 (sel_cons pk1 (sel_nil _))) t).perm (hp.symm.cons _)
theorem St.hpone (S : St w0 X w Ls) (h : L ∈ Ls) : Hp w [L] := by
  obtain ⟨Rs, hp⟩ := mem_perm h
  exact (S.perm hp).hp.sel (sel_cons pk1 (sel_nil _))
theorem St.callone (S : St w0 X w Ls) (h : L ∈ Ls) (t : Trs w w' [L] [L]) : St w0 X w' Ls := by
  obtain ⟨Rs, hp⟩ := mem_perm h
  exact ((S.perm hp).call1 (sel_cons pk1 (sel_nil _)) t).perm hp.symm
end
end Go.Sl
namespace Go.Proofs.YtjhmjdgdgpgcdaaDoor
open Go.Sl
set_option maxRecDepth 10000

theorem layrp_ret (p room : Nat) (bs : List UInt8) (A : Chunk) (As : List Chunk) (L O : Chunk) (r : Rp) (vl vd : Value) (hL : Rd L 1 vl r.list.length (sts r.list)) (hO : Rd O 1 vd r.data.length (byt r.data)) (hLA : L ∈ As) (hOA : O ∈ As) (hm : r.may) (w0 : World) (hA : WrC 114 p ⟨room, bs, 0⟩ A) (H : Hp w0 (A :: As)) (hr : room ≤ 140737488355328) (hl : bs.length + 64243 ≤ room) :
    Ret Tryd.prog 42 #[ptr p, rpagg r vl vd] w0 fun _ w' => ∃ A', WrC 114 p ⟨room, bs ++ rpB r, 0⟩ A' ∧ Trs w0 w' (A :: As) (A' :: As) := by
  have S := St.begin H
  have e1 := p1
  have e2 := p2
  have e4 := p4
  have e6 := p6
  have hsm := rpB_small hm
  obtain ⟨m1, m2, m3, m4, m5, m6, m7, m8, m9, m10, m11, m12⟩ := hm
  obtain ⟨sn, hsn⟩ : ∃ n : Nat, r.ses = n := ⟨r.ses.toNat, by omega⟩
  obtain ⟨idn, hidn⟩ : ∃ n : Nat, r.id = n := ⟨r.id.toNat, by omega⟩
  obtain ⟨vn, hvn⟩ : ∃ n : Nat, r.err = n := ⟨r.err.toNat, by omega⟩
  obtain ⟨an, han⟩ : ∃ n : Nat, r.num = n := ⟨r.num.toNat, by omega⟩
  have hO0 := hO
  have hL0 := hL
  obtain ⟨ad, c, rfl⟩ := hO.slice
  obtain ⟨adl, cl, rfl⟩ := hL.slice
  obtain ⟨pre, hpre⟩ : ∃ x, x = bs ++ formOf sn 1 ++ formOf idn 4 ++ formOf vn 2 ++ formOf an 6 ++ txtB r.text ++ formOf r.list.length 2 := ⟨_, rfl⟩
  have hprl : pre.length = bs.length + 17 + r.text.length := by rw [hpre]; simp only [List.length_append, formOf_length, txtB_length]; omega
  have hsl := texts_len r.list m11
  have hB : bs ++ rpB r = pre ++ r.list.flatMap txtB ++ (formOf r.data.length 2 ++ r.data) := by
    rw [hpre, rpB, hsn, hidn, hvn, han]; simp only [Int.toNat_natCast, List.append_assoc]
  refine enter2 51 Tryd.func42 rfl rfl (by decide) ?_; intro a E
  refine wp_seq_k ?_; intro K hK
  refine region_list ?_
  refine list_wp rfl (wp_box E S rfl rfl (by decide) rfl rfl ?_); clear E S a; intro a w b3 E S
  refine wpList_nil ?_
  refine then_k hK ?_; clear hK; clear K
  refine wp_seq_k ?_; intro K hK
  refine region_list ?_
  refine list_pure E rfl rfl (by decide) (rn_move E rfl rfl) ?_; clear E a; intro a E
  refine list_pure E rfl rfl (by decide) (by first | exact rn_fieldAddr0 (q := 0) E rfl rfl rfl | exact rn_fieldAddr (q := 0) E rfl rfl rfl) ?_; clear E a; intro a E
  refine list_pure E rfl rfl (by decide) (by first | exact rn_load E rfl rfl rfl (S.get (by repeat (first | exact pk1 | apply pick_tail))) rfl | exact rn_loadc E rfl rfl rfl (by assumption)) ?_; clear E a; intro a E
  rw [hsn] at E
  refine list_pure E rfl rfl (by decide) (by first | exact rn_convert E rfl rfl rfl rfl (by first | exact wu8 _ | exact w_nat (by omega) | exact w_natu (by omega) | exact w_in (by omega) | exact w_inu (by omega) | exact rfl) | exact rn_string E rfl rfl rfl rfl rfl (by assumption) (S.stab.at (by simp))) ?_; clear E a; intro a E
  refine list_call E rfl rfl (by decide) rfl Tryd.func50 rfl (by kernel_rfl) rfl (num_fit p room bs A _ hA sn 1 (S.hp.sel (sel_cons (by repeat (first | exact pk1 | apply pick_tail)) (sel_nil _))) hr (by omega) (by omega) (by omega) (by omega)) ?_
  rintro v10 w ⟨A1, hA1, hT⟩; clear E a; intro a E
  have S := S.call1 (sel_cons (by repeat (first | exact pk1 | apply pick_tail)) (sel_nil _)) hT
  refine wpList_nil ?_
  refine then_k hK ?_; clear hK; clear K
  refine wp_seq_k ?_; intro K hK
  refine region_list ?_
  refine list_pure E rfl rfl (by decide) (rn_move E rfl rfl) ?_; clear E a; intro a E
  refine list_pure E rfl rfl (by decide) (by first | exact rn_fieldAddr0 (q := 1) E rfl rfl rfl | exact rn_fieldAddr (q := 1) E rfl rfl rfl) ?_; clear E a; intro a E
  refine list_pure E rfl rfl (by decide) (by first | exact rn_load E rfl rfl rfl (S.get (by repeat (first | exact pk1 | apply pick_tail))) rfl | exact rn_loadc E rfl rfl rfl (by assumption)) ?_; clear E a; intro a E
  rw [hidn] at E
  refine list_pure E rfl rfl (by decide) (by first | exact rn_convert E rfl rfl rfl rfl (by first | exact wu8 _ | exact w_nat (by omega) | exact w_natu (by omega) | exact w_in (by omega) | exact w_inu (by omega) | exact rfl) | exact rn_string E rfl rfl rfl rfl rfl (by assumption) (S.stab.at (by simp))) ?_; clear E a; intro a E
  refine list_call E rfl rfl (by decide) rfl Tryd.func50 rfl (by kernel_rfl) rfl (num_fit p room _ A1 _ hA1 idn 4 (S.hp.sel (sel_cons (by repeat (first | exact pk1 | apply pick_tail)) (sel_nil _))) hr (by omega) (by omega) (by omega) (by simp only [List.length_append, formOf_length]; omega)) ?_
  rintro v15 w ⟨A2, hA2, hT⟩; clear E a; intro a E
  have S := S.call1 (sel_cons (by repeat (first | exact pk1 | apply pick_tail)) (sel_nil _)) hT
  refine wpList_nil ?_
  refine then_k hK ?_; clear hK; clear K
  refine wp_seq_k ?_; intro K hK
  refine region_list ?_
  refine list_pure E rfl rfl (by decide) (rn_move E rfl rfl) ?_; clear E a; intro a E
  refine list_pure E rfl rfl (by decide) (by first | exact rn_fieldAddr0 (q := 2) E rfl rfl rfl | exact rn_fieldAddr (q := 2) E rfl rfl rfl) ?_; clear E a; intro a E
  refine list_pure E rfl rfl (by decide) (by first | exact rn_load E rfl rfl rfl (S.get (by repeat (first | exact pk1 | apply pick_tail))) rfl | exact rn_loadc E rfl rfl rfl (by assumption)) ?_; clear E a; intro a E
  rw [hvn] at E
  refine list_pure E rfl rfl (by decide) (by first | exact rn_convert E rfl rfl rfl rfl (by first | exact wu8 _ | exact w_nat (by omega) | exact w_natu (by omega) | exact w_in (by omega) | exact w_inu (by omega) | exact rfl) | exact rn_string E rfl rfl rfl rfl rfl (by assumption) (S.stab.at (by simp))) ?_; clear E a; intro a E
  refine list_call E rfl rfl (by decide) rfl Tryd.func50 rfl (by kernel_rfl) rfl (num_fit p room _ A2 _ hA2 vn 2 (S.hp.sel (sel_cons (by repeat (first | exact pk1 | apply pick_tail)) (sel_nil _))) hr (by omega) (by omega) (by omega) (by simp only [List.length_append, formOf_length]; omega)) ?_
  rintro v20 w ⟨A3, hA3, hT⟩; clear E a; intro a E
  have S := S.call1 (sel_cons (by repeat (first | exact pk1 | apply pick_tail)) (sel_nil _)) hT
  refine wpList_nil ?_
  refine then_k hK ?_; clear hK; clear K
  refine wp_seq_k ?_; intro K hK
  refine region_list ?_
  refine list_pure E rfl rfl (by decide) (rn_move E rfl rfl) ?_; clear E a; intro a E
  refine list_pure E rfl rfl (by decide) (by first | exact rn_fieldAddr0 (q := 3) E rfl rfl rfl | exact rn_fieldAddr (q := 3) E rfl rfl rfl) ?_; clear E a; intro a E
  refine list_pure E rfl rfl (by decide) (by first | exact rn_load E rfl rfl rfl (S.get (by repeat (first | exact pk1 | apply pick_tail))) rfl | exact rn_loadc E rfl rfl rfl (by assumption)) ?_; clear E a; intro a E
  rw [han] at E
  refine list_pure E rfl rfl (by decide) (by first | exact rn_convert E rfl rfl rfl rfl (by first | exact wu8 _ | exact w_nat (by omega) | exact w_natu (by omega) | exact w_in (by omega) | exact w_inu (by omega) | exact rfl) | exact rn_string E rfl rfl rfl rfl rfl (by assumption) (S.stab.at (by simp))) ?_; clear E a; intro a E
  refine list_call E rfl rfl (by decide) rfl Tryd.func50 rfl (by kernel_rfl) rfl (num_fit p room _ A3 _ hA3 an 6 (S.hp.sel (sel_cons (by repeat (first | exact pk1 | apply pick_tail)) (sel_nil _))) hr (by omega) (by omega) (by omega) (by simp only [List.length_append, formOf_length]; omega)) ?_
  rintro v25 w ⟨A4, hA4, hT⟩; clear E a; intro a E
  have S := S.call1 (sel_cons (by repeat (first | exact pk1 | apply pick_tail)) (sel_nil _)) hT
  refine wpList_nil ?_
  refine then_k hK ?_; clear hK; clear K
  refine wp_seq_k ?_; intro K hK
  refine region_list ?_
  refine list_pure E rfl rfl (by decide) (rn_move E rfl rfl) ?_; clear E a; intro a E
  refine list_pure E rfl rfl (by decide) (by first | exact rn_fieldAddr0 (q := 4) E rfl rfl rfl | exact rn_fieldAddr (q := 4) E rfl rfl rfl) ?_; clear E a; intro a E
  refine list_pure E rfl rfl (by decide) (by first | exact rn_load E rfl rfl rfl (S.get (by repeat (first | exact pk1 | apply pick_tail))) rfl | exact rn_loadc E rfl rfl rfl (by assumption)) ?_; clear E a; intro a E
  refine list_call E rfl rfl (by decide) rfl Tryd.func54 rfl (by kernel_rfl) rfl (text_fit p room _ A4 _ hA4 r.text (S.hp.sel (sel_cons (by repeat (first | exact pk1 | apply pick_tail)) (sel_nil _))) hr (by omega) (by simp only [List.length_append, formOf_length]; omega)) ?_
  rintro v29 w ⟨A5, hA5, hT⟩; clear E a; intro a E
  have S := S.call1 (sel_cons (by repeat (first | exact pk1 | apply pick_tail)) (sel_nil _)) hT
  refine wpList_nil ?_
  refine then_k hK ?_; clear hK; clear K
  refine wp_seq_k ?_; intro K hK
  replace E := E.keep (e' := [(0, _), (3, _)]) (keep_cons rfl (keep_cons rfl (keep_nil)))
  refine region_list ?_
  refine list_pure E rfl rfl (by decide) (rn_move E rfl rfl) ?_; clear E a; intro a E
  refine list_pure E rfl rfl (by decide) (by first | exact rn_fieldAddr0 (q := 5) E rfl rfl rfl | exact rn_fieldAddr (q := 5) E rfl rfl rfl) ?_; clear E a; intro a E
  refine list_pure E rfl rfl (by decide) (by first | exact rn_load E rfl rfl rfl (S.get (by repeat (first | exact pk1 | apply pick_tail))) rfl | exact rn_loadc E rfl rfl rfl (by assumption)) ?_; clear E a; intro a E
  refine list_pure E rfl rfl (by decide) (by first | exact rn_len E rfl rfl rfl | exact rn_len_str E rfl rfl rfl | exact rn_len_string E rfl rfl rfl) ?_; clear E a; intro a E
  refine list_pure E rfl rfl (by decide) (by first | exact rn_convert E rfl rfl rfl rfl (by first | exact wu8 _ | exact w_nat (by omega) | exact w_natu (by omega) | exact w_in (by omega) | exact w_inu (by omega) | exact rfl) | exact rn_string E rfl rfl rfl rfl rfl (by assumption) (S.stab.at (by simp))) ?_; clear E a; intro a E
  refine list_call E rfl rfl (by decide) rfl Tryd.func50 rfl (by kernel_rfl) rfl (num_fit p room _ A5 _ hA5 r.list.length 2 (S.hp.sel (sel_cons (by repeat (first | exact pk1 | apply pick_tail)) (sel_nil _))) hr (by omega) (by omega) (by omega) (by simp only [List.length_append, formOf_length, txtB_length]; omega)) ?_
  rintro v35 w ⟨A6, hA6, hT⟩; clear E a; intro a E
  have S := S.call1 (sel_cons (by repeat (first | exact pk1 | apply pick_tail)) (sel_nil _)) hT; rw [← hpre] at hA6
  refine wpList_nil ?_
  refine then_k hK ?_; clear hK; clear K
  refine wp_seq_k ?_; intro K hK
  refine wp_seq_k ?_; intro K hK
  refine region_list ?_
  refine list_pure E rfl rfl (by decide) (by first | exact rn_fieldAddr0 (q := 5) E rfl rfl rfl | exact rn_fieldAddr (q := 5) E rfl rfl rfl) ?_; clear E a; intro a E
  refine list_pure E rfl rfl (by decide) (by first | exact rn_load E rfl rfl rfl (S.get (by repeat (first | exact pk1 | apply pick_tail))) rfl | exact rn_loadc E rfl rfl rfl (by assumption)) ?_; clear E a; intro a E
  refine list_pure E rfl rfl (by decide) (by first | exact rn_len E rfl rfl rfl | exact rn_len_str E rfl rfl rfl | exact rn_len_string E rfl rfl rfl) ?_; clear E a; intro a E
  refine list_pure E rfl rfl (by decide) (rn_move E rfl rfl) ?_; clear E a; intro a E
  refine wpList_nil ?_
  refine then_k hK ?_; clear hK; clear K
  refine wp_block ?_
  refine wp_loop_ghost (fun (m : Nat) (a : Act) (w' : World) => ∃ (i : Nat) (A' : Chunk), m = r.list.length - i ∧ i ≤ r.list.length ∧ WrC 114 p ⟨room, pre ++ (r.list.take i).flatMap txtB, 0⟩ A' ∧ St w0 (A :: As) w' (A' :: [(b3, cel [.int .i64 r.ses, .int .i64 r.id, .int .i64 r.err, .int .i64 r.num, str r.text, .slice adl r.list.length cl, .slice ad r.data.length c] 50)] :: As) ∧ Fr a 51 [(0, ptr p), (3, ptr b3), (37, .slice adl r.list.length cl), (38, .int .i64 r.list.length), (39, .int .i64 i)]) (r.list.length - 0) ?_ ?_
  · exact ⟨0, A6, rfl, by omega, by simpa using hA6, S, E.keep (keep_cons rfl (keep_cons rfl (keep_cons rfl (keep_cons rfl (keep_cons rfl keep_nil)))))⟩
  clear E; clear a; (try clear S); rintro m a w ⟨i, A', rfl, hi, hA', S, E⟩
  refine wp_seq_k ?_; intro K hK
  refine region_list ?_
  refine list_pure E rfl rfl (by decide) (rn_lss E rfl rfl rfl) ?_; clear E a; intro a E
  refine wpList_nil ?_
  refine then_k hK ?_; clear hK; clear K
  refine wp_seq_k ?_; intro K hK
  refine if_bool E rfl (fun hb => ?_) (fun hb => ?_)
  · replace hb := Nrm.nrm hb
    refine wp_skip ?_
    refine then_k hK ?_; clear hK; clear K
    refine wp_seq_k ?_; intro K hK
    refine wp_block ?_
    refine wp_seq_k ?_; intro K hK
    have hib : i < r.list.length := by omega
    have hti := m11 _ (List.getElem_mem hib)
    have hsum : ((r.list.take i).flatMap txtB).length + (txtB r.list[i]).length ≤ (r.list.flatMap txtB).length := by
      rw [← List.length_append, ← flat_take_succ txtB r.list hib]
      conv => rhs; rw [← List.take_append_drop (i + 1) r.list, List.flatMap_append, List.length_append]
      omega
    rw [txtB_length] at hsum
    obtain ⟨g, off, rfl⟩ := hL.addr (by omega)
    refine region_list ?_
    refine list_pure E rfl rfl (by decide) (by first | exact rn_indexAddr1 E rfl rfl rfl rfl rfl rfl (by omega) | exact rn_indexAddr E rfl rfl rfl rfl rfl rfl (by omega) | exact rn_indexAddr_array E rfl rfl rfl rfl rfl rfl (by omega)) ?_; clear E a; intro a E
    refine list_pure E rfl rfl (by decide) (rn_loadc E rfl rfl rfl (hL.text (S.stab.at (by repeat (first | exact mm1 | assumption | apply List.Mem.tail))) hib)) ?_; clear E a; intro a E
    refine list_pure E rfl rfl (by decide) (rn_assign E rfl rfl) ?_; clear E a; intro a E
    refine wpList_nil ?_
    refine then_k hK ?_; clear hK; clear K
    refine region_list ?_
    refine list_pure E rfl rfl (by decide) (rn_move E rfl rfl) ?_; clear E a; intro a E
    refine list_pure E rfl rfl (by decide) (rn_move E rfl rfl) ?_; clear E a; intro a E
    refine list_call E rfl rfl (by decide) rfl Tryd.func54 rfl (by kernel_rfl) rfl (text_fit p room _ A' _ hA' (r.list[i]'hib) (S.hp.sel (sel_cons (by repeat (first | exact pk1 | apply pick_tail)) (sel_nil _))) hr (by omega) (by rw [List.length_append]; omega)) ?_
    rintro v45 w ⟨A8, hA8, hT⟩; clear E a; intro a E
    have S := S.call1 (sel_cons (by repeat (first | exact pk1 | apply pick_tail)) (sel_nil _)) hT
    refine wpList_nil ?_
    refine in_normal ?_
    refine then_k hK ?_; clear hK; clear K
    refine region_list ?_
    refine list_pure E rfl rfl (by decide) (rn_add E rfl rfl rfl (by first | exact wa_lit (y := 1) (by omega) | exact w_in (by omega) | exact w_inu (by omega) | exact rfl)) ?_; clear E a; intro a E
    refine list_pure E rfl rfl (by decide) (rn_move E rfl rfl) ?_; clear E a; intro a E
    refine wpList_nil ?_
    refine then_normal ?_
    exact ⟨_, by omega, i + 1, A8, rfl, by omega, by rw [flat_take_succ txtB r.list hib, ← List.append_assoc]; exact hA8, S, E.keep (keep_cons rfl (keep_cons rfl (keep_cons rfl (keep_cons rfl (keep_cons rfl keep_nil)))))⟩
  · replace hb := Nrm.nrm hb
    refine wp_exit ?_
    refine then_exit ?_; clear hK; clear K
    refine then_exit ?_
    refine in_exit ?_
    refine then_k hK ?_; clear hK; clear K
    obtain rfl : i = r.list.length := by omega
    rw [List.take_length] at hA'
    refine region_list ?_
    refine list_pure E rfl rfl (by decide) (rn_move E rfl rfl) ?_; clear E a; intro a E
    refine list_pure E rfl rfl (by decide) (by first | exact rn_fieldAddr0 (q := 6) E rfl rfl rfl | exact rn_fieldAddr (q := 6) E rfl rfl rfl) ?_; clear E a; intro a E
    refine list_pure E rfl rfl (by decide) (by first | exact rn_load E rfl rfl rfl (S.get (by repeat (first | exact pk1 | apply pick_tail))) rfl | exact rn_loadc E rfl rfl rfl (by assumption)) ?_; clear E a; intro a E
    refine list_call E rfl rfl (by decide) rfl Tryd.func55 rfl (by kernel_rfl) rfl (data_ret p room _ A' O _ r.data hO0 (by omega) _ hA' (S.hpin (by repeat (first | exact pk1 | apply pick_tail)) (by repeat (first | exact mm1 | assumption | apply List.Mem.tail))) hr (by rw [List.length_append]; omega)) ?_
    rintro v50 w ⟨A9, hA9, hT⟩; clear E a; intro a E
    have S := S.callin (by repeat (first | exact pk1 | apply pick_tail)) (by repeat (first | exact mm1 | assumption | apply List.Mem.tail)) hT
    refine wpList_nil ?_
    refine end0 E rfl ?_
    exact ⟨_, rfl, A9, by rw [hB]; exact hA9, (S.del (A := [(b3, _)]) (by repeat (first | exact pk1 | apply pick_tail))).tr⟩

theorem framedrp_ret (r : Rp) (L O : Chunk) (vl vd : Value) (hL : Rd L 1 vl r.list.length (sts r.list)) (hll : r.list.length ≤ 140737488355328) (hO : Rd O 1 vd r.data.length (byt r.data)) (As : List Chunk) (hLA : L ∈ As) (hOA : O ∈ As) (hG : Tab As 2 shaK) (w0 : World) (H : Hp w0 As) :
    Ret Tryd.prog 40 #[rpagg r vl vd, .int .i64 2, .func (.func 41) #[] #[], .func (.func 42) #[] #[]] w0 fun u w' => ∃ x C, u = .tuple #[x, .int .i64 (rpE r)] ∧ Buf C 5 1 x (rpO r).length (byt (rpO r)) ∧ Trs w0 w' As (C :: As) := by
  have S := St.begin H
  have hO0 := hO
  have hL0 := hL
  have e1 := p1
  have e4 := p4
  obtain ⟨ad, c, rfl⟩ := hO.slice
  obtain ⟨adl, cl, rfl⟩ := hL.slice
  refine enter4 57 Tryd.func40 rfl rfl (by decide) ?_; intro a E
  refine wp_seq_k ?_; intro K hK
  refine region_list ?_
  refine list_wp rfl (wp_box E S rfl rfl (by decide) rfl rfl ?_); clear E S a; intro a w b4 E S
  refine list_pure E rfl rfl (by decide) (rn_assign E rfl rfl) ?_; clear E a; intro a E
  refine list_pure E rfl rfl (by decide) (rn_assign E rfl rfl) ?_; clear E a; intro a E
  refine wpList_nil ?_
  refine then_k hK ?_; clear hK; clear K
  refine wp_seq_k ?_; intro K hK
  refine wp_seq_k ?_; intro K hK
  refine region_list ?_
  refine list_pure E rfl rfl (by decide) (rn_move E rfl rfl) ?_; clear E a; intro a E
  refine list_pure E rfl rfl (by decide) (rn_load_blk (vs := [_, _, _, _, _, _, _]) E rfl rfl rfl (S.get (by repeat (first | exact pk1 | apply pick_tail))) rfl rfl) ?_; clear E a; intro a E
  refine list_callc E rfl rfl (by decide) rfl rfl Tryd.func41 rfl (by kernel_rfl) rfl (answers_ret r L _ ad c hL0 hll _ (S.hpone (show L ∈ _ from (by repeat (first | exact mm1 | assumption | apply List.Mem.tail))))) ?_
  rintro v18 w ⟨rfl, hT⟩; clear E a; intro a E
  have S := S.callone (show L ∈ _ from (by repeat (first | exact mm1 | assumption | apply List.Mem.tail))) hT
  refine list_pure E rfl rfl (by decide) (rn_not E rfl rfl) ?_; clear E a; intro a E
  refine wpList_nil ?_
  refine then_k hK ?_; clear hK; clear K
  refine if_bool E rfl (fun hb => ?_) (fun hb => ?_)
  · replace hb := Nrm.nrm hb
    have hno : ¬ r.may := (by simpa using hb)
    refine wp_seq_k ?_; intro K hK
    refine region_list ?_
    refine list_pure E rfl rfl (by decide) (rn_assign E rfl rfl) ?_; clear E a; intro a E
    refine list_pure E rfl rfl (by decide) (rn_assign E rfl rfl) ?_; clear E a; intro a E
    refine wpList_nil ?_
    refine then_k hK ?_; clear hK; clear K
    refine wp_ret ?_
    refine then_ret ?_; clear hK; clear K
    refine ret2 E rfl rfl rfl ?_
    exact ⟨_, rfl, _, [], by rw [rpE_no hno], by rw [rpO_no hno]; exact Buf.nil _ _, (S.del (A := [(b4, _)]) (by repeat (first | exact pk1 | apply pick_tail))).addNil.tr⟩
  · replace hb := Nrm.nrm hb
    have hm : r.may := (by simpa using hb)
    refine wp_skip ?_
    refine then_k hK ?_; clear hK; clear K
    refine wp_seq_k ?_; intro K hK
    have hsm := rpB_small hm
    refine region_list ?_
    refine list_call E rfl rfl (by decide) rfl Tryd.func49 rfl (by kernel_rfl) rfl (writer_ret 1048576 _) ?_
    rintro v20 w ⟨p, A, rfl, hA, hT⟩; clear E a; intro a E
    have S := S.fresh hT; have hA : WrC 114 p ⟨1048576, [], 0⟩ A := hA
    refine list_pure E rfl rfl (by decide) (rn_assign E rfl rfl) ?_; clear E a; intro a E
    refine wpList_nil ?_
    refine then_k hK ?_; clear hK; clear K
    refine wp_seq_k ?_; intro K hK
    refine region_list ?_
    refine list_pure E rfl rfl (by decide) (rn_move E rfl rfl) ?_; clear E a; intro a E
    refine list_pure E rfl rfl (by decide) (rn_move E rfl rfl) ?_; clear E a; intro a E
    refine list_pure E rfl rfl (by decide) (by first | exact rn_convert E rfl rfl rfl rfl (by first | exact wu8 _ | exact w_nat (by omega) | exact w_natu (by omega) | exact w_in (by omega) | exact w_inu (by omega) | exact rfl) | exact rn_string E rfl rfl rfl rfl rfl (by assumption) (S.stab.at (by simp))) ?_; clear E a; intro a E
    refine list_call E rfl rfl (by decide) rfl Tryd.func50 rfl (by kernel_rfl) rfl (num_fit p 1048576 [] A _ hA 2 1 (S.hp.sel (sel_cons (by repeat (first | exact pk1 | apply pick_tail)) (sel_nil _))) (by omega) (by omega) (by omega) (by omega) (by simp)) ?_
    rintro v24 w ⟨A1, hA1, hT⟩; clear E a; intro a E
    have S := S.call1 (sel_cons (by repeat (first | exact pk1 | apply pick_tail)) (sel_nil _)) hT; have hA1 : WrC 114 p ⟨1048576, [2], 0⟩ A1 := hA1
    refine wpList_nil ?_
    refine then_k hK ?_; clear hK; clear K
    refine wp_seq_k ?_; intro K hK
    refine region_list ?_
    refine list_pure E rfl rfl (by decide) (rn_move E rfl rfl) ?_; clear E a; intro a E
    refine list_pure E rfl rfl (by decide) (rn_move E rfl rfl) ?_; clear E a; intro a E
    refine list_pure E rfl rfl (by decide) (rn_load_blk (vs := [_, _, _, _, _, _, _]) E rfl rfl rfl (S.get (by repeat (first | exact pk1 | apply pick_tail))) rfl rfl) ?_; clear E a; intro a E
    refine list_callc E rfl rfl (by decide) rfl rfl Tryd.func42 rfl (by kernel_rfl) rfl (layrp_ret p 1048576 [2] A1 _ L O r _ _ hL0 hO0 (show L ∈ _ from (by repeat (first | exact mm1 | assumption | apply List.Mem.tail))) (show O ∈ _ from (by repeat (first | exact mm1 | assumption | apply List.Mem.tail))) hm _ hA1 S.hp (by omega) (by simp)) ?_
    rintro v28 w ⟨A2, hA2, hT⟩; clear E a; intro a E
    have S := S.all hT; obtain ⟨x, hx⟩ : ∃ x, x = [2] ++ rpB r := ⟨_, rfl⟩; rw [← hx] at hA2; have hxl : x.length = 1 + (rpB r).length := (by rw [hx, List.length_append]; rfl)
    refine wpList_nil ?_
    refine then_k hK ?_; clear hK; clear K
    refine wp_seq_k ?_; intro K hK
    refine region_list ?_
    refine list_pure E rfl rfl (by decide) (rn_move E rfl rfl) ?_; clear E a; intro a E
    refine list_call E rfl rfl (by decide) rfl Tryd.func51 rfl (by kernel_rfl) rfl (done_fit p 1048576 x A2 _ hA2 (S.hp.sel (sel_cons (by repeat (first | exact pk1 | apply pick_tail)) (sel_nil _))) (by omega)) ?_
    rintro v31 w ⟨g, rfl, hT⟩; clear E a; intro a E
    have S := S.call2 (sel_cons (by repeat (first | exact pk1 | apply pick_tail)) (sel_nil _)) hT
    refine list_pure E rfl rfl (by decide) (rn_move E rfl rfl) ?_; clear E a; intro a E
    refine list_pure E rfl rfl (by decide) (rn_extract E rfl rfl rfl) ?_; clear E a; intro a E
    refine list_pure E rfl rfl (by decide) (rn_extract E rfl rfl rfl) ?_; clear E a; intro a E
    refine list_pure E rfl rfl (by decide) (rn_assign E rfl rfl) ?_; clear E a; intro a E
    refine list_pure E rfl rfl (by decide) (rn_assign E rfl rfl) ?_; clear E a; intro a E
    refine wpList_nil ?_
    refine then_k hK ?_; clear hK; clear K
    refine wp_seq_k ?_; intro K hK
    refine wp_seq_k ?_; intro K hK
    replace E := E.keep (e' := [(8, _), (9, _), (11, _)]) (keep_cons rfl (keep_cons rfl (keep_cons rfl (keep_nil))))
    refine region_list ?_
    refine list_pure E rfl rfl (by decide) (rn_move E rfl rfl) ?_; clear E a; intro a E
    refine list_pure E rfl rfl (by decide) (by first | exact rn_len E rfl rfl rfl | exact rn_len_str E rfl rfl rfl | exact rn_len_string E rfl rfl rfl) ?_; clear E a; intro a E
    refine list_pure E rfl rfl (by decide) (rn_add E rfl rfl rfl (by first | exact wa_lit2 (x := 4) (by omega) | exact w_in (by omega) | exact w_inu (by omega) | exact rfl)) ?_; clear E a; intro a E
    refine list_pure E rfl rfl (by decide) (rn_add E rfl rfl rfl (by first | exact wa_lit (y := 8) (by omega) | exact w_in (by omega) | exact w_inu (by omega) | exact rfl)) ?_; clear E a; intro a E
    refine list_pure E rfl rfl (by decide) (rn_gtr E rfl rfl rfl) ?_; clear E a; intro a E
    refine wpList_nil ?_
    refine then_k hK ?_; clear hK; clear K
    refine if_false' E rfl ((by simp; omega)) ?_
    refine wp_skip ?_
    refine then_k hK ?_; clear hK; clear K
    refine wp_seq_k ?_; intro K hK
    refine region_list ?_
    refine list_call E rfl rfl (by decide) rfl Tryd.func49 rfl (by kernel_rfl) rfl (writer_ret 4 _) ?_
    rintro v39 w ⟨q, B, rfl, hB, hT⟩; clear E a; intro a E
    have S := S.fresh hT; have hB : WrC 114 q ⟨4, [], 0⟩ B := hB
    refine list_pure E rfl rfl (by decide) (rn_assign E rfl rfl) ?_; clear E a; intro a E
    refine wpList_nil ?_
    refine then_k hK ?_; clear hK; clear K
    refine wp_seq_k ?_; intro K hK
    refine region_list ?_
    refine list_pure E rfl rfl (by decide) (rn_move E rfl rfl) ?_; clear E a; intro a E
    refine list_pure E rfl rfl (by decide) (rn_move E rfl rfl) ?_; clear E a; intro a E
    refine list_pure E rfl rfl (by decide) (by first | exact rn_len E rfl rfl rfl | exact rn_len_str E rfl rfl rfl | exact rn_len_string E rfl rfl rfl) ?_; clear E a; intro a E
    refine list_pure E rfl rfl (by decide) (rn_add E rfl rfl rfl (by first | exact wa_lit (y := 8) (by omega) | exact w_in (by omega) | exact w_inu (by omega) | exact rfl)) ?_; clear E a; intro a E
    refine list_pure E rfl rfl (by decide) (by first | exact rn_convert E rfl rfl rfl rfl (by first | exact wu8 _ | exact w_nat (by omega) | exact w_natu (by omega) | exact w_in (by omega) | exact w_inu (by omega) | exact rfl) | exact rn_string E rfl rfl rfl rfl rfl (by assumption) (S.stab.at (by simp))) ?_; clear E a; intro a E
    refine list_call E rfl rfl (by decide) rfl Tryd.func50 rfl (by kernel_rfl) rfl (num_fit q 4 [] B _ hB (x.length + 8) 4 (S.hp.sel (sel_cons (by repeat (first | exact pk1 | apply pick_tail)) (sel_nil _))) (by omega) (by omega) (by omega) (by omega) (by simp)) ?_
    rintro v45 w ⟨B1, hB1, hT⟩; clear E a; intro a E
    have S := S.call1 (sel_cons (by repeat (first | exact pk1 | apply pick_tail)) (sel_nil _)) hT; rw [List.nil_append] at hB1
    refine wpList_nil ?_
    refine then_k hK ?_; clear hK; clear K
    refine wp_seq_k ?_; intro K hK
    refine region_list ?_
    refine list_pure E rfl rfl (by decide) (rn_move E rfl rfl) ?_; clear E a; intro a E
    refine list_call E rfl rfl (by decide) rfl Tryd.func51 rfl (by kernel_rfl) rfl (done_fit q 4 _ B1 _ hB1 (S.hp.sel (sel_cons (by repeat (first | exact pk1 | apply pick_tail)) (sel_nil _))) (by rw [formOf_length]; omega)) ?_
    rintro v48 w ⟨g2, rfl, hT⟩; clear E a; intro a E
    have S := S.call2 (sel_cons (by repeat (first | exact pk1 | apply pick_tail)) (sel_nil _)) hT; rw [formOf_length] at E
    refine list_pure E rfl rfl (by decide) (rn_move E rfl rfl) ?_; clear E a; intro a E
    refine list_pure E rfl rfl (by decide) (rn_extract E rfl rfl rfl) ?_; clear E a; intro a E
    refine list_pure E rfl rfl (by decide) (rn_extract E rfl rfl rfl) ?_; clear E a; intro a E
    refine list_pure E rfl rfl (by decide) (rn_assign E rfl rfl) ?_; clear E a; intro a E
    refine list_pure E rfl rfl (by decide) (rn_assign E rfl rfl) ?_; clear E a; intro a E
    refine wpList_nil ?_
    refine then_k hK ?_; clear hK; clear K
    refine wp_seq_k ?_; intro K hK
    have hx0 := (buf_bytes g x 5 (by omega)).rd
    have hn0 := (buf_bytes g2 (formOf (x.length + 8) 4) 5 (by rw [formOf_length]; omega)).rd
    refine region_list ?_
    refine list_pure E rfl rfl (by decide) (rn_move E rfl rfl) ?_; clear E a; intro a E
    refine list_pure E rfl rfl (by decide) (rn_move E rfl rfl) ?_; clear E a; intro a E
    refine list_pure E rfl rfl (by decide) (rn_move E rfl rfl) ?_; clear E a; intro a E
    refine list_call E rfl rfl (by decide) rfl Tryd.func52 rfl (by kernel_rfl) rfl (sum8_ret _ _ x hx0 (by omega) _ (show [(g, cel (byt x) 5)] ∈ _ from (by repeat (first | exact mm1 | assumption | apply List.Mem.tail))) (hG.sub (fun _ h => by repeat (first | exact h | apply List.Mem.tail))) _ S.hp) ?_
    rintro v54 w ⟨g3, rfl, hT⟩; clear E a; intro a E
    have S := S.all hT
    refine list_wp rfl (wp_bslice (cells := [_, _, _]) E S rfl rfl (by decide) rfl rfl rfl rfl rfl (by decide) rfl ?_); clear E S a; intro a w b55 E S
    have hs0 := (buf_bytes g3 (formOf (shaF x).a 8) 5 (by rw [formOf_length]; omega)).rd
    refine list_call E rfl rfl (by decide) rfl Tryd.func31 rfl (by kernel_rfl) rfl (bconcat_ret b55 [_, _, _] [formOf (x.length + 8) 4, x, formOf (shaF x).a 8] _ ⟨_, show [(b55, cel [.slice (some ⟨g2, 0, none⟩) 4 4, .slice (some ⟨g, 0, none⟩) x.length x.length, .slice (some ⟨g3, 0, none⟩) 8 8] 22)] ∈ _ from (by repeat (first | exact mm1 | assumption | apply List.Mem.tail))⟩ ⟨⟨_, show [(g2, cel (byt (formOf (x.length + 8) 4)) 5)] ∈ _ from (by repeat (first | exact mm1 | assumption | apply List.Mem.tail)), by rw [formOf_length] at hn0 ⊢; exact hn0⟩, ⟨_, show [(g, cel (byt x) 5)] ∈ _ from (by repeat (first | exact mm1 | assumption | apply List.Mem.tail)), hx0⟩, ⟨_, show [(g3, cel (byt (formOf (shaF x).a 8)) 5)] ∈ _ from (by repeat (first | exact mm1 | assumption | apply List.Mem.tail)), by rw [formOf_length] at hs0 ⊢; exact hs0⟩, trivial⟩ (by simp) (by rw [frm_cat, frm_length]; omega) _ S.hp) ?_
    rintro v56 w ⟨C, hC, hT⟩; clear E a; intro a E
    have S := S.all hT; rw [frm_cat] at hC
    refine list_pure E rfl rfl (by decide) (rn_assign E rfl rfl) ?_; clear E a; intro a E
    refine list_pure E rfl rfl (by decide) (rn_assign E rfl rfl) ?_; clear E a; intro a E
    refine wpList_nil ?_
    refine then_k hK ?_; clear hK; clear K
    refine wp_ret ?_
    refine ret2 E rfl rfl rfl ?_
    exact ⟨_, rfl, _, C, by rw [rpE_yes hm], by rw [rpO_yes hm]; rw [hx] at hC; exact hC, (((((((S.del (A := [(b55, _)]) (by repeat (first | exact pk1 | apply pick_tail))).del (A := [(g3, _)]) (by repeat (first | exact pk1 | apply pick_tail))).del (A := [(g2, _)]) (by repeat (first | exact pk1 | apply pick_tail))).del (A := [(g, _)]) (by repeat (first | exact pk1 | apply pick_tail))).del (A := B1) (by repeat (first | exact pk1 | apply pick_tail))).del (A := A2) (by repeat (first | exact pk1 | apply pick_tail))).del (A := [(b4, _)]) (by repeat (first | exact pk1 | apply pick_tail))).tr⟩

theorem rpencode_ret (r : Rp) (L O : Chunk) (vl vd : Value) (hL : Rd L 1 vl r.list.length (sts r.list)) (hll : r.list.length ≤ 140737488355328) (hO : Rd O 1 vd r.data.length (byt r.data)) (As : List Chunk) (hLA : L ∈ As) (hOA : O ∈ As) (hG : Tab As 2 shaK) (w0 : World) (H : Hp w0 As) :
    Ret Tryd.prog 20 #[rpagg r vl vd] w0 fun u w' => ∃ x C, u = .tuple #[x, .int .i64 (rpE r)] ∧ Buf C 5 1 x (rpO r).length (byt (rpO r)) ∧ Trs w0 w' As (C :: As) := by
  have S := St.begin H
  have hO0 := hO
  have hL0 := hL
  obtain ⟨ad, c, rfl⟩ := hO.slice
  obtain ⟨adl, cl, rfl⟩ := hL.slice
  refine enter1 8 Tryd.func20 rfl rfl (by decide) ?_; intro a E
  refine wp_seq_k ?_; intro K hK
  refine region_list ?_
  refine list_wp rfl (wp_box E S rfl rfl (by decide) rfl rfl ?_); clear E S a; intro a w b1 E S
  refine list_pure E rfl rfl (by decide) (rn_assign E rfl rfl) ?_; clear E a; intro a E
  refine list_pure E rfl rfl (by decide) (rn_assign E rfl rfl) ?_; clear E a; intro a E
  refine wpList_nil ?_
  refine then_k hK ?_; clear hK; clear K
  refine wp_seq_k ?_; intro K hK
  refine region_list ?_
  refine list_pure E rfl rfl (by decide) (rn_load_blk (vs := [_, _, _, _, _, _, _]) E rfl rfl rfl (S.get (by repeat (first | exact pk1 | apply pick_tail))) rfl rfl) ?_; clear E a; intro a E
  refine list_call E rfl rfl (by decide) rfl Tryd.func40 rfl (by kernel_rfl) rfl (framedrp_ret r L O _ _ hL0 hll hO0 _ (show L ∈ _ from (by repeat (first | exact mm1 | assumption | apply List.Mem.tail))) (show O ∈ _ from (by repeat (first | exact mm1 | assumption | apply List.Mem.tail))) hG.tail _ S.hp) ?_
  rintro v5 w ⟨x, C, rfl, hC, hT⟩; clear E a; intro a E
  have S := S.all hT
  refine list_pure E rfl rfl (by decide) (rn_extract E rfl rfl rfl) ?_; clear E a; intro a E
  refine list_pure E rfl rfl (by decide) (rn_extract E rfl rfl rfl) ?_; clear E a; intro a E
  refine list_pure E rfl rfl (by decide) (rn_assign E rfl rfl) ?_; clear E a; intro a E
  refine list_pure E rfl rfl (by decide) (rn_assign E rfl rfl) ?_; clear E a; intro a E
  refine wpList_nil ?_
  refine then_k hK ?_; clear hK; clear K
  refine wp_ret ?_
  refine ret2 E rfl rfl rfl ?_
  exact ⟨_, rfl, x, C, rfl, hC, (S.del (A := [(b1, _)]) (by repeat (first | exact pk1 | apply pick_tail))).tr⟩
end Go.Proofs.YtjhmjdgdgpgcdaaDoor
