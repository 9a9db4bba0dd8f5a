/-
  Labels: written and read by the program.
-/
import Derived.Test.YtmghbcaookahaaaDoorTopS
namespace Go.Sl
theorem tops_take_succ (l : List Tp) {i : Nat} (hi : i < l.length) : (l.take (i + 1)).flatMap tpB = (l.take i).flatMap tpB ++ tpB l[i] := by
  rw [← List.take_append_getElem hi, List.flatMap_append]; simp
theorem half_place {l : Lbl} (h : l.half) (hm : ∀ t ∈ l.tops, t.made) : l.place ≤ 5 := by
  obtain ⟨m1, m2, m3, m4, m5, m6⟩ := h
  have : l.top.toNat < l.tops.length := by omega
  have hmem : l.tops.getD l.top.toNat tpZero ∈ l.tops := by simp [List.getD, this]
  have := hm _ hmem
  unfold Tp.made at this
  omega
def lbP (l : Lbl) : List UInt8 := if lbE l = 0 then pad96 (lbB l) else []
theorem lbP_ok {u : Lbl} (h : lbE u = 0) : lbP u = pad96 (lbB u) := by simp [lbP, h]
theorem lbP_no {u : Lbl} (h : lbE u ≠ 0) : lbP u = [] := by simp [lbP, h]
theorem lbO_ok {u : Lbl} (h : lbE u = 0) : lbO u = whole (lbB u) := by simp [lbO, h]
theorem lbO_no {u : Lbl} (h : lbE u ≠ 0) : lbO u = [] := by simp [lbO, h]
theorem lbB_small {u : Lbl} (h : lbE u = 0) : (lbB u).length ≤ 39 := by rw [lbB_length]; have := ((lbE_iff u).1 h).1.2.1; omega
/-- What 96 bytes are read as. -/
def lbtE (x : List UInt8) : Int := if 4 < nm x 14 1 then 43 else if x.drop (15 + 6 * nm x 14 1) ≠ List.replicate (96 - (15 + 6 * nm x 14 1)) 0 then 43 else lbE (lbAt x)
def lbt (x : List UInt8) : Lbl := if lbtE x = 0 then lbAt x else lbZero
theorem lbdecE_open {b : List UInt8} (h : openB b lLet = true) : lbdecE b = lbtE (b.take 96) := by unfold lbdecE lbtE; rw [if_neg (by rw [h]; decide)]
theorem lbdecE_shut {b : List UInt8} (h : openB b lLet = false) : lbdecE b = 43 := by unfold lbdecE; rw [if_pos h]
theorem lbdec_open {b : List UInt8} (h : openB b lLet = true) : lbdec b = lbt (b.take 96) := by unfold lbdec lbt; rw [lbdecE_open h]
theorem lbdec_shut {b : List UInt8} (h : openB b lLet = false) : lbdec b = lbZero := by unfold lbdec; rw [lbdecE_shut h]; rfl
theorem lbdec_val {b : List UInt8} (h : lbdecE b = 0) : lbdec b = lbAt (b.take 96) := by unfold lbdec; rw [if_pos h]
theorem lbdec_none {b : List UInt8} (h : lbdecE b ≠ 0) : lbdec b = lbZero := by unfold lbdec; rw [if_neg h]
theorem lbt_val {b : List UInt8} (h : lbtE b = 0) : lbt b = lbAt b := by unfold lbt; rw [if_pos h]
theorem lbt_none {b : List UInt8} (h : lbtE b ≠ 0) : lbt b = lbZero := by unfold lbt; rw [if_neg h]
/-- The tops so far. -/
def topsAt (x : List UInt8) (k : Nat) : List Tp := (List.range k).map fun i => tpAt x (15 + 6 * i)
theorem topsAt_length (x : List UInt8) (k : Nat) : (topsAt x k).length = k := by simp [topsAt]
theorem topsAt_succ (x : List UInt8) (k : Nat) : topsAt x (k + 1) = topsAt x k ++ [tpAt x (15 + 6 * k)] := by simp [topsAt, List.range_succ]
theorem flat_snoc (l : List Tp) (t : Tp) : (l ++ [t]).flatMap Tp.lay = l.flatMap Tp.lay ++ t.lay := by simp
end Go.Sl
namespace Go.Proofs.YtmghbcaookahaaaDoor
open Go.Sl
set_option maxRecDepth 10000

theorem laylb_ret (p room : Nat) (A O : Chunk) (v : Value) (l : Lbl) (hO : Rd O 3 v l.tops.length (l.tops.flatMap Tp.lay)) (ho : l.Ok) (hm : lbE l = 0) (w0 : World) (hA : WrC 104 p ⟨room, [], 0⟩ A) (H : Hp w0 [A, O]) (hr : room ≤ 140737488355328) (hl : 39 ≤ room) :
    Ret Tryd.prog 37 #[ptr p, lbagg l v] w0 fun _ w' => ∃ A', WrC 104 p ⟨room, lbB l, 0⟩ A' ∧ Trs w0 w' [A, O] [A', O] := by
  have S := St.begin H
  have e1 := p1
  have e4 := p4
  have e8 := p8
  have o1 := ho.pool
  have hl4 : lLet.length = 4 := rfl
  obtain ⟨hh, hmm⟩ := (lbE_iff l).1 hm
  have hpl := half_place hh hmm
  obtain ⟨m1, m2, m3, m4, m5, m6⟩ := hh
  obtain ⟨tn, htn⟩ : ∃ n : Nat, l.top = n := ⟨l.top.toNat, by omega⟩
  obtain ⟨pn, hpn⟩ : ∃ n : Nat, l.place = n := ⟨l.place.toNat, by omega⟩
  obtain ⟨ad, c, rfl⟩ := hO.slice
  obtain ⟨g, off, rfl⟩ := hO.addr (by omega)
  have hH : lbH l = lLet ++ formOf l.pool 8 ++ formOf tn 1 ++ formOf pn 1 ++ formOf l.tops.length 1 := by simp [lbH, htn, hpn]
  have hHl := lbH_length l
  refine enter2 53 Tryd.func37 rfl rfl (by decide) ?_; intro a E
  refine wp_seq_k ?_; intro K hK
  refine region_list ?_
  refine list_wp rfl (wp_box E S rfl rfl (by decide) rfl rfl ?_); clear E S a; intro a w b3 E S
  refine wpList_nil ?_
  refine then_k hK ?_; clear hK; clear K
  refine wp_seq_k ?_; intro K hK
  refine region_list ?_
  refine list_pure E rfl rfl (by decide) (rn_move E rfl rfl) ?_; clear E a; intro a E
  refine list_wp rfl (wp_bslice (cells := [_, _, _, _]) E S rfl rfl (by decide) rfl rfl rfl rfl rfl (by decide) rfl ?_); clear E S a; intro a w b7 E S
  refine list_wp rfl (wp_mark E S rfl rfl rfl (by decide) rfl rfl rfl (by repeat (first | exact pk1 | apply pick_tail)) ?_); clear E S a; intro a w E S
  refine list_call E rfl rfl (by decide) rfl Tryd.func63 rfl (by kernel_rfl) rfl (bytes_fit p room [] A _ _ hA _ lLet (rd_mark (g := b7) lLet (by omega)) (S.hp.sel (sel_cons pk3 (sel_cons pk1 (sel_nil _)))) hr (by simp only [List.length_nil]; omega)) ?_
  rintro v9 w ⟨A1, hA1, hT⟩; clear E a; intro a E
  have S := S.call2 (sel_cons pk3 (sel_cons pk1 (sel_nil _))) hT; rw [List.nil_append] at hA1
  refine wpList_nil ?_
  refine then_k hK ?_; clear hK; clear K
  refine wp_seq_k ?_; intro K hK
  refine region_list ?_
  refine list_pure E rfl rfl (by decide) (rn_move E rfl rfl) ?_; clear E a; intro a E
  refine list_pure E rfl rfl (by decide) (by first | exact rn_fieldAddr0 (q := 0) E rfl rfl rfl | exact rn_fieldAddr (q := 0) E rfl rfl rfl) ?_; clear E a; intro a E
  refine list_pure E rfl rfl (by decide) (by first | exact rn_load E rfl rfl rfl (S.get (by repeat (first | exact pk1 | apply pick_tail))) rfl | exact rn_loadc E rfl rfl rfl (by assumption)) ?_; clear E a; intro a E
  refine list_call E rfl rfl (by decide) rfl Tryd.func59 rfl (by kernel_rfl) rfl (num_fit p room _ A1 _ hA1 l.pool 8 (S.hp.sel (sel_cons (by repeat (first | exact pk1 | apply pick_tail)) (sel_nil _))) hr (by omega) (by omega) (by omega) (by omega)) ?_
  rintro v13 w ⟨A2, hA2, hT⟩; clear E a; intro a E
  have S := S.call1 (sel_cons (by repeat (first | exact pk1 | apply pick_tail)) (sel_nil _)) hT
  refine wpList_nil ?_
  refine then_k hK ?_; clear hK; clear K
  refine wp_seq_k ?_; intro K hK
  refine region_list ?_
  refine list_pure E rfl rfl (by decide) (rn_move E rfl rfl) ?_; clear E a; intro a E
  refine list_pure E rfl rfl (by decide) (by first | exact rn_fieldAddr0 (q := 2) E rfl rfl rfl | exact rn_fieldAddr (q := 2) E rfl rfl rfl) ?_; clear E a; intro a E
  refine list_pure E rfl rfl (by decide) (by first | exact rn_load E rfl rfl rfl (S.get (by repeat (first | exact pk1 | apply pick_tail))) rfl | exact rn_loadc E rfl rfl rfl (by assumption)) ?_; clear E a; intro a E
  rw [htn] at E
  refine list_pure E rfl rfl (by decide) (by first | exact rn_convert E rfl rfl rfl rfl (by first | exact wu8 _ | exact w_nat (by omega) | exact w_natu (by omega) | exact w_in (by omega) | exact w_inu (by omega) | exact rfl) | exact rn_string E rfl rfl rfl rfl rfl (by assumption) (S.stab.at (by simp))) ?_; clear E a; intro a E
  refine list_call E rfl rfl (by decide) rfl Tryd.func59 rfl (by kernel_rfl) rfl (num_fit p room _ A2 _ hA2 tn 1 (S.hp.sel (sel_cons (by repeat (first | exact pk1 | apply pick_tail)) (sel_nil _))) hr (by omega) (by omega) (by omega) (by simp only [List.length_append, formOf_length]; omega)) ?_
  rintro v18 w ⟨A3, hA3, hT⟩; clear E a; intro a E
  have S := S.call1 (sel_cons (by repeat (first | exact pk1 | apply pick_tail)) (sel_nil _)) hT
  refine wpList_nil ?_
  refine then_k hK ?_; clear hK; clear K
  refine wp_seq_k ?_; intro K hK
  refine region_list ?_
  refine list_pure E rfl rfl (by decide) (rn_move E rfl rfl) ?_; clear E a; intro a E
  refine list_pure E rfl rfl (by decide) (by first | exact rn_fieldAddr0 (q := 3) E rfl rfl rfl | exact rn_fieldAddr (q := 3) E rfl rfl rfl) ?_; clear E a; intro a E
  refine list_pure E rfl rfl (by decide) (by first | exact rn_load E rfl rfl rfl (S.get (by repeat (first | exact pk1 | apply pick_tail))) rfl | exact rn_loadc E rfl rfl rfl (by assumption)) ?_; clear E a; intro a E
  rw [hpn] at E
  refine list_pure E rfl rfl (by decide) (by first | exact rn_convert E rfl rfl rfl rfl (by first | exact wu8 _ | exact w_nat (by omega) | exact w_natu (by omega) | exact w_in (by omega) | exact w_inu (by omega) | exact rfl) | exact rn_string E rfl rfl rfl rfl rfl (by assumption) (S.stab.at (by simp))) ?_; clear E a; intro a E
  refine list_call E rfl rfl (by decide) rfl Tryd.func59 rfl (by kernel_rfl) rfl (num_fit p room _ A3 _ hA3 pn 1 (S.hp.sel (sel_cons (by repeat (first | exact pk1 | apply pick_tail)) (sel_nil _))) hr (by omega) (by omega) (by omega) (by simp only [List.length_append, formOf_length]; omega)) ?_
  rintro v23 w ⟨A4, hA4, hT⟩; clear E a; intro a E
  have S := S.call1 (sel_cons (by repeat (first | exact pk1 | apply pick_tail)) (sel_nil _)) hT
  refine wpList_nil ?_
  refine then_k hK ?_; clear hK; clear K
  refine wp_seq_k ?_; intro K hK
  refine region_list ?_
  refine list_pure E rfl rfl (by decide) (rn_move E rfl rfl) ?_; clear E a; intro a E
  refine list_pure E rfl rfl (by decide) (by first | exact rn_fieldAddr0 (q := 1) E rfl rfl rfl | exact rn_fieldAddr (q := 1) E rfl rfl rfl) ?_; clear E a; intro a E
  refine list_pure E rfl rfl (by decide) (by first | exact rn_load E rfl rfl rfl (S.get (by repeat (first | exact pk1 | apply pick_tail))) rfl | exact rn_loadc E rfl rfl rfl (by assumption)) ?_; clear E a; intro a E
  refine list_pure E rfl rfl (by decide) (by first | exact rn_len E rfl rfl rfl | exact rn_len_str E rfl rfl rfl | exact rn_len_string E rfl rfl rfl) ?_; clear E a; intro a E
  refine list_pure E rfl rfl (by decide) (by first | exact rn_convert E rfl rfl rfl rfl (by first | exact wu8 _ | exact w_nat (by omega) | exact w_natu (by omega) | exact w_in (by omega) | exact w_inu (by omega) | exact rfl) | exact rn_string E rfl rfl rfl rfl rfl (by assumption) (S.stab.at (by simp))) ?_; clear E a; intro a E
  refine list_call E rfl rfl (by decide) rfl Tryd.func59 rfl (by kernel_rfl) rfl (num_fit p room _ A4 _ hA4 l.tops.length 1 (S.hp.sel (sel_cons (by repeat (first | exact pk1 | apply pick_tail)) (sel_nil _))) hr (by omega) (by omega) (by omega) (by simp only [List.length_append, formOf_length]; omega)) ?_
  rintro v29 w ⟨A5, hA5, hT⟩; clear E a; intro a E
  have S := S.call1 (sel_cons (by repeat (first | exact pk1 | apply pick_tail)) (sel_nil _)) hT; rw [← hH] at hA5
  refine wpList_nil ?_
  refine then_k hK ?_; clear hK; clear K
  refine wp_seq_k ?_; intro K hK
  replace E := E.keep (e' := [(0, _), (3, _)]) (keep_cons rfl (keep_cons rfl (keep_nil)))
  refine region_list ?_
  refine list_pure E rfl rfl (by decide) (by first | exact rn_fieldAddr0 (q := 1) E rfl rfl rfl | exact rn_fieldAddr (q := 1) E rfl rfl rfl) ?_; clear E a; intro a E
  refine list_pure E rfl rfl (by decide) (by first | exact rn_load E rfl rfl rfl (S.get (by repeat (first | exact pk1 | apply pick_tail))) rfl | exact rn_loadc E rfl rfl rfl (by assumption)) ?_; clear E a; intro a E
  refine list_pure E rfl rfl (by decide) (by first | exact rn_len E rfl rfl rfl | exact rn_len_str E rfl rfl rfl | exact rn_len_string E rfl rfl rfl) ?_; clear E a; intro a E
  refine list_pure E rfl rfl (by decide) (rn_move E rfl rfl) ?_; clear E a; intro a E
  refine wpList_nil ?_
  refine then_k hK ?_; clear hK; clear K
  refine wp_block ?_
  refine wp_loop_ghost (fun (m : Nat) (a : Act) (w' : World) => ∃ (i : Nat) (A' : Chunk), m = l.tops.length - i ∧ i ≤ l.tops.length ∧ WrC 104 p ⟨room, lbH l ++ (l.tops.take i).flatMap tpB, 0⟩ A' ∧ (∃ Ls, St w0 [A, O] w' (A' :: O :: Ls)) ∧ Fr a 53 [(0, ptr p), (31, .slice (some ⟨g, off, none⟩) l.tops.length c), (32, .int .i64 l.tops.length), (33, .int .i64 i)]) (l.tops.length - 0) ?_ ?_
  · exact ⟨0, A5, rfl, by omega, by simpa using hA5, ⟨_, S.front2 (by repeat (first | exact pk1 | apply pick_tail)) (B := O) (by repeat (first | exact pk1 | apply pick_tail))⟩, E.keep (keep_cons rfl (keep_cons rfl (keep_cons rfl (keep_cons rfl keep_nil))))⟩
  clear E; clear a; (try clear S); rintro m a w ⟨i, A', rfl, hi, hA', ⟨Ls, S⟩, E⟩
  refine wp_seq_k ?_; intro K hK
  refine region_list ?_
  refine list_pure E rfl rfl (by decide) (rn_lss E rfl rfl rfl) ?_; clear E a; intro a E
  refine wpList_nil ?_
  refine then_k hK ?_; clear hK; clear K
  refine wp_seq_k ?_; intro K hK
  refine if_bool E rfl (fun hb => ?_) (fun hb => ?_)
  · replace hb := Nrm.nrm hb
    refine wp_skip ?_
    refine then_k hK ?_; clear hK; clear K
    refine wp_seq_k ?_; intro K hK
    refine wp_block ?_
    refine wp_seq_k ?_; intro K hK
    have hib : i < l.tops.length := by omega
    have hmd := hmm _ (List.getElem_mem hib)
    obtain ⟨t, ht⟩ : ∃ t, t = l.tops[i] := ⟨_, rfl⟩
    have hst := tops_take_succ l.tops hib
    rw [← ht] at hmd hst
    have htl := tops_len (l.tops.take i)
    rw [List.length_take, Nat.min_eq_left (by omega)] at htl
    unfold Tp.made at hmd
    obtain ⟨kn, hkn⟩ : ∃ n : Nat, t.kind = n := ⟨t.kind.toNat, by omega⟩
    obtain ⟨vn, hvn⟩ : ∃ n : Nat, t.leaves = n := ⟨t.leaves.toNat, by omega⟩
    obtain ⟨sn, hsn⟩ : ∃ n : Nat, t.sectors = n := ⟨t.sectors.toNat, by omega⟩
    have hB : tpB t = formOf kn 1 ++ formOf vn 1 ++ formOf sn 4 := by simp [tpB, hkn, hvn, hsn]
    refine region_list ?_
    refine list_pure E rfl rfl (by decide) (by first | exact rn_indexAddr1 E rfl rfl rfl rfl rfl rfl (by omega) | exact rn_indexAddr E rfl rfl rfl rfl rfl rfl (by omega) | exact rn_indexAddr_array E rfl rfl rfl rfl rfl rfl (by omega)) ?_; clear E a; intro a E
    refine list_pure E rfl rfl (by decide) (rn_load_aggc (vs := [_, _, _]) E rfl rfl rfl rfl (hO.elem (lay := Tp.lay) Tp.lay_len (S.stab.at (by repeat (first | exact mm1 | apply List.Mem.tail))) (i := i) hib)) ?_; clear E a; intro a E
    rw [← ht, hkn, hvn, hsn] at E
    refine list_wp rfl (wp_alloc E S rfl rfl (by decide) rfl rfl rfl ?_); clear E S a; intro a w b5 E S
    refine list_wp rfl (wp_storeN E S rfl rfl rfl rfl (by simp [Value.oneCell']) rfl (by repeat (first | exact pk1 | apply pick_tail)) (by simp) ?_); clear E S a; intro a w E S; simp only [List.take_succ_cons, List.take_zero, List.drop_succ_cons, List.drop_zero, List.cons_append, List.nil_append, List.append_nil, List.length_cons, List.length_nil, Nat.zero_add, Nat.add_zero] at S
    refine wpList_nil ?_
    refine then_k hK ?_; clear hK; clear K
    refine wp_seq_k ?_; intro K hK
    refine region_list ?_
    refine list_pure E rfl rfl (by decide) (rn_move E rfl rfl) ?_; clear E a; intro a E
    refine list_pure E rfl rfl (by decide) (by first | exact rn_fieldAddr0 (q := 0) E rfl rfl rfl | exact rn_fieldAddr (q := 0) E rfl rfl rfl) ?_; clear E a; intro a E
    refine list_pure E rfl rfl (by decide) (by first | exact rn_load E rfl rfl rfl (S.get (by repeat (first | exact pk1 | apply pick_tail))) rfl | exact rn_loadc E rfl rfl rfl (by assumption)) ?_; clear E a; intro a E
    refine list_pure E rfl rfl (by decide) (by first | exact rn_convert E rfl rfl rfl rfl (by first | exact wu8 _ | exact w_nat (by omega) | exact w_natu (by omega) | exact w_in (by omega) | exact w_inu (by omega) | exact rfl) | exact rn_string E rfl rfl rfl rfl rfl (by assumption) (S.stab.at (by simp))) ?_; clear E a; intro a E
    refine list_call E rfl rfl (by decide) rfl Tryd.func59 rfl (by kernel_rfl) rfl (num_fit p room _ A' _ hA' kn 1 (S.hp.sel (sel_cons (by repeat (first | exact pk1 | apply pick_tail)) (sel_nil _))) hr (by omega) (by omega) (by omega) (by simp only [List.length_append, formOf_length]; omega)) ?_
    rintro v41 w ⟨B1, hB1, hT⟩; clear E a; intro a E
    have S := S.call1 (sel_cons (by repeat (first | exact pk1 | apply pick_tail)) (sel_nil _)) hT
    refine wpList_nil ?_
    refine then_k hK ?_; clear hK; clear K
    refine wp_seq_k ?_; intro K hK
    refine region_list ?_
    refine list_pure E rfl rfl (by decide) (rn_move E rfl rfl) ?_; clear E a; intro a E
    refine list_pure E rfl rfl (by decide) (by first | exact rn_fieldAddr0 (q := 1) E rfl rfl rfl | exact rn_fieldAddr (q := 1) E rfl rfl rfl) ?_; clear E a; intro a E
    refine list_pure E rfl rfl (by decide) (by first | exact rn_load E rfl rfl rfl (S.get (by repeat (first | exact pk1 | apply pick_tail))) rfl | exact rn_loadc E rfl rfl rfl (by assumption)) ?_; clear E a; intro a E
    refine list_pure E rfl rfl (by decide) (by first | exact rn_convert E rfl rfl rfl rfl (by first | exact wu8 _ | exact w_nat (by omega) | exact w_natu (by omega) | exact w_in (by omega) | exact w_inu (by omega) | exact rfl) | exact rn_string E rfl rfl rfl rfl rfl (by assumption) (S.stab.at (by simp))) ?_; clear E a; intro a E
    refine list_call E rfl rfl (by decide) rfl Tryd.func59 rfl (by kernel_rfl) rfl (num_fit p room _ B1 _ hB1 vn 1 (S.hp.sel (sel_cons (by repeat (first | exact pk1 | apply pick_tail)) (sel_nil _))) hr (by omega) (by omega) (by omega) (by simp only [List.length_append, formOf_length]; omega)) ?_
    rintro v46 w ⟨B2, hB2, hT⟩; clear E a; intro a E
    have S := S.call1 (sel_cons (by repeat (first | exact pk1 | apply pick_tail)) (sel_nil _)) hT
    refine wpList_nil ?_
    refine then_k hK ?_; clear hK; clear K
    refine region_list ?_
    refine list_pure E rfl rfl (by decide) (rn_move E rfl rfl) ?_; clear E a; intro a E
    refine list_pure E rfl rfl (by decide) (by first | exact rn_fieldAddr0 (q := 2) E rfl rfl rfl | exact rn_fieldAddr (q := 2) E rfl rfl rfl) ?_; clear E a; intro a E
    refine list_pure E rfl rfl (by decide) (by first | exact rn_load E rfl rfl rfl (S.get (by repeat (first | exact pk1 | apply pick_tail))) rfl | exact rn_loadc E rfl rfl rfl (by assumption)) ?_; clear E a; intro a E
    refine list_pure E rfl rfl (by decide) (by first | exact rn_convert E rfl rfl rfl rfl (by first | exact wu8 _ | exact w_nat (by omega) | exact w_natu (by omega) | exact w_in (by omega) | exact w_inu (by omega) | exact rfl) | exact rn_string E rfl rfl rfl rfl rfl (by assumption) (S.stab.at (by simp))) ?_; clear E a; intro a E
    refine list_call E rfl rfl (by decide) rfl Tryd.func59 rfl (by kernel_rfl) rfl (num_fit p room _ B2 _ hB2 sn 4 (S.hp.sel (sel_cons (by repeat (first | exact pk1 | apply pick_tail)) (sel_nil _))) hr (by omega) (by omega) (by omega) (by simp only [List.length_append, formOf_length]; omega)) ?_
    rintro v51 w ⟨B3, hB3, hT⟩; clear E a; intro a E
    have S := S.call1 (sel_cons (by repeat (first | exact pk1 | apply pick_tail)) (sel_nil _)) hT
    refine wpList_nil ?_
    refine in_normal ?_
    refine then_k hK ?_; clear hK; clear K
    refine region_list ?_
    refine list_pure E rfl rfl (by decide) (rn_add E rfl rfl rfl (by first | exact wa_lit (y := 1) (by omega) | exact w_in (by omega) | exact w_inu (by omega) | exact rfl)) ?_; clear E a; intro a E
    refine list_pure E rfl rfl (by decide) (rn_move E rfl rfl) ?_; clear E a; intro a E
    refine wpList_nil ?_
    refine then_normal ?_
    exact ⟨_, by omega, i + 1, B3, rfl, by omega, by rw [hst, hB]; simpa using hB3, ⟨_, S.front2 (by repeat (first | exact pk1 | apply pick_tail)) (B := O) (by repeat (first | exact pk1 | apply pick_tail))⟩, E.keep (keep_cons rfl (keep_cons rfl (keep_cons rfl (keep_cons rfl keep_nil))))⟩
  · replace hb := Nrm.nrm hb
    refine wp_exit ?_
    refine then_exit ?_; clear hK; clear K
    refine then_exit ?_
    refine in_exit ?_
    refine end0 E rfl ?_
    obtain rfl : i = l.tops.length := by omega
    rw [List.take_length] at hA'
    exact ⟨_, rfl, A', hA', (S.only (Bs := [A', O]) (sel_cons (by repeat (first | exact pk1 | apply pick_tail)) (sel_cons (by repeat (first | exact pk1 | apply pick_tail)) (sel_nil _)))).tr⟩

theorem laidlb_ret (O : Chunk) (v : Value) (l : Lbl) (hO : Rd O 3 v l.tops.length (l.tops.flatMap Tp.lay)) (ho : l.Ok) (w0 : World) (H : Hp w0 [O]) :
    Ret Tryd.prog 36 #[lbagg l v, .func (.func 18) #[] #[], .int .i64 96, .func (.func 37) #[] #[]] w0 fun u w' => ∃ v C, u = .tuple #[v, .int .i64 (lbE l)] ∧ Buf C 5 1 v (lbP l).length (byt (lbP l)) ∧ Trs w0 w' [O] [C, O] := by
  have S := St.begin H
  refine enter4 31 Tryd.func36 rfl rfl (by decide) ?_; intro a E
  refine wp_seq_k ?_; intro K hK
  refine region_list ?_
  refine list_wp rfl (wp_box E S rfl rfl (by decide) rfl rfl ?_); clear E S a; intro a w b4 E S
  refine list_pure E rfl rfl (by decide) (rn_assign E rfl rfl) ?_; clear E a; intro a E
  refine list_pure E rfl rfl (by decide) (rn_assign E rfl rfl) ?_; clear E a; intro a E
  refine wpList_nil ?_
  refine then_k hK ?_; clear hK; clear K
  refine wp_seq_k ?_; intro K hK
  refine wp_seq_k ?_; intro K hK
  refine region_list ?_
  refine list_pure E rfl rfl (by decide) (rn_move E rfl rfl) ?_; clear E a; intro a E
  refine list_pure E rfl rfl (by decide) (rn_load_blk (vs := [_, _, _, _]) E rfl rfl rfl (S.get (by repeat (first | exact pk1 | apply pick_tail))) rfl rfl) ?_; clear E a; intro a E
  refine list_callc E rfl rfl (by decide) rfl rfl Tryd.func18 rfl (by kernel_rfl) rfl (lbcheck_ret O v l hO _ (S.hp.sel (sel_cons (by repeat (first | exact pk1 | apply pick_tail)) (sel_nil _)))) ?_
  rintro v14 w ⟨rfl, hT⟩; clear E a; intro a E
  have S := S.call1 (sel_cons (by repeat (first | exact pk1 | apply pick_tail)) (sel_nil _)) hT
  refine list_pure E rfl rfl (by decide) (rn_assign E rfl rfl) ?_; clear E a; intro a E
  refine wpList_nil ?_
  refine then_k hK ?_; clear hK; clear K
  refine wp_seq_k ?_; intro K hK
  refine region_list ?_
  refine list_pure E rfl rfl (by decide) (rn_move E rfl rfl) ?_; clear E a; intro a E
  refine list_pure E rfl rfl (by decide) (by first | exact rn_neq E rfl rfl rfl | exact rn_neq_ptr_nil E rfl rfl rfl rfl | exact rn_neq_bool E rfl rfl rfl rfl | exact rn_neq_string E rfl rfl rfl) ?_; clear E a; intro a E
  refine wpList_nil ?_
  refine then_k hK ?_; clear hK; clear K
  refine if_bool E rfl (fun hb => ?_) (fun hb => ?_)
  · replace hb := Nrm.nrm hb
    refine wp_seq_k ?_; intro K hK
    refine region_list ?_
    refine list_pure E rfl rfl (by decide) (rn_move E rfl rfl) ?_; clear E a; intro a E
    refine list_pure E rfl rfl (by decide) (rn_assign E rfl rfl) ?_; clear E a; intro a E
    refine list_pure E rfl rfl (by decide) (rn_assign E rfl rfl) ?_; clear E a; intro a E
    refine wpList_nil ?_
    refine then_k hK ?_; clear hK; clear K
    refine wp_ret ?_
    refine then_ret ?_; clear hK; clear K
    refine ret2 E rfl rfl rfl ?_
    exact ⟨_, rfl, _, [], rfl, by rw [lbP_no hb]; exact Buf.nil _ _, by have h := (S.addNil.only (Bs := [[], O]) (sel_cons (by repeat (first | exact pk1 | apply pick_tail)) (sel_cons (by repeat (first | exact pk1 | apply pick_tail)) (sel_nil _)))).tr; exact h⟩
  · replace hb := Nrm.nrm hb
    refine wp_skip ?_
    refine then_k hK ?_; clear hK; clear K
    refine wp_seq_k ?_; intro K hK
    have hpe := hb
    have hsm := lbB_small hb
    have hp96 : (pad96 (lbB l)).length = 96 := pad96_length (by omega)
    refine region_list ?_
    refine list_pure E rfl rfl (by decide) (rn_move E rfl rfl) ?_; clear E a; intro a E
    refine list_call E rfl rfl (by decide) rfl Tryd.func56 rfl (by kernel_rfl) rfl (writer_ret 96 _) ?_
    rintro v19 w ⟨p, A, rfl, hA, hT⟩; clear E a; intro a E
    have S := S.fresh hT; have hA : WrC 104 p ⟨96, [], 0⟩ A := hA
    refine list_pure E rfl rfl (by decide) (rn_assign E rfl rfl) ?_; clear E a; intro a E
    refine wpList_nil ?_
    refine then_k hK ?_; clear hK; clear K
    refine wp_seq_k ?_; intro K hK
    refine region_list ?_
    refine list_pure E rfl rfl (by decide) (rn_move E rfl rfl) ?_; clear E a; intro a E
    refine list_pure E rfl rfl (by decide) (rn_move E rfl rfl) ?_; clear E a; intro a E
    refine list_pure E rfl rfl (by decide) (rn_load_blk (vs := [_, _, _, _]) E rfl rfl rfl (S.get (by repeat (first | exact pk1 | apply pick_tail))) rfl rfl) ?_; clear E a; intro a E
    refine list_callc E rfl rfl (by decide) rfl rfl Tryd.func37 rfl (by kernel_rfl) rfl (laylb_ret p 96 A O v l hO ho hpe _ hA (S.hp.sel (sel_cons (by repeat (first | exact pk1 | apply pick_tail)) (sel_cons (by repeat (first | exact pk1 | apply pick_tail)) (sel_nil _)))) (by omega) (by omega)) ?_
    rintro v23 w ⟨A1, hA1, hT⟩; clear E a; intro a E
    have S := S.call2 (sel_cons (by repeat (first | exact pk1 | apply pick_tail)) (sel_cons (by repeat (first | exact pk1 | apply pick_tail)) (sel_nil _))) hT
    refine wpList_nil ?_
    refine then_k hK ?_; clear hK; clear K
    refine wp_seq_k ?_; intro K hK
    refine region_list ?_
    refine list_pure E rfl rfl (by decide) (rn_move E rfl rfl) ?_; clear E a; intro a E
    refine list_pure E rfl rfl (by decide) (rn_move E rfl rfl) ?_; clear E a; intro a E
    refine list_call E rfl rfl (by decide) rfl Tryd.func57 rfl (by kernel_rfl) rfl (pad_fit p 96 _ A1 _ hA1 96 (S.hp.sel (sel_cons (by repeat (first | exact pk1 | apply pick_tail)) (sel_nil _))) (by omega) (by omega) (by omega)) ?_
    rintro v26 w ⟨A2, hA2, hT⟩; clear E a; intro a E
    have S := S.call1 (sel_cons (by repeat (first | exact pk1 | apply pick_tail)) (sel_nil _)) hT; have hA2 : WrC 104 p ⟨96, pad96 (lbB l), 0⟩ A2 := hA2
    refine wpList_nil ?_
    refine then_k hK ?_; clear hK; clear K
    refine wp_seq_k ?_; intro K hK
    refine region_list ?_
    refine list_pure E rfl rfl (by decide) (rn_move E rfl rfl) ?_; clear E a; intro a E
    refine list_call E rfl rfl (by decide) rfl Tryd.func58 rfl (by kernel_rfl) rfl (done_fit p 96 _ A2 _ hA2 (S.hp.sel (sel_cons (by repeat (first | exact pk1 | apply pick_tail)) (sel_nil _))) (by omega)) ?_
    rintro v28 w ⟨g, rfl, hT⟩; clear E a; intro a E
    have S := S.call2 (sel_cons (by repeat (first | exact pk1 | apply pick_tail)) (sel_nil _)) hT
    refine list_pure E rfl rfl (by decide) (rn_extract E rfl rfl rfl) ?_; clear E a; intro a E
    refine list_pure E rfl rfl (by decide) (rn_extract E rfl rfl rfl) ?_; clear E a; intro a E
    refine list_pure E rfl rfl (by decide) (rn_assign E rfl rfl) ?_; clear E a; intro a E
    refine list_pure E rfl rfl (by decide) (rn_assign E rfl rfl) ?_; clear E a; intro a E
    refine wpList_nil ?_
    refine then_k hK ?_; clear hK; clear K
    refine wp_ret ?_
    refine ret2 E rfl rfl rfl ?_
    exact ⟨_, rfl, _, _, by rw [hpe], by rw [lbP_ok hpe]; exact buf_bytes g (pad96 (lbB l)) _ (by omega), (S.only (Bs := [[(g, _)], O]) (sel_cons pk1 (sel_cons (by repeat (first | exact pk1 | apply pick_tail)) (sel_nil _)))).tr⟩

theorem lbencode_ret (O : Chunk) (v : Value) (l : Lbl) (hO : Rd O 3 v l.tops.length (l.tops.flatMap Tp.lay)) (ho : l.Ok) (w0 : World) (H : Hp w0 [O]) :
    Ret Tryd.prog 15 #[lbagg l v] w0 fun u w' => ∃ v C, u = .tuple #[v, .int .i64 (lbE l)] ∧ Buf C 5 1 v (lbO l).length (byt (lbO l)) ∧ Trs w0 w' [O] [C, O] := by
  have S := St.begin H
  refine enter1 11 Tryd.func15 rfl rfl (by decide) ?_; intro a E
  refine wp_seq_k ?_; intro K hK
  refine region_list ?_
  refine list_wp rfl (wp_box E S rfl rfl (by decide) rfl rfl ?_); clear E S a; intro a w b1 E S
  refine list_pure E rfl rfl (by decide) (rn_assign E rfl rfl) ?_; clear E a; intro a E
  refine list_pure E rfl rfl (by decide) (rn_assign E rfl rfl) ?_; clear E a; intro a E
  refine wpList_nil ?_
  refine then_k hK ?_; clear hK; clear K
  refine wp_seq_k ?_; intro K hK
  refine region_list ?_
  refine list_pure E rfl rfl (by decide) (rn_load_blk (vs := [_, _, _, _]) E rfl rfl rfl (S.get (by repeat (first | exact pk1 | apply pick_tail))) rfl rfl) ?_; clear E a; intro a E
  refine list_call E rfl rfl (by decide) rfl Tryd.func36 rfl (by kernel_rfl) rfl (laidlb_ret O v l hO ho _ (S.hp.sel (sel_cons (by repeat (first | exact pk1 | apply pick_tail)) (sel_nil _)))) ?_
  rintro v5 w ⟨x, C, rfl, hC, hT⟩; clear E a; intro a E
  have S := S.call2 (sel_cons (by repeat (first | exact pk1 | apply pick_tail)) (sel_nil _)) hT
  refine list_pure E rfl rfl (by decide) (rn_extract E rfl rfl rfl) ?_; clear E a; intro a E
  refine list_pure E rfl rfl (by decide) (rn_extract E rfl rfl rfl) ?_; clear E a; intro a E
  by_cases hz : lbE l = 0
  · skip
    rw [hz] at E
    have hsm := lbB_small hz
    have hpl : (pad96 (lbB l)).length = 96 := pad96_length (by omega)
    rw [lbP_ok hz] at hC
    refine list_call E rfl rfl (by decide) rfl Tryd.func35 rfl (by kernel_rfl) rfl (whole_ret C x (pad96 (lbB l)) hC.rd hpl _ (S.hp.sel (sel_cons (by repeat (first | exact pk1 | apply pick_tail)) (sel_nil _)))) ?_
    rintro v8 w ⟨g, rfl, hT⟩; clear E a; intro a E
    have S := S.call2 (sel_cons (by repeat (first | exact pk1 | apply pick_tail)) (sel_nil _)) hT
    refine list_pure E rfl rfl (by decide) (rn_extract E rfl rfl rfl) ?_; clear E a; intro a E
    refine list_pure E rfl rfl (by decide) (rn_extract E rfl rfl rfl) ?_; clear E a; intro a E
    refine list_pure E rfl rfl (by decide) (rn_assign E rfl rfl) ?_; clear E a; intro a E
    refine list_pure E rfl rfl (by decide) (rn_assign E rfl rfl) ?_; clear E a; intro a E
    refine wpList_nil ?_
    refine then_k hK ?_; clear hK; clear K
    refine wp_ret ?_
    refine ret2 E rfl rfl rfl ?_
    have hwl : (whole (lbB l)).length = 128 := whole_length (by omega)
    have hB := buf_bytes g (whole (lbB l)) 5 (by omega)
    rw [hwl] at hB
    exact ⟨_, rfl, _, _, by rw [hz], by rw [lbO_ok hz, hwl]; exact hB, (S.only (Bs := [[(g, _)], O]) (sel_cons pk1 (sel_cons (by repeat (first | exact pk1 | apply pick_tail)) (sel_nil _)))).tr⟩
  · skip
    refine list_call E rfl rfl (by decide) rfl Tryd.func35 rfl (by kernel_rfl) rfl (wholeno_ret x _ hz _) ?_
    rintro v8 w ⟨rfl, hT⟩; clear E a; intro a E
    have S := S.quiet hT
    refine list_pure E rfl rfl (by decide) (rn_extract E rfl rfl rfl) ?_; clear E a; intro a E
    refine list_pure E rfl rfl (by decide) (rn_extract E rfl rfl rfl) ?_; clear E a; intro a E
    refine list_pure E rfl rfl (by decide) (rn_assign E rfl rfl) ?_; clear E a; intro a E
    refine list_pure E rfl rfl (by decide) (rn_assign E rfl rfl) ?_; clear E a; intro a E
    refine wpList_nil ?_
    refine then_k hK ?_; clear hK; clear K
    refine wp_ret ?_
    refine ret2 E rfl rfl rfl ?_
    exact ⟨_, rfl, _, [], rfl, by rw [lbO_no hz]; exact Buf.nil _ _, (S.addNil.only (Bs := [[], O]) (sel_cons (by repeat (first | exact pk1 | apply pick_tail)) (sel_cons (by repeat (first | exact pk1 | apply pick_tail)) (sel_nil _)))).tr⟩

theorem rnum_bad (p : Nat) (s : Rdr) (A : Chunk) (w0 : World) (hA : RdC 114 p s A) (he : s.e ≠ 0) (H : Hp w0 [A]) (k : Int) :
    Ret Tryd.prog 69 #[ptr p, .int .i64 k] w0 fun u w' => ∃ A', u = .int .u64 ((0 : Nat) : Int) ∧ RdC 114 p s A' ∧ Trs w0 w' [A] [A'] := by
  refine (rnum_ret p s A w0 hA H k).mono fun v w' ⟨A', h, h2, hT⟩ => ?_
  rw [rnum_err he] at h h2
  exact ⟨A', h, h2, hT⟩

theorem takelb_ret (p : Nat) (b : List UInt8) (A : Chunk) (w0 : World) (hA : RdC 114 p ⟨b, 0, 0⟩ A) (H : Hp w0 [A]) (hl : b.length = 96) :
    Ret Tryd.prog 52 #[ptr p] w0 fun u w' => ∃ A' v C l s, u = lbagg l v ∧ Buf C 39 3 v l.tops.length (l.tops.flatMap Tp.lay) ∧ RdC 114 p s A' ∧ Trs w0 w' [A] [A', C] ∧ (4 < nm b 14 1 → s.e ≠ 0) ∧ (nm b 14 1 ≤ 4 → l = lbAt b ∧ s = ⟨b, 15 + 6 * nm b 14 1, 0⟩) := by
  have S := St.begin H
  have e1 := p1
  have e4 := p4
  have e8 := p8
  have c2 : numOf ((b.drop 12).take 1) < 256 ^ 1 := nm_lt b 12 1
  have c3 : numOf ((b.drop 13).take 1) < 256 ^ 1 := nm_lt b 13 1
  have c4 : numOf ((b.drop 14).take 1) < 256 ^ 1 := nm_lt b 14 1
  refine enter1 44 Tryd.func52 rfl rfl (by decide) ?_; intro a E
  refine wp_seq_k ?_; intro K hK
  refine region_list ?_
  refine list_wp rfl (wp_alloc E S rfl rfl (by decide) rfl rfl rfl ?_); clear E S a; intro a w b2 E S
  refine wpList_nil ?_
  refine then_k hK ?_; clear hK; clear K
  refine wp_seq_k ?_; intro K hK
  refine region_list ?_
  refine list_pure E rfl rfl (by decide) (rn_move E rfl rfl) ?_; clear E a; intro a E
  refine list_call E rfl rfl (by decide) rfl Tryd.func72 rfl (by kernel_rfl) rfl (rbytes_fit p b 0 A _ hA (S.hp.sel (sel_cons (by repeat (first | exact pk1 | apply pick_tail)) (sel_nil _))) 4 (by omega) (by omega)) ?_
  rintro v6 w ⟨A1, C1, hA1, hT, hC1⟩; clear E a; intro a E
  have S := S.call2 (sel_cons (by repeat (first | exact pk1 | apply pick_tail)) (sel_nil _)) hT
  refine wpList_nil ?_
  refine then_k hK ?_; clear hK; clear K
  refine wp_seq_k ?_; intro K hK
  refine region_list ?_
  refine list_pure E rfl rfl (by decide) (rn_move E rfl rfl) ?_; clear E a; intro a E
  refine list_call E rfl rfl (by decide) rfl Tryd.func69 rfl (by kernel_rfl) rfl (rnum_fit p b 4 A1 _ hA1 (S.hp.sel (sel_cons (by repeat (first | exact pk1 | apply pick_tail)) (sel_nil _))) 8 (by omega) (by omega) (by omega)) ?_
  rintro v8 w ⟨A2, rfl, hA2, hT⟩; clear E a; intro a E
  have S := S.call1 (sel_cons (by repeat (first | exact pk1 | apply pick_tail)) (sel_nil _)) hT
  refine list_pure E rfl rfl (by decide) (rn_move E rfl rfl) ?_; clear E a; intro a E
  refine list_call E rfl rfl (by decide) rfl Tryd.func69 rfl (by kernel_rfl) rfl (rnum_fit p b 12 A2 _ hA2 (S.hp.sel (sel_cons (by repeat (first | exact pk1 | apply pick_tail)) (sel_nil _))) 1 (by omega) (by omega) (by omega)) ?_
  rintro v10 w ⟨A3, rfl, hA3, hT⟩; clear E a; intro a E
  have S := S.call1 (sel_cons (by repeat (first | exact pk1 | apply pick_tail)) (sel_nil _)) hT
  refine list_pure E rfl rfl (by decide) (by first | exact rn_convert E rfl rfl rfl rfl (by first | exact wu8 _ | exact w_nat (by omega) | exact w_natu (by omega) | exact w_in (by omega) | exact w_inu (by omega) | exact rfl) | exact rn_string E rfl rfl rfl rfl rfl (by assumption) (S.stab.at (by simp))) ?_; clear E a; intro a E
  refine list_pure E rfl rfl (by decide) (rn_move E rfl rfl) ?_; clear E a; intro a E
  refine list_call E rfl rfl (by decide) rfl Tryd.func69 rfl (by kernel_rfl) rfl (rnum_fit p b 13 A3 _ hA3 (S.hp.sel (sel_cons (by repeat (first | exact pk1 | apply pick_tail)) (sel_nil _))) 1 (by omega) (by omega) (by omega)) ?_
  rintro v13 w ⟨A4, rfl, hA4, hT⟩; clear E a; intro a E
  have S := S.call1 (sel_cons (by repeat (first | exact pk1 | apply pick_tail)) (sel_nil _)) hT
  refine list_pure E rfl rfl (by decide) (by first | exact rn_convert E rfl rfl rfl rfl (by first | exact wu8 _ | exact w_nat (by omega) | exact w_natu (by omega) | exact w_in (by omega) | exact w_inu (by omega) | exact rfl) | exact rn_string E rfl rfl rfl rfl rfl (by assumption) (S.stab.at (by simp))) ?_; clear E a; intro a E
  refine list_pure E rfl rfl (by decide) (rn_build (cells := [_, _, _, _]) E rfl rfl rfl) ?_; clear E a; intro a E
  refine list_wp rfl (wp_alloc E S rfl rfl (by decide) rfl rfl rfl ?_); clear E S a; intro a w b3 E S
  refine list_wp rfl (wp_storeN E S rfl rfl rfl rfl (by simp [Value.oneCell']) rfl (by repeat (first | exact pk1 | apply pick_tail)) (by simp) ?_); clear E S a; intro a w E S; simp only [List.take_succ_cons, List.take_zero, List.drop_succ_cons, List.drop_zero, List.cons_append, List.nil_append, List.append_nil, List.length_cons, List.length_nil, Nat.zero_add, Nat.add_zero] at S
  refine wpList_nil ?_
  refine then_k hK ?_; clear hK; clear K
  refine wp_seq_k ?_; intro K hK
  refine region_list ?_
  refine list_pure E rfl rfl (by decide) (rn_move E rfl rfl) ?_; clear E a; intro a E
  refine list_call E rfl rfl (by decide) rfl Tryd.func69 rfl (by kernel_rfl) rfl (rnum_fit p b 14 A4 _ hA4 (S.hp.sel (sel_cons (by repeat (first | exact pk1 | apply pick_tail)) (sel_nil _))) 1 (by omega) (by omega) (by omega)) ?_
  rintro v17 w ⟨A5, rfl, hA5, hT⟩; clear E a; intro a E
  have S := S.call1 (sel_cons (by repeat (first | exact pk1 | apply pick_tail)) (sel_nil _)) hT
  obtain ⟨mn, hmn⟩ : ∃ mn, mn = numOf ((b.drop 14).take 1) := ⟨_, rfl⟩
  rw [← hmn] at E c4
  refine list_pure E rfl rfl (by decide) (by first | exact rn_convert E rfl rfl rfl rfl (by first | exact wu8 _ | exact w_nat (by omega) | exact w_natu (by omega) | exact w_in (by omega) | exact w_inu (by omega) | exact rfl) | exact rn_string E rfl rfl rfl rfl rfl (by assumption) (S.stab.at (by simp))) ?_; clear E a; intro a E
  refine list_pure E rfl rfl (by decide) (rn_assign E rfl rfl) ?_; clear E a; intro a E
  refine wpList_nil ?_
  refine then_k hK ?_; clear hK; clear K
  refine wp_seq_k ?_; intro K hK
  refine wp_seq_k ?_; intro K hK
  refine region_list ?_
  refine list_pure E rfl rfl (by decide) (rn_move E rfl rfl) ?_; clear E a; intro a E
  refine list_pure E rfl rfl (by decide) (rn_gtr E rfl rfl rfl) ?_; clear E a; intro a E
  refine wpList_nil ?_
  refine then_k hK ?_; clear hK; clear K
  refine if_bool E rfl (fun hb => ?_) (fun hb => ?_)
  · replace hb := Nrm.nrm hb
    have hbig : 4 < mn := (by omega)
    refine region_list ?_
    refine list_pure E rfl rfl (by decide) (rn_move E rfl rfl) ?_; clear E a; intro a E
    refine list_call E rfl rfl (by decide) rfl Tryd.func69 rfl (by kernel_rfl) rfl (rnum_ret p _ A5 _ hA5 (S.hp.sel (sel_cons (by repeat (first | exact pk1 | apply pick_tail)) (sel_nil _))) 0) ?_
    rintro v22 w ⟨A6, rfl, hA6, hT⟩; clear E a; intro a E
    have S := S.call1 (sel_cons (by repeat (first | exact pk1 | apply pick_tail)) (sel_nil _)) hT
    obtain ⟨s0, hs0⟩ : ∃ s0, s0 = ((Rdr.mk b (14 + 1) 0).num 0).2 := ⟨_, rfl⟩
    rw [← hs0] at hA6
    have he : s0.e ≠ 0 := by rw [hs0]; simp [Rdr.num]
    refine wpList_nil ?_
    refine then_k hK ?_; clear hK; clear K
    refine wp_seq_k ?_; intro K hK
    refine wp_seq_k ?_; intro K hK
    refine region_list ?_
    refine list_pure E rfl rfl (by decide) (rn_move E rfl rfl) ?_; clear E a; intro a E
    refine list_pure E rfl rfl (by decide) (rn_min E rfl rfl rfl) ?_; clear E a; intro a E
    rw [show min ((mn : Nat) : Int) 4 = ((4 : Nat) : Int) by omega] at E
    refine list_pure E rfl rfl (by decide) (rn_move E rfl rfl) ?_; clear E a; intro a E
    refine wpList_nil ?_
    refine then_k hK ?_; clear hK; clear K
    refine wp_block ?_
    refine wp_loop_ghost (fun (m : Nat) (a : Act) (w' : World) => ∃ (i : Nat) (A' C : Chunk) (v : Value) (ts : List Tp), m = 4 - i ∧ i ≤ 4 ∧ ts.length = i ∧ Buf C 39 3 v ts.length (ts.flatMap Tp.lay) ∧ RdC 114 p s0 A' ∧ (∃ Ls, St w0 [A] w' ([(b3, cel [.int .u64 (nm b 4 8), v, .int .i64 (nm b 12 1), .int .i64 (nm b 13 1)] 37)] :: [(b2, cel [.int .u64 0, .slice none 0 0, .int .i64 0, .int .i64 0] 37)] :: A' :: C :: Ls)) ∧ Fr a 44 [(0, ptr p), (2, ptr b2), (3, ptr b3), (24, .int .i64 (4 : Nat)), (25, .int .i64 i)]) (4 - 0) ?_ ?_
    · exact ⟨0, A6, [], _, [], rfl, by omega, rfl, Buf.nil _ _, hA6, ⟨_, (S.addNil).front4 (A := [(b3, _)]) (by repeat (first | exact pk1 | apply pick_tail)) (B := [(b2, _)]) (by repeat (first | exact pk1 | apply pick_tail)) (C := A6) (by repeat (first | exact pk1 | apply pick_tail)) (D := []) (by repeat (first | exact pk1 | apply pick_tail))⟩, E.keep (keep_cons rfl (keep_cons rfl (keep_cons rfl (keep_cons rfl (keep_cons rfl keep_nil)))))⟩
    clear E; clear a; (try clear S); rintro m a w ⟨i, A', C, v, ts, rfl, hi, hts, hC, hA', ⟨Ls, S⟩, E⟩
    refine wp_seq_k ?_; intro K hK
    refine region_list ?_
    refine list_pure E rfl rfl (by decide) (rn_lss E rfl rfl rfl) ?_; clear E a; intro a E
    refine wpList_nil ?_
    refine then_k hK ?_; clear hK; clear K
    refine wp_seq_k ?_; intro K hK
    refine if_bool E rfl (fun hb => ?_) (fun hb => ?_)
    · replace hb := Nrm.nrm hb
      refine wp_skip ?_
      refine then_k hK ?_; clear hK; clear K
      refine wp_seq_k ?_; intro K hK
      refine wp_block ?_
      skip
      refine region_mix S (.ofL [(0, 0), (1, 0), (2, 0), (5, 0), (8, 0), (3, 1), (4, 0), (6, 1), (7, 0), (9, 1), (10, 0), (11, 0), (12, 1), (13, 1), (14, 0), (15, 3)]) [[(b3, cel [.int .u64 (nm b 4 8), v, .int .i64 (nm b 12 1), .int .i64 (nm b 13 1)] 37)]] (fun h => h.sub (by first | (simp; done) | (simp +contextual; done))) (by kernel_rfl) (by kernel_rfl) ?_
      clear S; intro w S
      refine mix_pure E rfl rfl rfl (by decide) (fun w h => by first | exact rn_fieldAddr0 (q := 1) E rfl rfl rfl | exact rn_fieldAddr (q := 1) E rfl rfl rfl) ?_; clear E a; intro a E
      refine mix_pure E rfl rfl rfl (by decide) (fun w h => by first | exact rn_load E rfl rfl rfl (h.one (by repeat (first | exact mm1 | apply List.Mem.tail))) rfl | exact rn_loadc E rfl rfl rfl (by assumption)) ?_; clear E a; intro a E
      refine mix_pure E rfl rfl rfl (by decide) (fun w h => rn_move E rfl rfl) ?_; clear E a; intro a E
      refine mix_pure E rfl rfl rfl (by decide) (fun w h => rn_move E rfl rfl) ?_; clear E a; intro a E
      refine mix_pure E rfl rfl rfl (by decide) (fun w h => rn_move E rfl rfl) ?_; clear E a; intro a E
      refine mix_call E rfl rfl rfl (by decide) rfl Tryd.func69 rfl (by kernel_rfl) rfl (rnum_bad p s0 A' _ hA' he (S.hp.sel (sel_cons (by repeat (first | exact pk1 | apply pick_tail)) (sel_nil _))) 1) ?_
      rintro v30 w ⟨B1, rfl, hB1, hT⟩; clear E a; intro a E
      have S := S.call1 (sel_cons (by repeat (first | exact pk1 | apply pick_tail)) (sel_nil _)) hT
      refine ⟨S.stab.sub (by first | (simp; done) | (simp +contextual; done)), ?_⟩
      refine mix_pure E rfl rfl rfl (by decide) (fun w h => by first | exact rn_convert E rfl rfl rfl rfl (by first | exact wu8 _ | exact w_nat (by omega) | exact w_natu (by omega) | exact w_in (by omega) | exact w_inu (by omega) | exact rfl) | exact rn_string E rfl rfl rfl rfl rfl (by assumption) (S.stab.at (by simp))) ?_; clear E a; intro a E
      refine mix_call E rfl rfl rfl (by decide) rfl Tryd.func69 rfl (by kernel_rfl) rfl (rnum_bad p s0 B1 _ hB1 he (S.hp.sel (sel_cons (by repeat (first | exact pk1 | apply pick_tail)) (sel_nil _))) 1) ?_
      rintro v33 w ⟨B2, rfl, hB2, hT⟩; clear E a; intro a E
      have S := S.call1 (sel_cons (by repeat (first | exact pk1 | apply pick_tail)) (sel_nil _)) hT
      refine ⟨S.stab.sub (by first | (simp; done) | (simp +contextual; done)), ?_⟩
      refine mix_pure E rfl rfl rfl (by decide) (fun w h => by first | exact rn_convert E rfl rfl rfl rfl (by first | exact wu8 _ | exact w_nat (by omega) | exact w_natu (by omega) | exact w_in (by omega) | exact w_inu (by omega) | exact rfl) | exact rn_string E rfl rfl rfl rfl rfl (by assumption) (S.stab.at (by simp))) ?_; clear E a; intro a E
      refine mix_call E rfl rfl rfl (by decide) rfl Tryd.func69 rfl (by kernel_rfl) rfl (rnum_bad p s0 B2 _ hB2 he (S.hp.sel (sel_cons (by repeat (first | exact pk1 | apply pick_tail)) (sel_nil _))) 4) ?_
      rintro v36 w ⟨B3, rfl, hB3, hT⟩; clear E a; intro a E
      have S := S.call1 (sel_cons (by repeat (first | exact pk1 | apply pick_tail)) (sel_nil _)) hT
      refine ⟨S.stab.sub (by first | (simp; done) | (simp +contextual; done)), ?_⟩
      refine mix_pure E rfl rfl rfl (by decide) (fun w h => by first | exact rn_convert E rfl rfl rfl rfl (by first | exact wu8 _ | exact w_nat (by omega) | exact w_natu (by omega) | exact w_in (by omega) | exact w_inu (by omega) | exact rfl) | exact rn_string E rfl rfl rfl rfl rfl (by assumption) (S.stab.at (by simp))) ?_; clear E a; intro a E
      refine mix_pure E rfl rfl rfl (by decide) (fun w h => rn_build (cells := [_, _, _]) E rfl rfl rfl) ?_; clear E a; intro a E
      refine mix_act rfl rfl (wp_bslice (cells := [_, _, _]) E S rfl rfl (by decide) rfl rfl rfl rfl rfl (by decide) rfl ?_); clear E S a; intro a w b39 E S; refine ⟨S.stab.sub (by first | (simp; done) | (simp +contextual; done)), ?_⟩
      refine mix_act rfl rfl (wp_append (by' := 24) E S rfl rfl (by decide) rfl rfl hC (by repeat (first | exact pk1 | apply pick_tail)) ((rd_cells (g := b39) (T := 39) (xs := (Tp.mk ((0 : Nat) : Int) ((0 : Nat) : Int) ((0 : Nat) : Int)).lay) (s := 3) (m := 1) rfl (Tp.lay_one _) (by omega) 1).src (S.stab.at (by repeat (first | exact mm1 | apply List.Mem.tail))) rfl) rfl rfl rfl rfl rfl rfl (by simp only [maxLen]; omega) (by omega) ?_); clear E S a; intro a w v40 C40 E S hB40; refine ⟨S.stab.sub (by first | (simp; done) | (simp +contextual; done)), ?_⟩
      rw [← flat_snoc] at hB40
      obtain ⟨ad4, c4', rfl⟩ := hB40.slice
      refine mix_pure E rfl rfl rfl (by decide) (fun w h => by first | exact rn_fieldAddr0 (q := 1) E rfl rfl rfl | exact rn_fieldAddr (q := 1) E rfl rfl rfl) ?_; clear E a; intro a E
      refine mix_last rfl rfl (wp_store1 E S rfl rfl rfl rfl rfl rfl (by repeat (first | exact pk1 | apply pick_tail)) (by first | exact Nat.le_of_ble_eq_true rfl | (simp; done) | (simp; omega)) ?_); clear E S a; intro a w E S; try dsimp only [List.set] at S
      refine mix_nil ?_
      refine in_normal ?_
      refine then_k hK ?_; clear hK; clear K
      refine region_list ?_
      refine list_pure E rfl rfl (by decide) (rn_add E rfl rfl rfl (by first | exact wa_lit (y := 1) (by omega) | exact w_in (by omega) | exact w_inu (by omega) | exact rfl)) ?_; clear E a; intro a E
      refine list_pure E rfl rfl (by decide) (rn_move E rfl rfl) ?_; clear E a; intro a E
      refine wpList_nil ?_
      refine then_normal ?_
      have hts' : (ts ++ [Tp.mk ((0 : Nat) : Int) ((0 : Nat) : Int) ((0 : Nat) : Int)]).length = i + 1 := by simp [hts]
      exact ⟨_, by omega, i + 1, B3, C40, _, _, rfl, by omega, hts', by rw [hts', ← hts]; exact hB40, hB3, ⟨_, S.front4 (A := [(b3, _)]) (by repeat (first | exact pk1 | apply pick_tail)) (B := [(b2, _)]) (by repeat (first | exact pk1 | apply pick_tail)) (C := B3) (by repeat (first | exact pk1 | apply pick_tail)) (D := C40) (by repeat (first | exact pk1 | apply pick_tail))⟩, E.keep (keep_cons rfl (keep_cons rfl (keep_cons rfl (keep_cons rfl (keep_cons rfl keep_nil)))))⟩
    · replace hb := Nrm.nrm hb
      refine wp_exit ?_
      refine then_exit ?_; clear hK; clear K
      refine then_exit ?_
      refine in_exit ?_
      refine then_k hK ?_; clear hK; clear K
      refine wp_seq_k ?_; intro K hK
      obtain ⟨adv, cv, rfl⟩ := hC.slice
      refine region_list ?_
      refine list_pure E rfl rfl (by decide) (rn_load_blk (vs := [_, _, _, _]) E rfl rfl rfl (S.get (by repeat (first | exact pk1 | apply pick_tail))) rfl rfl) ?_; clear E a; intro a E
      refine list_wp rfl (wp_storeN E S rfl rfl rfl rfl (by simp [Value.oneCell']) rfl (by repeat (first | exact pk1 | apply pick_tail)) (by simp) ?_); clear E S a; intro a w E S; simp only [List.take_succ_cons, List.take_zero, List.drop_succ_cons, List.drop_zero, List.cons_append, List.nil_append, List.append_nil, List.length_cons, List.length_nil, Nat.zero_add, Nat.add_zero] at S
      refine wpList_nil ?_
      refine then_k hK ?_; clear hK; clear K
      refine wp_ret ?_
      refine ret_c E rfl rfl (S.get (by repeat (first | exact pk1 | apply pick_tail))) rfl ?_
      exact ⟨_, rfl, A', _, C, ⟨nm b 4 8, ts, nm b 12 1, nm b 13 1⟩, s0, rfl, hC, hA', (S.only (Bs := [A', C]) (sel_cons (by repeat (first | exact pk1 | apply pick_tail)) (sel_cons (by repeat (first | exact pk1 | apply pick_tail)) (sel_nil _)))).tr, fun _ => he, fun q => by rw [show nm b 14 1 = mn from hmn.symm] at q; omega⟩
  · replace hb := Nrm.nrm hb
    have hsmall : mn ≤ 4 := (by omega)
    refine wp_skip ?_
    refine then_k hK ?_; clear hK; clear K
    refine wp_seq_k ?_; intro K hK
    refine wp_seq_k ?_; intro K hK
    refine region_list ?_
    refine list_pure E rfl rfl (by decide) (rn_move E rfl rfl) ?_; clear E a; intro a E
    refine list_pure E rfl rfl (by decide) (rn_min E rfl rfl rfl) ?_; clear E a; intro a E
    rw [show min ((mn : Nat) : Int) 4 = ((mn : Nat) : Int) by omega] at E
    refine list_pure E rfl rfl (by decide) (rn_move E rfl rfl) ?_; clear E a; intro a E
    refine wpList_nil ?_
    refine then_k hK ?_; clear hK; clear K
    refine wp_block ?_
    refine wp_loop_ghost (fun (m : Nat) (a : Act) (w' : World) => ∃ (i : Nat) (A' C : Chunk) (v : Value), m = mn - i ∧ i ≤ mn ∧ Buf C 39 3 v i ((topsAt b i).flatMap Tp.lay) ∧ RdC 114 p ⟨b, 15 + 6 * i, 0⟩ A' ∧ (∃ Ls, St w0 [A] w' ([(b3, cel [.int .u64 (nm b 4 8), v, .int .i64 (nm b 12 1), .int .i64 (nm b 13 1)] 37)] :: [(b2, cel [.int .u64 0, .slice none 0 0, .int .i64 0, .int .i64 0] 37)] :: A' :: C :: Ls)) ∧ Fr a 44 [(0, ptr p), (2, ptr b2), (3, ptr b3), (24, .int .i64 mn), (25, .int .i64 i)]) (mn - 0) ?_ ?_
    · exact ⟨0, A5, [], _, rfl, by omega, Buf.nil _ _, hA5, ⟨_, (S.addNil).front4 (A := [(b3, _)]) (by repeat (first | exact pk1 | apply pick_tail)) (B := [(b2, _)]) (by repeat (first | exact pk1 | apply pick_tail)) (C := A5) (by repeat (first | exact pk1 | apply pick_tail)) (D := []) (by repeat (first | exact pk1 | apply pick_tail))⟩, E.keep (keep_cons rfl (keep_cons rfl (keep_cons rfl (keep_cons rfl (keep_cons rfl keep_nil)))))⟩
    clear E; clear a; (try clear S); rintro m a w ⟨i, A', C, v, rfl, hi, hC, hA', ⟨Ls, S⟩, E⟩
    refine wp_seq_k ?_; intro K hK
    refine region_list ?_
    refine list_pure E rfl rfl (by decide) (rn_lss E rfl rfl rfl) ?_; clear E a; intro a E
    refine wpList_nil ?_
    refine then_k hK ?_; clear hK; clear K
    refine wp_seq_k ?_; intro K hK
    refine if_bool E rfl (fun hb => ?_) (fun hb => ?_)
    · replace hb := Nrm.nrm hb
      refine wp_skip ?_
      refine then_k hK ?_; clear hK; clear K
      refine wp_seq_k ?_; intro K hK
      refine wp_block ?_
      have d1 : numOf ((b.drop (15 + 6 * i)).take 1) < 256 ^ 1 := nm_lt b (15 + 6 * i) 1
      have d2 : numOf ((b.drop (15 + 6 * i + 1)).take 1) < 256 ^ 1 := nm_lt b (15 + 6 * i + 1) 1
      have d3 : numOf ((b.drop (15 + 6 * i + 2)).take 4) < 256 ^ 4 := nm_lt b (15 + 6 * i + 2) 4
      refine region_mix S (.ofL [(0, 0), (1, 0), (2, 0), (5, 0), (8, 0), (3, 1), (4, 0), (6, 1), (7, 0), (9, 1), (10, 0), (11, 0), (12, 1), (13, 1), (14, 0), (15, 3)]) [[(b3, cel [.int .u64 (nm b 4 8), v, .int .i64 (nm b 12 1), .int .i64 (nm b 13 1)] 37)]] (fun h => h.sub (by first | (simp; done) | (simp +contextual; done))) (by kernel_rfl) (by kernel_rfl) ?_
      clear S; intro w S
      refine mix_pure E rfl rfl rfl (by decide) (fun w h => by first | exact rn_fieldAddr0 (q := 1) E rfl rfl rfl | exact rn_fieldAddr (q := 1) E rfl rfl rfl) ?_; clear E a; intro a E
      refine mix_pure E rfl rfl rfl (by decide) (fun w h => by first | exact rn_load E rfl rfl rfl (h.one (by repeat (first | exact mm1 | apply List.Mem.tail))) rfl | exact rn_loadc E rfl rfl rfl (by assumption)) ?_; clear E a; intro a E
      refine mix_pure E rfl rfl rfl (by decide) (fun w h => rn_move E rfl rfl) ?_; clear E a; intro a E
      refine mix_pure E rfl rfl rfl (by decide) (fun w h => rn_move E rfl rfl) ?_; clear E a; intro a E
      refine mix_pure E rfl rfl rfl (by decide) (fun w h => rn_move E rfl rfl) ?_; clear E a; intro a E
      refine mix_call E rfl rfl rfl (by decide) rfl Tryd.func69 rfl (by kernel_rfl) rfl (rnum_fit p b (15 + 6 * i) A' _ hA' (S.hp.sel (sel_cons (by repeat (first | exact pk1 | apply pick_tail)) (sel_nil _))) 1 (by omega) (by omega) (by omega)) ?_
      rintro v30 w ⟨B1, rfl, hB1, hT⟩; clear E a; intro a E
      have S := S.call1 (sel_cons (by repeat (first | exact pk1 | apply pick_tail)) (sel_nil _)) hT
      refine ⟨S.stab.sub (by first | (simp; done) | (simp +contextual; done)), ?_⟩
      refine mix_pure E rfl rfl rfl (by decide) (fun w h => by first | exact rn_convert E rfl rfl rfl rfl (by first | exact wu8 _ | exact w_nat (by omega) | exact w_natu (by omega) | exact w_in (by omega) | exact w_inu (by omega) | exact rfl) | exact rn_string E rfl rfl rfl rfl rfl (by assumption) (S.stab.at (by simp))) ?_; clear E a; intro a E
      refine mix_call E rfl rfl rfl (by decide) rfl Tryd.func69 rfl (by kernel_rfl) rfl (rnum_fit p b (15 + 6 * i + 1) B1 _ hB1 (S.hp.sel (sel_cons (by repeat (first | exact pk1 | apply pick_tail)) (sel_nil _))) 1 (by omega) (by omega) (by omega)) ?_
      rintro v33 w ⟨B2, rfl, hB2, hT⟩; clear E a; intro a E
      have S := S.call1 (sel_cons (by repeat (first | exact pk1 | apply pick_tail)) (sel_nil _)) hT; have hB2 : RdC 114 p ⟨b, 15 + 6 * i + 2, 0⟩ B2 := hB2
      refine ⟨S.stab.sub (by first | (simp; done) | (simp +contextual; done)), ?_⟩
      refine mix_pure E rfl rfl rfl (by decide) (fun w h => by first | exact rn_convert E rfl rfl rfl rfl (by first | exact wu8 _ | exact w_nat (by omega) | exact w_natu (by omega) | exact w_in (by omega) | exact w_inu (by omega) | exact rfl) | exact rn_string E rfl rfl rfl rfl rfl (by assumption) (S.stab.at (by simp))) ?_; clear E a; intro a E
      refine mix_call E rfl rfl rfl (by decide) rfl Tryd.func69 rfl (by kernel_rfl) rfl (rnum_fit p b (15 + 6 * i + 2) B2 _ hB2 (S.hp.sel (sel_cons (by repeat (first | exact pk1 | apply pick_tail)) (sel_nil _))) 4 (by omega) (by omega) (by omega)) ?_
      rintro v36 w ⟨B3, rfl, hB3, hT⟩; clear E a; intro a E
      have S := S.call1 (sel_cons (by repeat (first | exact pk1 | apply pick_tail)) (sel_nil _)) hT; have hB3 : RdC 114 p ⟨b, 15 + 6 * (i + 1), 0⟩ B3 := hB3
      refine ⟨S.stab.sub (by first | (simp; done) | (simp +contextual; done)), ?_⟩
      refine mix_pure E rfl rfl rfl (by decide) (fun w h => by first | exact rn_convert E rfl rfl rfl rfl (by first | exact wu8 _ | exact w_nat (by omega) | exact w_natu (by omega) | exact w_in (by omega) | exact w_inu (by omega) | exact rfl) | exact rn_string E rfl rfl rfl rfl rfl (by assumption) (S.stab.at (by simp))) ?_; clear E a; intro a E
      refine mix_pure E rfl rfl rfl (by decide) (fun w h => rn_build (cells := [_, _, _]) E rfl rfl rfl) ?_; clear E a; intro a E
      refine mix_act rfl rfl (wp_bslice (cells := [_, _, _]) E S rfl rfl (by decide) rfl rfl rfl rfl rfl (by decide) rfl ?_); clear E S a; intro a w b39 E S; refine ⟨S.stab.sub (by first | (simp; done) | (simp +contextual; done)), ?_⟩
      refine mix_act rfl rfl (wp_append (by' := 24) E S rfl rfl (by decide) rfl rfl hC (by repeat (first | exact pk1 | apply pick_tail)) ((rd_cells (g := b39) (T := 39) (xs := (tpAt b (15 + 6 * i)).lay) (s := 3) (m := 1) rfl (Tp.lay_one _) (by omega) 1).src (S.stab.at (by repeat (first | exact mm1 | apply List.Mem.tail))) rfl) rfl rfl rfl rfl rfl rfl (by simp only [maxLen]; omega) (by omega) ?_); clear E S a; intro a w v40 C40 E S hB40; refine ⟨S.stab.sub (by first | (simp; done) | (simp +contextual; done)), ?_⟩
      rw [← flat_snoc, ← topsAt_succ] at hB40
      obtain ⟨ad4, c4', rfl⟩ := hB40.slice
      refine mix_pure E rfl rfl rfl (by decide) (fun w h => by first | exact rn_fieldAddr0 (q := 1) E rfl rfl rfl | exact rn_fieldAddr (q := 1) E rfl rfl rfl) ?_; clear E a; intro a E
      refine mix_last rfl rfl (wp_store1 E S rfl rfl rfl rfl rfl rfl (by repeat (first | exact pk1 | apply pick_tail)) (by first | exact Nat.le_of_ble_eq_true rfl | (simp; done) | (simp; omega)) ?_); clear E S a; intro a w E S; try dsimp only [List.set] at S
      refine mix_nil ?_
      refine in_normal ?_
      refine then_k hK ?_; clear hK; clear K
      refine region_list ?_
      refine list_pure E rfl rfl (by decide) (rn_add E rfl rfl rfl (by first | exact wa_lit (y := 1) (by omega) | exact w_in (by omega) | exact w_inu (by omega) | exact rfl)) ?_; clear E a; intro a E
      refine list_pure E rfl rfl (by decide) (rn_move E rfl rfl) ?_; clear E a; intro a E
      refine wpList_nil ?_
      refine then_normal ?_
      exact ⟨_, by omega, i + 1, B3, C40, _, rfl, by omega, hB40, hB3, ⟨_, S.front4 (A := [(b3, _)]) (by repeat (first | exact pk1 | apply pick_tail)) (B := [(b2, _)]) (by repeat (first | exact pk1 | apply pick_tail)) (C := B3) (by repeat (first | exact pk1 | apply pick_tail)) (D := C40) (by repeat (first | exact pk1 | apply pick_tail))⟩, E.keep (keep_cons rfl (keep_cons rfl (keep_cons rfl (keep_cons rfl (keep_cons rfl keep_nil)))))⟩
    · replace hb := Nrm.nrm hb
      refine wp_exit ?_
      refine then_exit ?_; clear hK; clear K
      refine then_exit ?_
      refine in_exit ?_
      refine then_k hK ?_; clear hK; clear K
      refine wp_seq_k ?_; intro K hK
      obtain ⟨adv, cv, rfl⟩ := hC.slice
      refine region_list ?_
      refine list_pure E rfl rfl (by decide) (rn_load_blk (vs := [_, _, _, _]) E rfl rfl rfl (S.get (by repeat (first | exact pk1 | apply pick_tail))) rfl rfl) ?_; clear E a; intro a E
      refine list_wp rfl (wp_storeN E S rfl rfl rfl rfl (by simp [Value.oneCell']) rfl (by repeat (first | exact pk1 | apply pick_tail)) (by simp) ?_); clear E S a; intro a w E S; simp only [List.take_succ_cons, List.take_zero, List.drop_succ_cons, List.drop_zero, List.cons_append, List.nil_append, List.append_nil, List.length_cons, List.length_nil, Nat.zero_add, Nat.add_zero] at S
      refine wpList_nil ?_
      refine then_k hK ?_; clear hK; clear K
      refine wp_ret ?_
      refine ret_c E rfl rfl (S.get (by repeat (first | exact pk1 | apply pick_tail))) rfl ?_
      obtain rfl : i = mn := by omega
      have hlb : lbAt b = ⟨nm b 4 8, topsAt b i, nm b 12 1, nm b 13 1⟩ := by rw [hmn]; rfl
      exact ⟨_, rfl, A', _, C, ⟨nm b 4 8, topsAt b i, nm b 12 1, nm b 13 1⟩, ⟨b, 15 + 6 * i, 0⟩, rfl, by rw [topsAt_length]; exact hC, hA', (S.only (Bs := [A', C]) (sel_cons (by repeat (first | exact pk1 | apply pick_tail)) (sel_cons (by repeat (first | exact pk1 | apply pick_tail)) (sel_nil _)))).tr, fun q => by rw [show nm b 14 1 = i from hmn.symm] at q; omega, fun _ => ⟨hlb.symm, by rw [show nm b 14 1 = i from hmn.symm]⟩⟩
end Go.Proofs.YtmghbcaookahaaaDoor
