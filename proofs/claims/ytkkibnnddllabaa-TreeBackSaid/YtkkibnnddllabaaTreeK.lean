/-
  Objects as blocks: the chapter's example.
-/
import Derived.Test.YtkkibnnddllabaaTreeL
namespace Go.Sl
theorem Buf.hcap {C : Chunk} {T : TypeId} {s m : Nat} {v : Value} {xs : List Value} (h : Buf C T s v m xs) : ∃ ad c, v = .slice ad m c ∧ m ≤ c := by
  obtain ⟨ad, c, rfl⟩ := h.slice
  exact ⟨ad, c, rfl, h.cap_le⟩
theorem Inn.get {α : Type} {T : TypeId} {s : Nat} {lay : List α → List Value} {D : Chunk} {vs : List Value} {xs : List (List α)} (h : Inn T s lay D vs xs) {i : Nat} (hi : i < xs.length) :
    ∃ ad c, vs[i]? = some (.slice ad xs[i].length c) ∧ xs[i].length ≤ c ∧ Rd D s (.slice ad xs[i].length c) xs[i].length (lay xs[i]) := by
  obtain ⟨A, C, B, v, rfl, hv, hC, -⟩ := h.at hi
  obtain ⟨ad, c, rfl⟩ := hC.slice
  exact ⟨ad, c, hv, hC.cap_le, hC.rd.sub fun x hx => by simp [hx]⟩
theorem rep_set (n : Nat) (z v : Value) : (List.replicate (n + 1) z).set n v = List.replicate n z ++ [v] := by
  rw [List.replicate_succ', List.set_append, if_neg (by simp), List.length_replicate, Nat.sub_self]; rfl
theorem rep_buf (g n : Nat) (T : TypeId) (h : n ≤ 1000000) : Buf [(g, cel (List.replicate n (Value.int .u8 0)) T)] T 1 (.slice (some ⟨g, 0, none⟩) n n) n (List.replicate n (.int .u8 0)) :=
  ⟨by rw [List.length_replicate, Nat.mul_one], fun u hu => by rw [(List.mem_replicate.1 hu).2]; rfl, .inr ⟨g, n, [], rfl, by rw [List.append_nil], Nat.le_refl _, by simp only [maxLen]; omega, by rw [List.length_replicate, Nat.mul_one]; rfl⟩⟩
def exN (n : Nat) : List UInt8 := List.replicate n 0 ++ [7]
theorem exN_byt (n : Nat) : (List.replicate (n + 1) (Value.int .u8 0)).set n (.int .u8 7) = byt (exN n) := by
  rw [rep_set, exN, byt_append]; simp [byt]
theorem exN_len (n : Nat) : (exN n).length = n + 1 := by simp [exN]
def exP : Pt := ⟨0, 0, 3, 5, 1, 0, 0, 0, 0⟩
def exS : Slt := ⟨true, 3, exP⟩
theorem exP_ok : exP.Ok := by constructor <;> simp [exP]
theorem ex_facts : packE [exP] = 0 ∧ packL [exP] = [ptenc exP] ∧ unpE (ptenc exP) = 0 ∧ unpL (ptenc exP) = [exP] ∧ tabE [exS] = 0 ∧ tabL [exS] = sltB exS ∧ sltsE (sltB exS) = 0 ∧ sltsL (sltB exS) = [exS] ∧ sinc 2000 [exP] 4 = [⟨0, 1024⟩] ∧ costI 1024 = 3 ∧ blankB [] = true := by decide +kernel
theorem exN_facts : splitL (exN 1024) = [[], [7]] ∧ blankB (exN 1024) = false := by decide +kernel
end Go.Sl
namespace Go.Proofs.Ytkkibnnddllabaa
open Go.Sl
set_option maxRecDepth 10000
theorem awake_ret (w0 : World) : Ret Try.prog 9 #[] w0 fun u w' => u = .bool true ∧ Trs w0 w' [] [] := by
  have S := St.begin (hp_nil w0)
  obtain ⟨x1, x2, x3, x4, x5, x6, x7, x8, x9, x10, x11⟩ := ex_facts
  obtain ⟨y1, y2⟩ := exN_facts
  obtain ⟨nn, hnn⟩ : ∃ n : Nat, n = 1024 := ⟨_, rfl⟩
  refine enter0 127 Try.func9 rfl rfl ?_; intro a E
  refine wp_seq_k ?_; intro K hK
  refine region_list ?_
  refine list_pure E rfl rfl (by decide) (rn_assign E rfl rfl) ?_; clear E a; intro a E
  refine wpList_nil ?_
  refine then_k hK ?_; clear hK; clear K
  refine wp_seq_k ?_; intro K hK
  refine region_list ?_
  refine list_wp rfl (wp_make1 (by' := 1) E S rfl rfl (by decide) rfl rfl rfl rfl rfl rfl rfl rfl rfl rfl rfl (by decide) (by decide) ?_); clear E S a; intro a w g14 E S
  refine list_pure E rfl rfl (by decide) (rn_assign E rfl rfl) ?_; clear E a; intro a E
  refine wpList_nil ?_
  refine then_k hK ?_; clear hK; clear K
  refine wp_seq_k ?_; intro K hK
  have hb0 := rep_buf g14 1025 5 (by omega)
  refine region_list ?_
  refine list_pure E rfl rfl (by decide) (rn_move E rfl rfl) ?_; clear E a; intro a E
  refine list_pure E rfl rfl (by decide) (rn_indexAddr1 (i := 1024) E rfl rfl rfl rfl rfl rfl (by decide)) ?_; clear E a; intro a E
  refine list_wp rfl (wp_elem1 E S rfl rfl rfl rfl rfl rfl hb0 (by first | exact pk1 | exact pk2 | exact pk3 | exact pk4 | exact pk5 | exact pk6 | exact pk7 | exact pk8 | exact pk9) (i := 1024) (by rw [List.length_replicate]; decide) (Nat.zero_add _) ?_); clear E S a; intro a w Cs2 E hBs2 S
  refine wpList_nil ?_
  refine then_k hK ?_; clear hK; clear K
  refine wp_seq_k ?_; intro K hK
  rw [exN_byt] at hBs2
  have hb1 : Buf Cs2 5 1 (.slice (some ⟨g14, 0, none⟩) 1025 1025) (exN 1024).length (byt (exN 1024)) := by rw [exN_len]; exact hBs2
  have hbl : (exN 1024).length = 1025 := exN_len 1024
  obtain ⟨x, hx⟩ : ∃ x, x = exN 1024 := ⟨_, rfl⟩
  rw [← hx] at hb1 hbl y1 y2
  refine region_list ?_
  refine list_pure E rfl rfl (by decide) (rn_move E rfl rfl) ?_; clear E a; intro a E
  refine list_call E rfl rfl (by decide) rfl Try.func11 rfl (by kernel_rfl) rfl (split_ret Cs2 _ x hb1.rd (by omega) (by rw [hbl] at *; exact ⟨_, _, rfl, by decide⟩) _ (S.hp.sel (sel_cons (by first | exact pk1 | exact pk2 | exact pk3 | exact pk4 | exact pk5 | exact pk6 | exact pk7 | exact pk8 | exact pk9) (sel_nil _)))) ?_
  rintro v18 w ⟨C, D, hB, hT⟩; clear E a; intro a E
  have S := S.call3 (sel_cons (by first | exact pk1 | exact pk2 | exact pk3 | exact pk4 | exact pk5 | exact pk6 | exact pk7 | exact pk8 | exact pk9) (sel_nil _)) hT; rw [y1] at hB; obtain ⟨vs, hC, hD⟩ := hB; obtain ⟨adc, cc, rfl⟩ := hC.slice
  refine list_pure E rfl rfl (by decide) (rn_assign E rfl rfl) ?_; clear E a; intro a E
  refine wpList_nil ?_
  refine then_k hK ?_; clear hK; clear K
  refine wp_seq_k ?_; intro K hK
  refine region_list ?_
  refine list_pure E rfl rfl (by decide) (rn_build (cells := [_, _, _, _, _, _, _, _, _]) E rfl rfl rfl) ?_; clear E a; intro a E
  refine list_wp rfl (wp_alloc E S rfl rfl (by decide) rfl rfl rfl ?_); clear E S a; intro a w b3 E S
  refine list_wp rfl (wp_storeN E S rfl rfl rfl rfl (by simp [Value.oneCell']) rfl (by first | exact pk1 | exact pk2 | exact pk3 | exact pk4 | exact pk5 | exact pk6 | exact pk7 | exact pk8 | exact pk9) (by simp) ?_); clear E S a; intro a w E S; simp only [List.take_succ_cons, List.take_zero, List.drop_succ_cons, List.drop_zero, List.cons_append, List.nil_append, List.append_nil, List.length_cons, List.length_nil, Nat.zero_add, Nat.add_zero] at S
  refine wpList_nil ?_
  refine then_k hK ?_; clear hK; clear K
  refine wp_seq_k ?_; intro K hK
  refine region_list ?_
  refine list_pure E rfl rfl (by decide) (rn_load_blk (vs := [_, _, _, _, _, _, _, _, _]) E rfl rfl rfl (S.get (by first | exact pk1 | exact pk2 | exact pk3 | exact pk4 | exact pk5 | exact pk6 | exact pk7 | exact pk8 | exact pk9)) rfl rfl) ?_; clear E a; intro a E
  refine list_wp rfl (wp_bslice (cells := [_, _, _, _, _, _, _, _, _]) E S rfl rfl (by decide) rfl rfl rfl rfl rfl (by decide) rfl ?_); clear E S a; intro a w b22 E S
  have hO : Rd [(b22, cel exP.lay 40)] 9 (.slice (some ⟨b22, 0, none⟩) 1 1) [exP].length ([exP].flatMap Pt.lay) := rd_cells rfl (by simp [exP, Pt.lay, Value.oneCell']) (by decide) 1
  have S : St w0 [] w [[(b22, cel exP.lay 40)], [(b3, cel exP.lay 40)], C, D, Cs2] := S
  refine list_call E rfl rfl (by decide) rfl Try.func17 rfl (by kernel_rfl) rfl (pack_ret _ _ [exP] hO (fun p hp => by rw [List.mem_singleton.1 hp]; exact exP_ok) (by decide) ⟨_, _, rfl, by decide⟩ _ (S.hp.sel (sel_cons (by first | exact pk1 | exact pk2 | exact pk3 | exact pk4 | exact pk5 | exact pk6 | exact pk7 | exact pk8 | exact pk9) (sel_nil _)))) ?_
  rintro v23 w ⟨vp, X, Y, rfl, hB, hT⟩; clear E a; intro a E
  have S := S.call3 (sel_cons (by first | exact pk1 | exact pk2 | exact pk3 | exact pk4 | exact pk5 | exact pk6 | exact pk7 | exact pk8 | exact pk9) (sel_nil _)) hT; rw [x1] at E; rw [x2] at hB; obtain ⟨us, hX, hY⟩ := hB; obtain ⟨adx, cx, rfl⟩ := hX.slice
  refine list_pure E rfl rfl (by decide) (rn_move E rfl rfl) ?_; clear E a; intro a E
  refine list_pure E rfl rfl (by decide) (rn_extract E rfl rfl rfl) ?_; clear E a; intro a E
  refine list_pure E rfl rfl (by decide) (rn_extract E rfl rfl rfl) ?_; clear E a; intro a E
  refine list_pure E rfl rfl (by decide) (rn_assign E rfl rfl) ?_; clear E a; intro a E
  refine list_pure E rfl rfl (by decide) (rn_assign E rfl rfl) ?_; clear E a; intro a E
  refine wpList_nil ?_
  refine then_k hK ?_; clear hK; clear K
  refine wp_seq_k ?_; intro K hK
  refine wp_seq_k ?_; intro K hK
  refine region_list ?_
  refine list_pure E rfl rfl (by decide) (rn_move E rfl rfl) ?_; clear E a; intro a E
  refine list_pure E rfl rfl (by decide) (by first | exact rn_len E rfl rfl rfl | exact rn_len_str E rfl rfl rfl | exact rn_len_string E rfl rfl rfl) ?_; clear E a; intro a E
  refine list_pure E rfl rfl (by decide) (by first | exact rn_neq E rfl rfl rfl | exact rn_neq_ptr_nil E rfl rfl rfl rfl | exact rn_neq_bool E rfl rfl rfl rfl | exact rn_neq_string E rfl rfl rfl) ?_; clear E a; intro a E
  refine wpList_nil ?_
  refine then_k hK ?_; clear hK; clear K
  refine if_bool E rfl (fun hb => ?_) (fun hb => ?_)
  · first | with_reducible replace hb := n1 hb | with_reducible replace hb := n2 hb | with_reducible replace hb := n3 hb | with_reducible replace hb := n4 hb | with_reducible replace hb := n5 hb | with_reducible replace hb := n6 hb | replace hb := n1 hb | replace hb := n2 hb | replace hb := n3 hb | replace hb := n4 hb | replace hb := n5 hb | replace hb := n6 hb | skip
    exfalso; exact hb rfl
  · first | with_reducible replace hb := n1 hb | with_reducible replace hb := n2 hb | with_reducible replace hb := n3 hb | with_reducible replace hb := n4 hb | with_reducible replace hb := n5 hb | with_reducible replace hb := n6 hb | replace hb := n1 hb | replace hb := n2 hb | replace hb := n3 hb | replace hb := n4 hb | replace hb := n5 hb | replace hb := n6 hb | skip
    refine wp_skip ?_
    refine then_k hK ?_; clear hK; clear K
    refine wp_seq_k ?_; intro K hK
    obtain ⟨gx, rfl⟩ := hX.addr (by decide)
    obtain ⟨adu, cu, hu0, huc, hU⟩ := hY.get (i := 0) (by decide)
    have hul : [ptenc exP][0].length = 64 := ptenc_length exP
    refine region_list ?_
    refine list_pure E rfl rfl (by decide) (rn_move E rfl rfl) ?_; clear E a; intro a E
    refine list_pure E rfl rfl (by decide) (rn_indexAddr1 (i := 0) E rfl rfl rfl rfl rfl rfl (by decide)) ?_; clear E a; intro a E
    refine list_pure E rfl rfl (by decide) (rn_loadc E rfl rfl rfl (hX.rd.cells (S.stab.at (by first | exact mm1 | exact mm2 | exact mm3 | exact mm4 | exact mm5 | exact mm6 | exact mm7 | exact mm8)) rfl 0 _ hu0)) ?_; clear E a; intro a E
    refine list_call E rfl rfl (by decide) rfl Try.func19 rfl (by kernel_rfl) rfl (unpack_ret Y _ (ptenc exP) hU (by rw [ptenc_length]; decide) ⟨_, _, rfl, huc⟩ _ (S.hp.sel (sel_cons (by first | exact pk1 | exact pk2 | exact pk3 | exact pk4 | exact pk5 | exact pk6 | exact pk7 | exact pk8 | exact pk9) (sel_nil _)))) ?_
    rintro v33 w ⟨vm, M, rfl, hM, hT⟩; clear E a; intro a E
    have S := S.call2 (sel_cons (by first | exact pk1 | exact pk2 | exact pk3 | exact pk4 | exact pk5 | exact pk6 | exact pk7 | exact pk8 | exact pk9) (sel_nil _)) hT; rw [x3] at E; rw [x4] at hM; obtain ⟨adm, cm, rfl⟩ := hM.slice
    refine list_pure E rfl rfl (by decide) (rn_move E rfl rfl) ?_; clear E a; intro a E
    refine list_pure E rfl rfl (by decide) (rn_extract E rfl rfl rfl) ?_; clear E a; intro a E
    refine list_pure E rfl rfl (by decide) (rn_extract E rfl rfl rfl) ?_; clear E a; intro a E
    refine list_pure E rfl rfl (by decide) (rn_assign E rfl rfl) ?_; clear E a; intro a E
    refine list_pure E rfl rfl (by decide) (rn_assign E rfl rfl) ?_; clear E a; intro a E
    refine wpList_nil ?_
    refine then_k hK ?_; clear hK; clear K
    refine wp_seq_k ?_; intro K hK
    replace E := E.keep (e' := [(0, _), (1, _), (2, _), (3, _), (5, _), (6, _), (7, _)]) (keep_cons rfl (keep_cons rfl (keep_cons rfl (keep_cons rfl (keep_cons rfl (keep_cons rfl (keep_cons rfl (keep_nil))))))))
    have S := S.only (Bs := [[(b3, cel exP.lay 40)], C, M, Cs2]) (sel_cons (by first | exact pk1 | exact pk2 | exact pk3 | exact pk4 | exact pk5 | exact pk6 | exact pk7 | exact pk8 | exact pk9) (sel_cons (by first | exact pk1 | exact pk2 | exact pk3 | exact pk4 | exact pk5 | exact pk6 | exact pk7 | exact pk8 | exact pk9) (sel_cons (by first | exact pk1 | exact pk2 | exact pk3 | exact pk4 | exact pk5 | exact pk6 | exact pk7 | exact pk8 | exact pk9) (sel_cons (by first | exact pk1 | exact pk2 | exact pk3 | exact pk4 | exact pk5 | exact pk6 | exact pk7 | exact pk8 | exact pk9) (sel_nil _)))))
    refine region_list ?_
    refine list_pure E rfl rfl (by decide) (rn_load_blk (vs := [_, _, _, _, _, _, _, _, _]) E rfl rfl rfl (S.get (by first | exact pk1 | exact pk2 | exact pk3 | exact pk4 | exact pk5 | exact pk6 | exact pk7 | exact pk8 | exact pk9)) rfl rfl) ?_; clear E a; intro a E
    refine list_pure E rfl rfl (by decide) (rn_build (cells := [_, _, _, _, _, _, _, _, _, _, _]) E rfl rfl rfl) ?_; clear E a; intro a E
    refine list_wp rfl (wp_bslice (cells := [_, _, _, _, _, _, _, _, _, _, _]) E S rfl rfl (by decide) rfl rfl rfl rfl rfl (by decide) rfl ?_); clear E S a; intro a w b39 E S
    have hO2 : Rd [(b39, cel exS.lay 48)] 11 (.slice (some ⟨b39, 0, none⟩) 1 1) [exS].length ([exS].flatMap Slt.lay) := rd_cells rfl (by simp [exS, exP, Slt.lay, Value.oneCell']) (by decide) 1
    refine list_call E rfl rfl (by decide) rfl Try.func21 rfl (by kernel_rfl) rfl (table_ret [(b39, cel exS.lay 48)] _ [exS] hO2 (fun p hp => by rw [List.mem_singleton.1 hp]; exact ⟨by decide, exP_ok⟩) (by decide) _ (S.hp.sel (sel_cons (by first | exact pk1 | exact pk2 | exact pk3 | exact pk4 | exact pk5 | exact pk6 | exact pk7 | exact pk8 | exact pk9) (sel_nil _)))) ?_
    rintro v40 w ⟨vt, T, rfl, hT8, hT⟩; clear E a; intro a E
    have S := S.call2 (sel_cons (by first | exact pk1 | exact pk2 | exact pk3 | exact pk4 | exact pk5 | exact pk6 | exact pk7 | exact pk8 | exact pk9) (sel_nil _)) hT; rw [x5] at E; rw [x6] at hT8
    refine list_pure E rfl rfl (by decide) (rn_move E rfl rfl) ?_; clear E a; intro a E
    refine list_pure E rfl rfl (by decide) (rn_extract E rfl rfl rfl) ?_; clear E a; intro a E
    refine list_pure E rfl rfl (by decide) (rn_extract E rfl rfl rfl) ?_; clear E a; intro a E
    refine list_pure E rfl rfl (by decide) (rn_assign E rfl rfl) ?_; clear E a; intro a E
    refine list_pure E rfl rfl (by decide) (rn_assign E rfl rfl) ?_; clear E a; intro a E
    refine wpList_nil ?_
    refine then_k hK ?_; clear hK; clear K
    refine wp_seq_k ?_; intro K hK
    refine region_list ?_
    refine list_pure E rfl rfl (by decide) (rn_move E rfl rfl) ?_; clear E a; intro a E
    refine list_call E rfl rfl (by decide) rfl Try.func23 rfl (by kernel_rfl) rfl (slots_ret T vt (sltB exS) hT8.rd (by rw [sltB_length]; decide) hT8.hcap _ (S.hp.sel (sel_cons (by first | exact pk1 | exact pk2 | exact pk3 | exact pk4 | exact pk5 | exact pk6 | exact pk7 | exact pk8 | exact pk9) (sel_nil _)))) ?_
    rintro v45 w ⟨vs10, Z, rfl, hZ, hT⟩; clear E a; intro a E
    have S := S.call2 (sel_cons (by first | exact pk1 | exact pk2 | exact pk3 | exact pk4 | exact pk5 | exact pk6 | exact pk7 | exact pk8 | exact pk9) (sel_nil _)) hT; rw [x7] at E; rw [x8] at hZ; obtain ⟨adz, cz, rfl⟩ := hZ.slice
    refine list_pure E rfl rfl (by decide) (rn_move E rfl rfl) ?_; clear E a; intro a E
    refine list_pure E rfl rfl (by decide) (rn_extract E rfl rfl rfl) ?_; clear E a; intro a E
    refine list_pure E rfl rfl (by decide) (rn_extract E rfl rfl rfl) ?_; clear E a; intro a E
    refine list_pure E rfl rfl (by decide) (rn_assign E rfl rfl) ?_; clear E a; intro a E
    refine list_pure E rfl rfl (by decide) (rn_assign E rfl rfl) ?_; clear E a; intro a E
    refine wpList_nil ?_
    refine then_k hK ?_; clear hK; clear K
    refine wp_seq_k ?_; intro K hK
    refine region_list ?_
    refine list_pure E rfl rfl (by decide) (rn_load_blk (vs := [_, _, _, _, _, _, _, _, _]) E rfl rfl rfl (S.get (by first | exact pk1 | exact pk2 | exact pk3 | exact pk4 | exact pk5 | exact pk6 | exact pk7 | exact pk8 | exact pk9)) rfl rfl) ?_; clear E a; intro a E
    refine list_wp rfl (wp_bslice (cells := [_, _, _, _, _, _, _, _, _]) E S rfl rfl (by decide) rfl rfl rfl rfl rfl (by decide) rfl ?_); clear E S a; intro a w b49 E S
    have hO3 : Rd [(b49, cel exP.lay 40)] 9 (.slice (some ⟨b49, 0, none⟩) 1 1) [exP].length ([exP].flatMap Pt.lay) := rd_cells rfl (by simp [exP, Pt.lay, Value.oneCell']) (by decide) 1
    refine list_call E rfl rfl (by decide) rfl Try.func25 rfl (by kernel_rfl) rfl (since_ret [(b49, cel exP.lay 40)] _ 2000 (by decide) [exP] 4 hO3 (by decide) _ (S.hp.sel (sel_cons (by first | exact pk1 | exact pk2 | exact pk3 | exact pk4 | exact pk5 | exact pk6 | exact pk7 | exact pk8 | exact pk9) (sel_nil _)))) ?_
    rintro v50 w ⟨Q, hQ, hT⟩; clear E a; intro a E
    have S := S.call2 (sel_cons (by first | exact pk1 | exact pk2 | exact pk3 | exact pk4 | exact pk5 | exact pk6 | exact pk7 | exact pk8 | exact pk9) (sel_nil _)) hT; rw [x9] at hQ; obtain ⟨adq, cq, rfl⟩ := hQ.slice
    refine list_pure E rfl rfl (by decide) (rn_assign E rfl rfl) ?_; clear E a; intro a E
    refine wpList_nil ?_
    refine then_k hK ?_; clear hK; clear K
    refine wp_seq_k ?_; intro K hK
    replace E := E.keep (e' := [(0, _), (1, _), (2, _), (3, _), (5, _), (6, _), (7, _), (9, _), (10, _), (11, _), (12, _)]) (keep_cons rfl (keep_cons rfl (keep_cons rfl (keep_cons rfl (keep_cons rfl (keep_cons rfl (keep_cons rfl (keep_cons rfl (keep_cons rfl (keep_cons rfl (keep_cons rfl (keep_nil))))))))))))
    obtain ⟨gc, rfl⟩ := hC.addr (by decide)
    obtain ⟨ad0, c0, h0, -, -⟩ := hD.get (i := 0) (by decide)
    obtain ⟨ad1, c1, h1, -, -⟩ := hD.get (i := 1) (by decide)
    refine region_list ?_
    refine list_pure E rfl rfl (by decide) (rn_move E rfl rfl) ?_; clear E a; intro a E
    refine list_pure E rfl rfl (by decide) (by first | exact rn_eql E rfl rfl rfl | exact rn_eql_ptr_nil E rfl rfl rfl rfl | exact rn_eql_bool E rfl rfl rfl rfl | exact rn_eql_string E rfl rfl rfl) ?_; clear E a; intro a E
    refine list_pure E rfl rfl (by decide) (rn_move E rfl rfl) ?_; clear E a; intro a E
    refine guard_true E (t := 53) rfl (rfl) (fun hb53 => ?_)
    refine list_guard_yes E rfl rfl rfl rfl hb53 rfl (by decide) (rn_move E rfl rfl) ?_; clear E a; intro a E
    refine list_guard_yes E rfl rfl rfl rfl hb53 rfl (by decide) (by first | exact rn_eql E rfl rfl rfl | exact rn_eql_ptr_nil E rfl rfl rfl rfl | exact rn_eql_bool E rfl rfl rfl rfl | exact rn_eql_string E rfl rfl rfl) ?_; clear E a; intro a E
    refine list_pure E rfl rfl (by decide) (rn_pick_yes' E rfl rfl hb53 rfl) ?_; clear E a; intro a E
    refine list_pure E rfl rfl (by decide) (rn_move E rfl rfl) ?_; clear E a; intro a E
    refine guard_true E (t := 57) rfl (rfl) (fun hb57 => ?_)
    refine list_guard_yes E rfl rfl rfl rfl hb57 rfl (by decide) (rn_move E rfl rfl) ?_; clear E a; intro a E
    refine list_guard_yes E rfl rfl rfl rfl hb57 rfl (by decide) (by first | exact rn_eql E rfl rfl rfl | exact rn_eql_ptr_nil E rfl rfl rfl rfl | exact rn_eql_bool E rfl rfl rfl rfl | exact rn_eql_string E rfl rfl rfl) ?_; clear E a; intro a E
    refine list_pure E rfl rfl (by decide) (rn_pick_yes' E rfl rfl hb57 rfl) ?_; clear E a; intro a E
    refine list_pure E rfl rfl (by decide) (rn_move E rfl rfl) ?_; clear E a; intro a E
    refine guard_true E (t := 61) rfl (rfl) (fun hb61 => ?_)
    refine list_guard_yes E rfl rfl rfl rfl hb61 rfl (by decide) (rn_move E rfl rfl) ?_; clear E a; intro a E
    refine list_guard_yes E rfl rfl rfl rfl hb61 rfl (by decide) (by first | exact rn_eql E rfl rfl rfl | exact rn_eql_ptr_nil E rfl rfl rfl rfl | exact rn_eql_bool E rfl rfl rfl rfl | exact rn_eql_string E rfl rfl rfl) ?_; clear E a; intro a E
    refine list_pure E rfl rfl (by decide) (rn_pick_yes' E rfl rfl hb61 rfl) ?_; clear E a; intro a E
    refine list_pure E rfl rfl (by decide) (rn_move E rfl rfl) ?_; clear E a; intro a E
    refine guard_true E (t := 65) rfl (rfl) (fun hb65 => ?_)
    refine list_guard_yes E rfl rfl rfl rfl hb65 rfl (by decide) (rn_move E rfl rfl) ?_; clear E a; intro a E
    refine list_guard_yes E rfl rfl rfl rfl hb65 rfl (by decide) (by first | exact rn_len E rfl rfl rfl | exact rn_len_str E rfl rfl rfl | exact rn_len_string E rfl rfl rfl) ?_; clear E a; intro a E
    refine list_guard_yes E rfl rfl rfl rfl hb65 rfl (by decide) (by first | exact rn_eql E rfl rfl rfl | exact rn_eql_ptr_nil E rfl rfl rfl rfl | exact rn_eql_bool E rfl rfl rfl rfl | exact rn_eql_string E rfl rfl rfl) ?_; clear E a; intro a E
    refine list_pure E rfl rfl (by decide) (rn_pick_yes' E rfl rfl hb65 rfl) ?_; clear E a; intro a E
    refine list_pure E rfl rfl (by decide) (rn_move E rfl rfl) ?_; clear E a; intro a E
    refine guard_true E (t := 70) rfl (rfl) (fun hb70 => ?_)
    refine list_guard_yes E rfl rfl rfl rfl hb70 rfl (by decide) (rn_move E rfl rfl) ?_; clear E a; intro a E
    refine list_guard_yes E rfl rfl rfl rfl hb70 rfl (by decide) (rn_indexAddr1 (i := 0) E rfl rfl rfl rfl rfl rfl (by decide)) ?_; clear E a; intro a E
    refine list_guard_yes E rfl rfl rfl rfl hb70 rfl (by decide) (rn_loadc E rfl rfl rfl (hC.rd.cells (S.stab.at (by first | exact mm1 | exact mm2 | exact mm3 | exact mm4 | exact mm5 | exact mm6 | exact mm7 | exact mm8)) rfl 0 _ h0)) ?_; clear E a; intro a E
    refine list_guard_yes E rfl rfl rfl rfl hb70 rfl (by decide) (by first | exact rn_len E rfl rfl rfl | exact rn_len_str E rfl rfl rfl | exact rn_len_string E rfl rfl rfl) ?_; clear E a; intro a E
    refine list_guard_yes E rfl rfl rfl rfl hb70 rfl (by decide) (by first | exact rn_eql E rfl rfl rfl | exact rn_eql_ptr_nil E rfl rfl rfl rfl | exact rn_eql_bool E rfl rfl rfl rfl | exact rn_eql_string E rfl rfl rfl) ?_; clear E a; intro a E
    refine list_pure E rfl rfl (by decide) (rn_pick_yes' E rfl rfl hb70 rfl) ?_; clear E a; intro a E
    refine list_pure E rfl rfl (by decide) (rn_move E rfl rfl) ?_; clear E a; intro a E
    refine guard_true E (t := 77) rfl (rfl) (fun hb77 => ?_)
    refine list_guard_yes E rfl rfl rfl rfl hb77 rfl (by decide) (rn_move E rfl rfl) ?_; clear E a; intro a E
    refine list_guard_yes E rfl rfl rfl rfl hb77 rfl (by decide) (rn_indexAddr1 (i := 1) E rfl rfl rfl rfl rfl rfl (by decide)) ?_; clear E a; intro a E
    refine list_guard_yes E rfl rfl rfl rfl hb77 rfl (by decide) (rn_loadc E rfl rfl rfl (hC.rd.cells (S.stab.at (by first | exact mm1 | exact mm2 | exact mm3 | exact mm4 | exact mm5 | exact mm6 | exact mm7 | exact mm8)) rfl 1 _ h1)) ?_; clear E a; intro a E
    refine list_guard_yes E rfl rfl rfl rfl hb77 rfl (by decide) (by first | exact rn_len E rfl rfl rfl | exact rn_len_str E rfl rfl rfl | exact rn_len_string E rfl rfl rfl) ?_; clear E a; intro a E
    refine list_guard_yes E rfl rfl rfl rfl hb77 rfl (by decide) (by first | exact rn_eql E rfl rfl rfl | exact rn_eql_ptr_nil E rfl rfl rfl rfl | exact rn_eql_bool E rfl rfl rfl rfl | exact rn_eql_string E rfl rfl rfl) ?_; clear E a; intro a E
    refine list_pure E rfl rfl (by decide) (rn_pick_yes' E rfl rfl hb77 rfl) ?_; clear E a; intro a E
    refine list_pure E rfl rfl (by decide) (rn_move E rfl rfl) ?_; clear E a; intro a E
    refine guard_true E (t := 84) rfl (rfl) (fun hb84 => ?_)
    refine list_guard_yes E rfl rfl rfl rfl hb84 rfl (by decide) (rn_move E rfl rfl) ?_; clear E a; intro a E
    refine list_guard_yes E rfl rfl rfl rfl hb84 rfl (by decide) (by first | exact rn_len E rfl rfl rfl | exact rn_len_str E rfl rfl rfl | exact rn_len_string E rfl rfl rfl) ?_; clear E a; intro a E
    refine list_guard_yes E rfl rfl rfl rfl hb84 rfl (by decide) (by first | exact rn_eql E rfl rfl rfl | exact rn_eql_ptr_nil E rfl rfl rfl rfl | exact rn_eql_bool E rfl rfl rfl rfl | exact rn_eql_string E rfl rfl rfl) ?_; clear E a; intro a E
    refine list_pure E rfl rfl (by decide) (rn_pick_yes' E rfl rfl hb84 rfl) ?_; clear E a; intro a E
    refine list_pure E rfl rfl (by decide) (rn_move E rfl rfl) ?_; clear E a; intro a E
    refine guard_true E (t := 89) rfl (rfl) (fun hb89 => ?_)
    refine list_guard_yes E rfl rfl rfl rfl hb89 rfl (by decide) (rn_move E rfl rfl) ?_; clear E a; intro a E
    refine list_guard_yes E rfl rfl rfl rfl hb89 rfl (by decide) (by first | exact rn_len E rfl rfl rfl | exact rn_len_str E rfl rfl rfl | exact rn_len_string E rfl rfl rfl) ?_; clear E a; intro a E
    refine list_guard_yes E rfl rfl rfl rfl hb89 rfl (by decide) (by first | exact rn_eql E rfl rfl rfl | exact rn_eql_ptr_nil E rfl rfl rfl rfl | exact rn_eql_bool E rfl rfl rfl rfl | exact rn_eql_string E rfl rfl rfl) ?_; clear E a; intro a E
    refine list_pure E rfl rfl (by decide) (rn_pick_yes' E rfl rfl hb89 rfl) ?_; clear E a; intro a E
    refine list_pure E rfl rfl (by decide) (rn_move E rfl rfl) ?_; clear E a; intro a E
    refine guard_true E (t := 94) rfl (rfl) (fun hb94 => ?_)
    refine list_guard_yes E rfl rfl rfl rfl hb94 rfl (by decide) (rn_move E rfl rfl) ?_; clear E a; intro a E
    refine list_guard_yes E rfl rfl rfl rfl hb94 rfl (by decide) (by first | exact rn_len E rfl rfl rfl | exact rn_len_str E rfl rfl rfl | exact rn_len_string E rfl rfl rfl) ?_; clear E a; intro a E
    refine list_guard_yes E rfl rfl rfl rfl hb94 rfl (by decide) (by first | exact rn_eql E rfl rfl rfl | exact rn_eql_ptr_nil E rfl rfl rfl rfl | exact rn_eql_bool E rfl rfl rfl rfl | exact rn_eql_string E rfl rfl rfl) ?_; clear E a; intro a E
    refine list_pure E rfl rfl (by decide) (rn_pick_yes' E rfl rfl hb94 rfl) ?_; clear E a; intro a E
    refine list_pure E rfl rfl (by decide) (rn_assign E rfl rfl) ?_; clear E a; intro a E
    refine wpList_nil ?_
    refine then_k hK ?_; clear hK; clear K
    refine wp_seq_k ?_; intro K hK
    replace E := E.keep (e' := [(0, _), (1, _), (3, _), (6, _), (10, _), (13, _)]) (keep_cons rfl (keep_cons rfl (keep_cons rfl (keep_cons rfl (keep_cons rfl (keep_cons rfl (keep_nil)))))))
    obtain ⟨gm, rfl⟩ := hM.addr (by decide)
    obtain ⟨gz, rfl⟩ := hZ.addr (by decide)
    refine region_mix0 S (.ofL [(0, 0), (1, 0), (2, 0), (3, 0), (4, 0), (5, 0), (6, 0), (7, 0), (8, 0), (9, 0), (10, 0), (11, 0), (12, 0), (13, 0), (14, 0), (15, 0), (16, 0), (17, 1), (18, 0), (19, 0), (20, 0), (21, 1), (22, 0), (23, 0), (24, 0), (25, 3), (26, 2), (27, 2), (28, 2)]) (by kernel_rfl) (by kernel_rfl) ?_
    clear S; intro w S
    refine mix_pure E rfl rfl rfl (by decide) (fun w h => rn_move E rfl rfl) ?_; clear E a; intro a E
    refine mix_pure E rfl rfl rfl (by decide) (fun w h => rn_move E rfl rfl) ?_; clear E a; intro a E
    refine guard_true E (t := 100) rfl (rfl) (fun hb100 => ?_)
    refine mix_guard_yes E rfl rfl rfl rfl rfl hb100 rfl (by decide) (fun w h => rn_move E rfl rfl) ?_; clear E a; intro a E
    refine mix_guard_yes E rfl rfl rfl rfl rfl hb100 rfl (by decide) (fun w h => rn_indexAddr (i := 0) E rfl rfl rfl rfl rfl rfl (by decide)) ?_; clear E a; intro a E
    refine mix_guard_yes E rfl rfl rfl rfl rfl hb100 rfl (by decide) (fun w h => rn_load_aggc (vs := exP.lay) E rfl rfl rfl rfl (hM.rd.elem (lay := Pt.lay) Pt.lay_len (h.at (by first | exact mm1 | exact mm2 | exact mm3 | exact mm4 | exact mm5 | exact mm6 | exact mm7 | exact mm8)) (i := 0) (by decide))) ?_; clear E a; intro a E
    refine mix_guard_yes E rfl rfl rfl rfl rfl hb100 rfl (by decide) (fun w h => rn_load_blk (vs := [_, _, _, _, _, _, _, _, _]) E rfl rfl rfl (h.one (by first | exact mm1 | exact mm2 | exact mm3 | exact mm4 | exact mm5 | exact mm6 | exact mm7 | exact mm8)) rfl rfl) ?_; clear E a; intro a E
    refine mix_guard_yes E rfl rfl rfl rfl rfl hb100 rfl (by decide) (fun w h => by first | exact rn_eql_pair E rfl rfl rfl rfl (by kernel_rfl) (by kernel_rfl) rfl rfl rfl | exact rn_eql_cells E rfl rfl rfl rfl (by kernel_rfl) (by kernel_rfl) rfl) ?_; clear E a; intro a E
    refine mix_pure E rfl rfl rfl (by decide) (fun w h => rn_pick_yes' E rfl rfl hb100 rfl) ?_; clear E a; intro a E
    refine mix_pure E rfl rfl rfl (by decide) (fun w h => rn_move E rfl rfl) ?_; clear E a; intro a E
    refine guard_true E (t := 107) rfl (rfl) (fun hb107 => ?_)
    refine mix_guard_yes E rfl rfl rfl rfl rfl hb107 rfl (by decide) (fun w h => rn_move E rfl rfl) ?_; clear E a; intro a E
    refine mix_guard_yes E rfl rfl rfl rfl rfl hb107 rfl (by decide) (fun w h => rn_indexAddr (i := 0) E rfl rfl rfl rfl rfl rfl (by decide)) ?_; clear E a; intro a E
    refine mix_guard_yes E rfl rfl rfl rfl rfl hb107 rfl (by decide) (fun w h => by first | exact rn_fieldAddr0 (q := 2) E rfl rfl rfl | exact rn_fieldAddr (q := 2) E rfl rfl rfl) ?_; clear E a; intro a E
    refine mix_guard_yes E rfl rfl rfl rfl rfl hb107 rfl (by decide) (fun w h => rn_load_aggc (vs := exP.lay) E rfl rfl rfl rfl (cells_drop (hZ.rd.elem (lay := Slt.lay) Slt.lay_len (h.at (by first | exact mm1 | exact mm2 | exact mm3 | exact mm4 | exact mm5 | exact mm6 | exact mm7 | exact mm8)) (i := 0) (by decide)) 2)) ?_; clear E a; intro a E
    refine mix_guard_yes E rfl rfl rfl rfl rfl hb107 rfl (by decide) (fun w h => rn_load_blk (vs := [_, _, _, _, _, _, _, _, _]) E rfl rfl rfl (h.one (by first | exact mm1 | exact mm2 | exact mm3 | exact mm4 | exact mm5 | exact mm6 | exact mm7 | exact mm8)) rfl rfl) ?_; clear E a; intro a E
    refine mix_guard_yes E rfl rfl rfl rfl rfl hb107 rfl (by decide) (fun w h => by first | exact rn_eql_pair E rfl rfl rfl rfl (by kernel_rfl) (by kernel_rfl) rfl rfl rfl | exact rn_eql_cells E rfl rfl rfl rfl (by kernel_rfl) (by kernel_rfl) rfl) ?_; clear E a; intro a E
    refine mix_pure E rfl rfl rfl (by decide) (fun w h => rn_pick_yes' E rfl rfl hb107 rfl) ?_; clear E a; intro a E
    refine mix_pure E rfl rfl rfl (by decide) (fun w h => rn_move E rfl rfl) ?_; clear E a; intro a E
    refine guard_true E (t := 115) rfl (rfl) (fun hb115 => ?_)
    refine mix_guard_act E rfl rfl rfl rfl rfl hb115 ?_; refine wp_call' E rfl (by decide) rfl Try.func15 rfl (by kernel_rfl) rfl (cost_ret 1024 (by decide) _) ?_
    rintro v116 w ⟨rfl, hT⟩; clear E a; intro a E
    have S := S.quiet hT; rw [x10] at E
    refine ⟨S.stab.sub (by first | (simp; done) | (simp +contextual; done)), ?_⟩
    refine mix_guard_yes E rfl rfl rfl rfl rfl hb115 rfl (by decide) (fun w h => by first | exact rn_eql E rfl rfl rfl | exact rn_eql_ptr_nil E rfl rfl rfl rfl | exact rn_eql_bool E rfl rfl rfl rfl | exact rn_eql_string E rfl rfl rfl) ?_; clear E a; intro a E
    refine mix_pure E rfl rfl rfl (by decide) (fun w h => rn_pick_yes' E rfl rfl hb115 rfl) ?_; clear E a; intro a E
    refine mix_pure E rfl rfl rfl (by decide) (fun w h => rn_move E rfl rfl) ?_; clear E a; intro a E
    refine guard_true E (t := 119) rfl (rfl) (fun hb119 => ?_)
    refine mix_guard_act E rfl rfl rfl rfl rfl hb119 ?_; refine wp_call' E rfl (by decide) rfl Try.func13 rfl (by kernel_rfl) rfl (blank_ret [] _ [] (Rd.nil _ _) (by decide) _ (S.addNil.hp.sel (sel_cons (by first | exact pk1 | exact pk2 | exact pk3 | exact pk4 | exact pk5 | exact pk6 | exact pk7 | exact pk8 | exact pk9) (sel_nil _)))) ?_
    rintro v120 w ⟨rfl, hT⟩; clear E a; intro a E
    have S := (S.addNil.call1 (sel_cons (by first | exact pk1 | exact pk2 | exact pk3 | exact pk4 | exact pk5 | exact pk6 | exact pk7 | exact pk8 | exact pk9) (sel_nil _)) hT).dropNil; rw [x11] at E
    refine ⟨S.stab.sub (by first | (simp; done) | (simp +contextual; done)), ?_⟩
    refine mix_pure E rfl rfl rfl (by decide) (fun w h => rn_pick_yes' E rfl rfl hb119 rfl) ?_; clear E a; intro a E
    refine mix_pure E rfl rfl rfl (by decide) (fun w h => rn_move E rfl rfl) ?_; clear E a; intro a E
    refine guard_true E (t := 122) rfl (rfl) (fun hb122 => ?_)
    refine mix_guard_yes E rfl rfl rfl rfl rfl hb122 rfl (by decide) (fun w h => rn_move E rfl rfl) ?_; clear E a; intro a E
    refine mix_guard_last E rfl rfl rfl rfl rfl hb122 ?_; refine wp_call' E rfl (by decide) rfl Try.func13 rfl (by kernel_rfl) rfl (blank_ret Cs2 _ x hb1.rd (by omega) _ (S.hp.sel (sel_cons (by first | exact pk1 | exact pk2 | exact pk3 | exact pk4 | exact pk5 | exact pk6 | exact pk7 | exact pk8 | exact pk9) (sel_nil _)))) ?_
    rintro v124 w ⟨rfl, hT⟩; clear E a; intro a E
    have S := S.call1 (sel_cons (by first | exact pk1 | exact pk2 | exact pk3 | exact pk4 | exact pk5 | exact pk6 | exact pk7 | exact pk8 | exact pk9) (sel_nil _)) hT; rw [y2] at E
    refine mix_guard_free E rfl rfl rfl rfl rfl hb122 rfl (by decide) (fun w => rn_not E rfl rfl) ?_; clear E a; intro a E
    refine mix_free E rfl rfl rfl (by decide) (fun w => rn_pick_yes' E rfl rfl hb122 rfl) ?_; clear E a; intro a E
    refine mix_free E rfl rfl rfl (by decide) (fun w => rn_assign E rfl rfl) ?_; clear E a; intro a E
    refine mix_nil ?_
    refine then_k hK ?_; clear hK; clear K
    refine wp_ret ?_
    refine ret1 E rfl rfl ?_
    exact ⟨_, rfl, rfl, (S.only (Bs := []) (sel_nil _)).tr⟩
end Go.Proofs.Ytkkibnnddllabaa
