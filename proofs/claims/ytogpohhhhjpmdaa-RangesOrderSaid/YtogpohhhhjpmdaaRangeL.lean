/-
  The chapter's example and what all its laws ask of two sets.
-/
import Derived.Test.YtogpohhhhjpmdaaRangeD
import Derived.Test.YtogpohhhhjpmdaaOld
namespace Go.Sl
/-- Numbers that an int may be. -/
def Sp.i64 (x : Sp) : Prop := (-9223372036854775808 ≤ x.at_ ∧ x.at_ ≤ 9223372036854775807) ∧ -9223372036854775808 ≤ x.many ∧ x.many ≤ 9223372036854775807
theorem Sp.lay_one (x : Sp) : ∀ u ∈ x.lay, u.oneCell' = true := fun u hu => by
  simp only [Sp.lay, List.mem_cons, List.not_mem_nil, or_false] at hu
  rcases hu with rfl | rfl <;> rfl
end Go.Sl
namespace Go.Proofs.Ytogpohhhhjpmdaa
open Go.Sl Go.ChangeShapes Go.WideShapes Go.ChangeAt Go.RowKit Go.ChangeMaps
set_option maxRecDepth 10000

theorem dec_span {H : Type} {enc : TypeId × Value → H} {w : World} : Dec enc Try.prog w 31 2 Sp.lay Sp.i64 := fun n cs x h hlen hw => by
  match cs, hlen with
  | [c0, c1], _ =>
  have ki : Try.prog.cellsOf 3 = 1 := by kernel_rfl
  have ht := Try.underlying31
  obtain ⟨a, e0, h0⟩ := dec_field 0 0 ht h hw rfl ki (dec_i64 (enc := enc) Try.underlying3) (by simp)
  obtain ⟨b, e1, h1⟩ := dec_field 1 1 ht h hw rfl ki (dec_i64 (enc := enc) Try.underlying3) (by simp)
  simp only [List.drop_succ_cons, List.drop_zero, List.take_succ_cons, List.take_zero, List.cons.injEq, and_true] at e0 e1
  subst e0 e1
  exact ⟨⟨a, b⟩, rfl, h0, h1⟩

theorem awake_ret (w0 : World) : Ret Try.prog 6 #[] w0 fun u w' => u = .bool true ∧ Trs w0 w' [] [] := by
  have S := St.begin (hp_nil w0)
  refine enter0 73 Try.func6 rfl rfl ?_; intro a E
  refine wp_seq_k ?_; intro K hK
  refine region_list ?_
  refine list_pure E rfl rfl (by decide) (rn_assign E rfl rfl) ?_; clear E a; intro a E
  refine wpList_nil ?_
  refine then_k hK ?_; clear hK; clear K
  refine wp_seq_k ?_; intro K hK
  refine region_list ?_
  refine list_call E rfl rfl (by decide) rfl Try.func7 rfl (by kernel_rfl) rfl (new_ret _) ?_
  rintro v10 w ⟨p, A, rfl, hA, hT⟩; clear E a; intro a E
  have S := S.fresh hT
  refine list_pure E rfl rfl (by decide) (rn_assign E rfl rfl) ?_; clear E a; intro a E
  refine wpList_nil ?_
  refine then_k hK ?_; clear hK; clear K
  refine wp_seq_k ?_; intro K hK
  refine wp_seq_k ?_; intro K hK
  refine region_list ?_
  refine list_pure E rfl rfl (by decide) (rn_move E rfl rfl) ?_; clear E a; intro a E
  refine list_pure E rfl rfl (by decide) (by first | exact rn_eql E rfl rfl rfl | exact rn_eql_ptr_nil E rfl rfl rfl rfl | exact rn_eql_bool E rfl rfl rfl rfl | exact rn_eql_string E rfl rfl rfl) ?_; clear E a; intro a E
  refine wpList_nil ?_
  refine then_k hK ?_; clear hK; clear K
  refine if_false' E rfl (rfl) ?_
  refine wp_skip ?_
  refine then_k hK ?_; clear hK; clear K
  refine wp_seq_k ?_; intro K hK
  refine region_list ?_
  refine list_pure E rfl rfl (by decide) (rn_move E rfl rfl) ?_; clear E a; intro a E
  refine list_pure E rfl rfl (by decide) (rn_build (cells := [_, _]) E rfl rfl rfl) ?_; clear E a; intro a E
  refine list_call E rfl rfl (by decide) rfl Try.func8 rfl (by kernel_rfl) rfl (add_ret p [] ⟨4, 2⟩ A _ hA (gd_nil.okl (by simp)) S.hp) ?_
  rintro v15 w ⟨rfl, A1, hA1, hT⟩; clear E a; intro a E
  have S := S.all hT
  have hA1 : SetC p [⟨4, 2⟩] 2 A1 := hA1
  have hG1 : Okl [⟨4, 2⟩] := addS_gd (l := []) (gd_nil.okl (by simp)) ⟨4, 2⟩
  refine list_pure E rfl rfl (by decide) (rn_assign E rfl rfl) ?_; clear E a; intro a E
  refine wpList_nil ?_
  refine then_k hK ?_; clear hK; clear K
  refine wp_seq_k ?_; intro K hK
  refine region_list ?_
  refine list_pure E rfl rfl (by decide) (rn_move E rfl rfl) ?_; clear E a; intro a E
  refine list_pure E rfl rfl (by decide) (rn_build (cells := [_, _]) E rfl rfl rfl) ?_; clear E a; intro a E
  refine list_call E rfl rfl (by decide) rfl Try.func8 rfl (by kernel_rfl) rfl (add_ret p [⟨4, 2⟩] ⟨6, 1⟩ A1 _ hA1 hG1 S.hp) ?_
  rintro v18 w ⟨rfl, A2, hA2, hT⟩; clear E a; intro a E
  have S := S.all hT
  have hA2 : SetC p [⟨4, 3⟩] 3 A2 := hA2
  have hG2 : Okl [⟨4, 3⟩] := addS_gd hG1 ⟨6, 1⟩
  refine list_pure E rfl rfl (by decide) (rn_assign E rfl rfl) ?_; clear E a; intro a E
  refine wpList_nil ?_
  refine then_k hK ?_; clear hK; clear K
  refine wp_seq_k ?_; intro K hK
  refine region_list ?_
  refine list_pure E rfl rfl (by decide) (rn_move E rfl rfl) ?_; clear E a; intro a E
  refine list_pure E rfl rfl (by decide) (rn_build (cells := [_, _]) E rfl rfl rfl) ?_; clear E a; intro a E
  refine list_call E rfl rfl (by decide) rfl Try.func10 rfl (by kernel_rfl) rfl (rem_ret p [⟨4, 3⟩] ⟨5, 1⟩ A2 _ hA2 hG2 S.hp) ?_
  rintro v21 w ⟨rfl, A3, hA3, hT⟩; clear E a; intro a E
  have S := S.all hT
  have hA3 : SetC p [⟨4, 1⟩, ⟨6, 1⟩] 2 A3 := hA3
  have hG3 : Okl [⟨4, 1⟩, ⟨6, 1⟩] := remS_gd hG2 ⟨5, 1⟩
  refine list_pure E rfl rfl (by decide) (rn_assign E rfl rfl) ?_; clear E a; intro a E
  refine wpList_nil ?_
  refine then_k hK ?_; clear hK; clear K
  refine wp_seq_k ?_; intro K hK
  refine region_list ?_
  refine list_pure E rfl rfl (by decide) (rn_move E rfl rfl) ?_; clear E a; intro a E
  refine list_call E rfl rfl (by decide) rfl Try.func16 rfl (by kernel_rfl) rfl (find_ret p [⟨4, 1⟩, ⟨6, 1⟩] 2 1 5 A3 _ hA3 hG3 (by omega) (by omega) S.hp) ?_
  rintro v24 w ⟨rfl, hT⟩; clear E a; intro a E
  have S := S.all hT
  refine list_pure E rfl rfl (by decide) (rn_move E rfl rfl) ?_; clear E a; intro a E
  refine list_pure E rfl rfl (by decide) (rn_extract E rfl rfl rfl) ?_; clear E a; intro a E
  refine list_pure E rfl rfl (by decide) (rn_extract E rfl rfl rfl) ?_; clear E a; intro a E
  refine list_pure E rfl rfl (by decide) (rn_assign E rfl rfl) ?_; clear E a; intro a E
  refine list_pure E rfl rfl (by decide) (rn_assign E rfl rfl) ?_; clear E a; intro a E
  refine wpList_nil ?_
  refine then_k hK ?_; clear hK; clear K
  refine wp_seq_k ?_; intro K hK
  replace E := E.keep (e' := [(0, _), (1, _), (2, _), (3, _), (4, _), (5, _), (6, _)]) (keep_cons rfl (keep_cons rfl (keep_cons rfl (keep_cons rfl (keep_cons rfl (keep_cons rfl (keep_cons rfl (keep_nil))))))))
  refine region_list ?_
  refine list_pure E rfl rfl (by decide) (rn_move E rfl rfl) ?_; clear E a; intro a E
  refine list_pure E rfl rfl (by decide) (rn_build (cells := [_, _]) E rfl rfl rfl) ?_; clear E a; intro a E
  refine list_call E rfl rfl (by decide) rfl Try.func14 rfl (by kernel_rfl) rfl (has_ret p [⟨4, 1⟩, ⟨6, 1⟩] 2 ⟨4, 1⟩ A3 _ hA3 hG3 S.hp) ?_
  rintro v29 w ⟨rfl, hT⟩; clear E a; intro a E
  have S := S.all hT
  refine list_pure E rfl rfl (by decide) (rn_assign E rfl rfl) ?_; clear E a; intro a E
  refine wpList_nil ?_
  refine then_k hK ?_; clear hK; clear K
  refine wp_seq_k ?_; intro K hK
  refine region_list ?_
  refine list_pure E rfl rfl (by decide) (rn_move E rfl rfl) ?_; clear E a; intro a E
  refine list_pure E rfl rfl (by decide) (rn_build (cells := [_, _]) E rfl rfl rfl) ?_; clear E a; intro a E
  refine list_call E rfl rfl (by decide) rfl Try.func15 rfl (by kernel_rfl) rfl (meets_ret p [⟨4, 1⟩, ⟨6, 1⟩] 2 ⟨4, 2⟩ A3 _ hA3 hG3 S.hp) ?_
  rintro v32 w ⟨rfl, hT⟩; clear E a; intro a E
  have S := S.all hT
  refine list_pure E rfl rfl (by decide) (rn_assign E rfl rfl) ?_; clear E a; intro a E
  refine wpList_nil ?_
  refine then_k hK ?_; clear hK; clear K
  refine wp_seq_k ?_; intro K hK
  refine region_list ?_
  refine list_pure E rfl rfl (by decide) (rn_move E rfl rfl) ?_; clear E a; intro a E
  refine list_call E rfl rfl (by decide) rfl Try.func18 rfl (by kernel_rfl) rfl (sclone_ret p [⟨4, 1⟩, ⟨6, 1⟩] 2 A3 _ hA3 (by simp) S.hp) ?_
  rintro v34 w ⟨q, B, rfl, hB, hT⟩; clear E a; intro a E
  have S := S.all hT
  refine list_pure E rfl rfl (by decide) (rn_assign E rfl rfl) ?_; clear E a; intro a E
  refine wpList_nil ?_
  refine then_k hK ?_; clear hK; clear K
  refine wp_seq_k ?_; intro K hK
  refine region_list ?_
  refine list_pure E rfl rfl (by decide) (rn_move E rfl rfl) ?_; clear E a; intro a E
  refine list_pure E rfl rfl (by decide) (by first | exact rn_eql E rfl rfl rfl | exact rn_eql_ptr_nil E rfl rfl rfl rfl | exact rn_eql_bool E rfl rfl rfl rfl | exact rn_eql_string E rfl rfl rfl) ?_; clear E a; intro a E
  refine list_pure E rfl rfl (by decide) (rn_move E rfl rfl) ?_; clear E a; intro a E
  refine guard_true E (t := 37) rfl (rfl) (fun hb37 => ?_)
  refine list_guard_yes E rfl rfl rfl rfl hb37 rfl (by decide) (rn_move E rfl rfl) ?_; clear E a; intro a E
  refine list_guard_yes E rfl rfl rfl rfl hb37 rfl (by decide) (by first | exact rn_eql E rfl rfl rfl | exact rn_eql_ptr_nil E rfl rfl rfl rfl | exact rn_eql_bool E rfl rfl rfl rfl | exact rn_eql_string E rfl rfl rfl) ?_; clear E a; intro a E
  refine list_pure E rfl rfl (by decide) (rn_pick_yes' E rfl rfl hb37 rfl) ?_; clear E a; intro a E
  refine list_pure E rfl rfl (by decide) (rn_move E rfl rfl) ?_; clear E a; intro a E
  refine guard_true E (t := 41) rfl (rfl) (fun hb41 => ?_)
  refine list_guard_yes E rfl rfl rfl rfl hb41 rfl (by decide) (rn_move E rfl rfl) ?_; clear E a; intro a E
  refine list_guard_yes E rfl rfl rfl rfl hb41 rfl (by decide) (by first | exact rn_eql E rfl rfl rfl | exact rn_eql_ptr_nil E rfl rfl rfl rfl | exact rn_eql_bool E rfl rfl rfl rfl | exact rn_eql_string E rfl rfl rfl) ?_; clear E a; intro a E
  refine list_pure E rfl rfl (by decide) (rn_pick_yes' E rfl rfl hb41 rfl) ?_; clear E a; intro a E
  refine list_pure E rfl rfl (by decide) (rn_move E rfl rfl) ?_; clear E a; intro a E
  refine guard_true E (t := 45) rfl (rfl) (fun hb45 => ?_)
  refine list_guard_yes E rfl rfl rfl rfl hb45 rfl (by decide) (rn_move E rfl rfl) ?_; clear E a; intro a E
  refine list_guard_yes E rfl rfl rfl rfl hb45 rfl (by decide) (by first | exact rn_eql E rfl rfl rfl | exact rn_eql_ptr_nil E rfl rfl rfl rfl | exact rn_eql_bool E rfl rfl rfl rfl | exact rn_eql_string E rfl rfl rfl) ?_; clear E a; intro a E
  refine list_pure E rfl rfl (by decide) (rn_pick_yes' E rfl rfl hb45 rfl) ?_; clear E a; intro a E
  refine list_pure E rfl rfl (by decide) (rn_move E rfl rfl) ?_; clear E a; intro a E
  refine guard_true E (t := 49) rfl (rfl) (fun hb49 => ?_)
  refine list_guard_yes E rfl rfl rfl rfl hb49 rfl (by decide) (rn_move E rfl rfl) ?_; clear E a; intro a E
  refine list_pure E rfl rfl (by decide) (rn_pick_yes' E rfl rfl hb49 rfl) ?_; clear E a; intro a E
  refine list_pure E rfl rfl (by decide) (rn_move E rfl rfl) ?_; clear E a; intro a E
  refine guard_true E (t := 52) rfl (rfl) (fun hb52 => ?_)
  refine list_guard_yes E rfl rfl rfl rfl hb52 rfl (by decide) (rn_move E rfl rfl) ?_; clear E a; intro a E
  refine list_pure E rfl rfl (by decide) (rn_pick_yes' E rfl rfl hb52 rfl) ?_; clear E a; intro a E
  refine list_pure E rfl rfl (by decide) (rn_move E rfl rfl) ?_; clear E a; intro a E
  refine guard_true E (t := 55) rfl (rfl) (fun hb55 => ?_)
  refine list_guard_yes E rfl rfl rfl rfl hb55 rfl (by decide) (rn_move E rfl rfl) ?_; clear E a; intro a E
  refine list_pure E rfl rfl (by decide) (rn_pick_yes' E rfl rfl hb55 rfl) ?_; clear E a; intro a E
  refine list_pure E rfl rfl (by decide) (rn_move E rfl rfl) ?_; clear E a; intro a E
  refine guard_true E (t := 58) rfl (rfl) (fun hb58 => ?_)
  refine list_guard_yes E rfl rfl rfl rfl hb58 rfl (by decide) (rn_move E rfl rfl) ?_; clear E a; intro a E
  refine list_guard_wp E rfl rfl rfl rfl hb58 ?_; refine wp_call' E rfl (by decide) rfl Try.func22 rfl (by kernel_rfl) rfl (many_ret p _ _ A3 _ hA3 (S.hp.sel (sel_cons (by first | exact pk1 | exact pk2 | exact pk3 | exact pk4 | exact pk5 | exact pk6 | exact pk7 | exact pk8 | exact pk9) (sel_nil _)))) ?_
  rintro v60 w ⟨rfl, hT⟩; clear E a; intro a E
  have S := S.call1 (sel_cons (by first | exact pk1 | exact pk2 | exact pk3 | exact pk4 | exact pk5 | exact pk6 | exact pk7 | exact pk8 | exact pk9) (sel_nil _)) hT
  refine list_guard_yes E rfl rfl rfl rfl hb58 rfl (by decide) (by first | exact rn_eql E rfl rfl rfl | exact rn_eql_ptr_nil E rfl rfl rfl rfl | exact rn_eql_bool E rfl rfl rfl rfl | exact rn_eql_string E rfl rfl rfl) ?_; clear E a; intro a E
  refine list_pure E rfl rfl (by decide) (rn_pick_yes' E rfl rfl hb58 rfl) ?_; clear E a; intro a E
  refine list_pure E rfl rfl (by decide) (rn_move E rfl rfl) ?_; clear E a; intro a E
  refine guard_true E (t := 63) rfl (rfl) (fun hb63 => ?_)
  refine list_guard_yes E rfl rfl rfl rfl hb63 rfl (by decide) (rn_move E rfl rfl) ?_; clear E a; intro a E
  refine list_guard_wp E rfl rfl rfl rfl hb63 ?_; refine wp_call' E rfl (by decide) rfl Try.func21 rfl (by kernel_rfl) rfl (all_ret p _ _ A3 _ hA3 (by simp) (S.hp.sel (sel_cons (by first | exact pk1 | exact pk2 | exact pk3 | exact pk4 | exact pk5 | exact pk6 | exact pk7 | exact pk8 | exact pk9) (sel_nil _)))) ?_
  rintro v65 w ⟨C, hC, hT⟩; clear E a; intro a E
  obtain ⟨ad, c, rfl⟩ := hC.slice; have S := S.call2 (sel_cons (by first | exact pk1 | exact pk2 | exact pk3 | exact pk4 | exact pk5 | exact pk6 | exact pk7 | exact pk8 | exact pk9) (sel_nil _)) hT
  refine list_guard_yes E rfl rfl rfl rfl hb63 rfl (by decide) (by first | exact rn_len E rfl rfl rfl | exact rn_len_str E rfl rfl rfl | exact rn_len_string E rfl rfl rfl) ?_; clear E a; intro a E
  refine list_guard_yes E rfl rfl rfl rfl hb63 rfl (by decide) (by first | exact rn_eql E rfl rfl rfl | exact rn_eql_ptr_nil E rfl rfl rfl rfl | exact rn_eql_bool E rfl rfl rfl rfl | exact rn_eql_string E rfl rfl rfl) ?_; clear E a; intro a E
  refine list_pure E rfl rfl (by decide) (rn_pick_yes' E rfl rfl hb63 rfl) ?_; clear E a; intro a E
  refine list_pure E rfl rfl (by decide) (rn_move E rfl rfl) ?_; clear E a; intro a E
  refine guard_true E (t := 69) rfl (rfl) (fun hb69 => ?_)
  refine list_guard_yes E rfl rfl rfl rfl hb69 rfl (by decide) (rn_move E rfl rfl) ?_; clear E a; intro a E
  refine list_guard_yes E rfl rfl rfl rfl hb69 rfl (by decide) (by first | exact rn_neq E rfl rfl rfl | exact rn_neq_ptr_nil E rfl rfl rfl rfl | exact rn_neq_bool E rfl rfl rfl rfl | exact rn_neq_string E rfl rfl rfl) ?_; clear E a; intro a E
  refine list_pure E rfl rfl (by decide) (rn_pick_yes' E rfl rfl hb69 rfl) ?_; clear E a; intro a E
  refine list_pure E rfl rfl (by decide) (rn_assign E rfl rfl) ?_; clear E a; intro a E
  refine wpList_nil ?_
  refine then_k hK ?_; clear hK; clear K
  refine wp_ret ?_
  refine ret1 E rfl rfl ?_
  exact ⟨_, rfl, rfl, (S.only (Bs := []) (sel_nil _)).tr⟩

theorem alike_ret (p q : Nat) (l : List Sp) (A B : Chunk) (w0 : World) (hA : SetC p l (manyL l) A) (hB : SetD q l B) (hG : Okl l) (H : Hp w0 [A, B]) :
    Ret Try.prog 20 #[ptr p, ptr q] w0 fun u w' => u = .bool true ∧ Trs w0 w' [A, B] [A, B] := by
  have S := St.begin H
  have hB0 := hB
  obtain ⟨ad, c, C, hBe, hBB⟩ := hB.open
  have hlen := hG.len
  have hss : decide (l = l) = true := by simp
  refine enter2 60 Try.func20 rfl rfl (by decide) ?_; intro a E
  refine wp_seq_k ?_; intro K hK
  refine region_list ?_
  refine list_pure E rfl rfl (by decide) (rn_assign E rfl rfl) ?_; clear E a; intro a E
  refine wpList_nil ?_
  refine then_k hK ?_; clear hK; clear K
  refine wp_seq_k ?_; intro K hK
  refine region_list ?_
  refine list_pure E rfl rfl (by decide) (rn_move E rfl rfl) ?_; clear E a; intro a E
  refine list_call E rfl rfl (by decide) rfl Try.func21 rfl (by kernel_rfl) rfl (all_ret p _ _ A _ hA hlen (S.hp.sel (sel_cons (by first | exact pk1 | exact pk2 | exact pk3 | exact pk4 | exact pk5 | exact pk6 | exact pk7 | exact pk8 | exact pk9) (sel_nil _)))) ?_
  rintro v10 w ⟨D, hD, hT⟩; clear E a; intro a E
  have S := S.call2 (sel_cons (by first | exact pk1 | exact pk2 | exact pk3 | exact pk4 | exact pk5 | exact pk6 | exact pk7 | exact pk8 | exact pk9) (sel_nil _)) hT; obtain ⟨ad2, c2, rfl⟩ := hD.slice
  refine list_pure E rfl rfl (by decide) (rn_assign E rfl rfl) ?_; clear E a; intro a E
  refine wpList_nil ?_
  refine then_k hK ?_; clear hK; clear K
  refine wp_seq_k ?_; intro K hK
  have S := S.openP (by first | exact pk1 | exact pk2 | exact pk3 | exact pk4 | exact pk5 | exact pk6 | exact pk7 | exact pk8 | exact pk9) hBe
  refine region_list ?_
  refine list_pure E rfl rfl (by decide) (rn_move E rfl rfl) ?_; clear E a; intro a E
  refine list_pure E rfl rfl (by decide) (rn_move E rfl rfl) ?_; clear E a; intro a E
  refine list_pure E rfl rfl (by decide) (rn_nilCheck E rfl rfl) ?_; clear E a; intro a E
  refine list_pure E rfl rfl (by decide) (by first | exact rn_fieldAddr0 (q := 0) E rfl rfl rfl | exact rn_fieldAddr (q := 0) E rfl rfl rfl) ?_; clear E a; intro a E
  refine list_pure E rfl rfl (by decide) (by first | exact rn_load E rfl rfl rfl (S.get (by first | exact pk1 | exact pk2 | exact pk3 | exact pk4 | exact pk5 | exact pk6 | exact pk7 | exact pk8 | exact pk9)) rfl | exact rn_loadc E rfl rfl rfl (by assumption)) ?_; clear E a; intro a E
  refine list_call E rfl rfl (by decide) rfl Try.func23 rfl (by kernel_rfl) rfl (same_ret D C _ _ l l hD.rd hBB.rd _ (S.hp.sel (sel_cons (by first | exact pk1 | exact pk2 | exact pk3 | exact pk4 | exact pk5 | exact pk6 | exact pk7 | exact pk8 | exact pk9) (sel_cons (by first | exact pk1 | exact pk2 | exact pk3 | exact pk4 | exact pk5 | exact pk6 | exact pk7 | exact pk8 | exact pk9) (sel_nil _))))) ?_
  rintro v16 w ⟨rfl, hT⟩; clear E a; intro a E
  have S := S.call2 (sel_cons (by first | exact pk1 | exact pk2 | exact pk3 | exact pk4 | exact pk5 | exact pk6 | exact pk7 | exact pk8 | exact pk9) (sel_cons (by first | exact pk1 | exact pk2 | exact pk3 | exact pk4 | exact pk5 | exact pk6 | exact pk7 | exact pk8 | exact pk9) (sel_nil _))) hT; rw [hss] at E
  refine list_pure E rfl rfl (by decide) (rn_assign E rfl rfl) ?_; clear E a; intro a E
  refine wpList_nil ?_
  refine then_k hK ?_; clear hK; clear K
  refine wp_seq_k ?_; intro K hK
  refine wp_seq_k ?_; intro K hK
  refine region_list ?_
  refine list_pure E rfl rfl (by decide) (rn_assign E rfl rfl) ?_; clear E a; intro a E
  refine wpList_nil ?_
  refine then_k hK ?_; clear hK; clear K
  refine wp_block ?_
  refine wp_loop_ghost (fun (m : Nat) (a : Act) (w' : World) => ∃ (i : Nat) (xs : List Sp) (D : Chunk), m = l.length - i ∧ i ≤ l.length ∧ xs.length = l.length ∧ Buf D 31 2 (.slice ad2 l.length c2) l.length (xs.flatMap Sp.lay) ∧ (∃ Ls, St w0 [A, B] w' (D :: C :: [(q, cel [.slice ad l.length c] 29)] :: A :: Ls)) ∧ Fr a 60 [(0, ptr p), (1, ptr q), (5, .slice ad2 l.length c2), (6, .bool true), (7, .int .i64 i)]) (l.length - 0) ?_ ?_
  · exact ⟨0, l, D, rfl, by omega, rfl, hD, ⟨_, S.front4 (by first | exact pk1 | exact pk2 | exact pk3 | exact pk4 | exact pk5 | exact pk6 | exact pk7 | exact pk8 | exact pk9) (by first | exact pk1 | exact pk2 | exact pk3 | exact pk4 | exact pk5 | exact pk6 | exact pk7 | exact pk8 | exact pk9) (by first | exact pk1 | exact pk2 | exact pk3 | exact pk4 | exact pk5 | exact pk6 | exact pk7 | exact pk8 | exact pk9) (by first | exact pk1 | exact pk2 | exact pk3 | exact pk4 | exact pk5 | exact pk6 | exact pk7 | exact pk8 | exact pk9)⟩, E.keep (keep_cons rfl (keep_cons rfl (keep_cons rfl (keep_cons rfl (keep_cons rfl keep_nil)))))⟩
  clear E; clear a; rintro m a w ⟨i, xs, D, rfl, hi, hxl, hD, ⟨Ls, S⟩, E⟩
  refine wp_seq_k ?_; intro K hK
  refine wp_seq_k ?_; intro K hK
  refine region_list ?_
  refine list_pure E rfl rfl (by decide) (rn_move E rfl rfl) ?_; clear E a; intro a E
  refine list_pure E rfl rfl (by decide) (rn_move E rfl rfl) ?_; clear E a; intro a E
  refine list_pure E rfl rfl (by decide) (by first | exact rn_len E rfl rfl rfl | exact rn_len_str E rfl rfl rfl | exact rn_len_string E rfl rfl rfl) ?_; clear E a; intro a E
  refine list_pure E rfl rfl (by decide) (rn_lss E rfl rfl rfl) ?_; clear E a; intro a E
  refine wpList_nil ?_
  refine then_k hK ?_; clear hK; clear K
  refine if_bool E rfl (fun hb => ?_) (fun hb => ?_)
  · first | replace hb := n1 hb | replace hb := n2 hb | replace hb := n3 hb | replace hb := n4 hb | replace hb := n5 hb | replace hb := n6 hb | skip
    refine wp_skip ?_
    refine then_k hK ?_; clear hK; clear K
    refine wp_seq_k ?_; intro K hK
    refine wp_block ?_
    have hil : i < l.length := by omega
    obtain ⟨g, off, rfl⟩ := hD.rd.addr (by omega)
    obtain rfl : off = 0 := by
      rcases hD.2.2 with ⟨h, _⟩ | ⟨g', c', r', h, _⟩
      · cases h
      · cases h; rfl
    refine region_list ?_
    refine list_pure E rfl rfl (by decide) (rn_move E rfl rfl) ?_; clear E a; intro a E
    refine list_pure E rfl rfl (by decide) (rn_move E rfl rfl) ?_; clear E a; intro a E
    refine list_pure E rfl rfl (by decide) (rn_build (cells := [_, _]) E rfl rfl rfl) ?_; clear E a; intro a E
    refine list_pure E rfl rfl (by decide) (by first | exact rn_indexAddr1 E rfl rfl rfl rfl rfl rfl (by omega) | exact rn_indexAddr E rfl rfl rfl rfl rfl rfl (by omega) | exact rn_indexAddr_array E rfl rfl rfl rfl rfl rfl (by omega)) ?_; clear E a; intro a E
    refine list_wp rfl (wp_elem E S rfl rfl rfl rfl (lay := Sp.lay) (y := ⟨-1, -1⟩) rfl (Sp.lay_one _) rfl Sp.lay_len hD (by first | exact pk1 | exact pk2 | exact pk3 | exact pk4 | exact pk5 | exact pk6 | exact pk7 | exact pk8 | exact pk9) (hxl ▸ hil) (Nat.zero_add _) ?_); clear E S a; intro a w Cs4 E hBs4 S
    refine wpList_nil ?_
    refine in_normal ?_
    refine then_k hK ?_; clear hK; clear K
    refine region_list ?_
    refine list_pure E rfl rfl (by decide) (rn_move E rfl rfl) ?_; clear E a; intro a E
    refine list_pure E rfl rfl (by decide) (rn_add E rfl rfl rfl (by first | exact wa_lit (y := 1) (by omega) | exact w_in (by omega) | exact w_inu (by omega) | exact rfl)) ?_; clear E a; intro a E
    refine list_pure E rfl rfl (by decide) (rn_assign E rfl rfl) ?_; clear E a; intro a E
    refine wpList_nil ?_
    refine then_normal ?_
    exact ⟨_, by omega, i + 1, _, _, rfl, by omega, by rw [List.length_set]; exact hxl, hBs4, ⟨_, S.front4 (by first | exact pk1 | exact pk2 | exact pk3 | exact pk4 | exact pk5 | exact pk6 | exact pk7 | exact pk8 | exact pk9) (by first | exact pk1 | exact pk2 | exact pk3 | exact pk4 | exact pk5 | exact pk6 | exact pk7 | exact pk8 | exact pk9) (by first | exact pk1 | exact pk2 | exact pk3 | exact pk4 | exact pk5 | exact pk6 | exact pk7 | exact pk8 | exact pk9) (by first | exact pk1 | exact pk2 | exact pk3 | exact pk4 | exact pk5 | exact pk6 | exact pk7 | exact pk8 | exact pk9)⟩, E.keep (keep_cons rfl (keep_cons rfl (keep_cons rfl (keep_cons rfl (keep_cons rfl keep_nil)))))⟩
  · first | replace hb := n1 hb | replace hb := n2 hb | replace hb := n3 hb | replace hb := n4 hb | replace hb := n5 hb | replace hb := n6 hb | skip
    refine wp_exit ?_
    refine then_exit ?_; clear hK; clear K
    refine then_exit ?_
    refine in_exit ?_
    refine then_k hK ?_; clear hK; clear K
    refine wp_seq_k ?_; intro K hK
    refine region_list ?_
    refine list_pure E rfl rfl (by decide) (rn_move E rfl rfl) ?_; clear E a; intro a E
    refine list_pure E rfl rfl (by decide) (rn_build (cells := [_, _]) E rfl rfl rfl) ?_; clear E a; intro a E
    refine list_wp rfl (wp_bslice (cells := [_, _]) E S rfl rfl (by decide) rfl rfl rfl rfl rfl (by decide) rfl ?_); clear E S a; intro a w b29 E S
    refine list_wp rfl (wp_append (by' := 16) E S rfl rfl (by decide) rfl rfl hD (by first | exact pk1 | exact pk2 | exact pk3 | exact pk4 | exact pk5 | exact pk6 | exact pk7 | exact pk8 | exact pk9) ((rd1 _ _ _ _).src (S.stab.at (by first | exact mm1 | exact mm2 | exact mm3 | exact mm4 | exact mm5 | exact mm6 | exact mm7 | exact mm8)) rfl) rfl rfl rfl rfl rfl rfl (by simp only [maxLen]; omega) (by omega) ?_); clear E S a; intro a w v30 C30 E S hB30
    obtain ⟨ad7, c7, rfl⟩ := hB30.slice
    refine list_pure E rfl rfl (by decide) (rn_assign E rfl rfl) ?_; clear E a; intro a E
    refine wpList_nil ?_
    refine then_k hK ?_; clear hK; clear K
    refine wp_seq_k ?_; intro K hK
    refine region_mix0 S [(0, 0), (2, 0), (3, 0), (4, 0), (5, 0), (1, 1), (6, 3), (7, 2)] (by kernel_rfl) (by kernel_rfl) ?_
    clear S; intro w S
    refine mix_pure E rfl rfl rfl (by decide) (fun w h => rn_move E rfl rfl) ?_; clear E a; intro a E
    refine mix_pure E rfl rfl rfl (by decide) (fun w h => rn_move E rfl rfl) ?_; clear E a; intro a E
    refine mix_pure E rfl rfl rfl (by decide) (fun w h => rn_nilCheck E rfl rfl) ?_; clear E a; intro a E
    refine mix_pure E rfl rfl rfl (by decide) (fun w h => by first | exact rn_fieldAddr0 (q := 0) E rfl rfl rfl | exact rn_fieldAddr (q := 0) E rfl rfl rfl) ?_; clear E a; intro a E
    refine mix_pure E rfl rfl rfl (by decide) (fun w h => by first | exact rn_load E rfl rfl rfl (h.one (by first | exact mm1 | exact mm2 | exact mm3 | exact mm4 | exact mm5 | exact mm6 | exact mm7 | exact mm8)) rfl | exact rn_loadc E rfl rfl rfl (by assumption)) ?_; clear E a; intro a E
    refine mix_call E rfl rfl rfl (by decide) rfl Try.func21 rfl (by kernel_rfl) rfl (all_ret p _ _ A _ hA hlen (S.hp.sel (sel_cons (by first | exact pk1 | exact pk2 | exact pk3 | exact pk4 | exact pk5 | exact pk6 | exact pk7 | exact pk8 | exact pk9) (sel_nil _)))) ?_
    rintro v32 w ⟨D2, hD2, hT⟩; clear E a; intro a E
    have S := S.call2 (sel_cons (by first | exact pk1 | exact pk2 | exact pk3 | exact pk4 | exact pk5 | exact pk6 | exact pk7 | exact pk8 | exact pk9) (sel_nil _)) hT; obtain ⟨ad3, c3, rfl⟩ := hD2.slice
    refine ⟨S.stab.sub (by first | (simp; done) | (simp +contextual; done)), ?_⟩
    refine mix_call3 E rfl rfl rfl (by decide) rfl Try.func23 rfl (by kernel_rfl) rfl (same_ret D2 C _ _ l l hD2.rd hBB.rd _ (S.hp.sel (sel_cons (by first | exact pk1 | exact pk2 | exact pk3 | exact pk4 | exact pk5 | exact pk6 | exact pk7 | exact pk8 | exact pk9) (sel_cons (by first | exact pk1 | exact pk2 | exact pk3 | exact pk4 | exact pk5 | exact pk6 | exact pk7 | exact pk8 | exact pk9) (sel_nil _))))) ?_
    rintro v37 w ⟨rfl, hT⟩; clear E a; intro a E
    have S := S.call2 (sel_cons (by first | exact pk1 | exact pk2 | exact pk3 | exact pk4 | exact pk5 | exact pk6 | exact pk7 | exact pk8 | exact pk9) (sel_cons (by first | exact pk1 | exact pk2 | exact pk3 | exact pk4 | exact pk5 | exact pk6 | exact pk7 | exact pk8 | exact pk9) (sel_nil _))) hT; rw [hss] at E
    refine mix_free E rfl rfl rfl (by decide) (fun w => rn_assign E rfl rfl) ?_; clear E a; intro a E
    refine mix_nil ?_
    refine then_k hK ?_; clear hK; clear K
    refine wp_seq_k ?_; intro K hK
    have S := S.closeP (B := [(q, _)]) (C := C) (by first | exact pk1 | exact pk2 | exact pk3 | exact pk4 | exact pk5 | exact pk6 | exact pk7 | exact pk8 | exact pk9) (by first | exact pk1 | exact pk2 | exact pk3 | exact pk4 | exact pk5 | exact pk6 | exact pk7 | exact pk8 | exact pk9) hBe
    refine region_list ?_
    refine list_pure E rfl rfl (by decide) (rn_move E rfl rfl) ?_; clear E a; intro a E
    refine list_pure E rfl rfl (by decide) (rn_move E rfl rfl) ?_; clear E a; intro a E
    refine guard_true E (t := 39) rfl (rfl) (fun hb39 => ?_)
    refine list_guard_yes E rfl rfl rfl rfl hb39 rfl (by decide) (rn_move E rfl rfl) ?_; clear E a; intro a E
    refine list_pure E rfl rfl (by decide) (rn_pick_yes' E rfl rfl hb39 rfl) ?_; clear E a; intro a E
    refine list_pure E rfl rfl (by decide) (rn_move E rfl rfl) ?_; clear E a; intro a E
    refine guard_true E (t := 42) rfl (rfl) (fun hb42 => ?_)
    refine list_guard_yes E rfl rfl rfl rfl hb42 rfl (by decide) (rn_move E rfl rfl) ?_; clear E a; intro a E
    refine list_guard_wp E rfl rfl rfl rfl hb42 ?_; refine wp_call' E rfl (by decide) rfl Try.func22 rfl (by kernel_rfl) rfl (many_ret p l _ A _ hA (S.hp.sel (sel_cons (by first | exact pk1 | exact pk2 | exact pk3 | exact pk4 | exact pk5 | exact pk6 | exact pk7 | exact pk8 | exact pk9) (sel_nil _)))) ?_
    rintro v44 w ⟨rfl, hT⟩; clear E a; intro a E
    have S := S.call1 (sel_cons (by first | exact pk1 | exact pk2 | exact pk3 | exact pk4 | exact pk5 | exact pk6 | exact pk7 | exact pk8 | exact pk9) (sel_nil _)) hT
    refine list_guard_yes E rfl rfl rfl rfl hb42 rfl (by decide) (rn_move E rfl rfl) ?_; clear E a; intro a E
    refine list_guard_wp E rfl rfl rfl rfl hb42 ?_; refine wp_call' E rfl (by decide) rfl Try.func33 rfl (by kernel_rfl) rfl (dmany_ret q l B _ hB0 hG (S.hp.sel (sel_cons (by first | exact pk1 | exact pk2 | exact pk3 | exact pk4 | exact pk5 | exact pk6 | exact pk7 | exact pk8 | exact pk9) (sel_nil _)))) ?_
    rintro v46 w ⟨rfl, hT⟩; clear E a; intro a E
    have S := S.call1 (sel_cons (by first | exact pk1 | exact pk2 | exact pk3 | exact pk4 | exact pk5 | exact pk6 | exact pk7 | exact pk8 | exact pk9) (sel_nil _)) hT
    refine list_guard_yes E rfl rfl rfl rfl hb42 rfl (by decide) (by first | exact rn_eql E rfl rfl rfl | exact rn_eql_ptr_nil E rfl rfl rfl rfl | exact rn_eql_bool E rfl rfl rfl rfl | exact rn_eql_string E rfl rfl rfl) ?_; clear E a; intro a E
    refine list_pure E rfl rfl (by decide) (rn_pick_yes' E rfl rfl hb42 rfl) ?_; clear E a; intro a E
    refine list_pure E rfl rfl (by decide) (rn_move E rfl rfl) ?_; clear E a; intro a E
    have S := S.openP (A := B) (by first | exact pk1 | exact pk2 | exact pk3 | exact pk4 | exact pk5 | exact pk6 | exact pk7 | exact pk8 | exact pk9) hBe
    refine guard_true E (t := 49) rfl ((beq_self_eq_true _)) (fun hb49 => ?_)
    refine list_guard_yes E rfl rfl rfl rfl hb49 rfl (by decide) (rn_move E rfl rfl) ?_; clear E a; intro a E
    refine list_guard_yes E rfl rfl rfl rfl hb49 rfl (by decide) (by first | exact rn_len E rfl rfl rfl | exact rn_len_str E rfl rfl rfl | exact rn_len_string E rfl rfl rfl) ?_; clear E a; intro a E
    refine list_guard_yes E rfl rfl rfl rfl hb49 rfl (by decide) (rn_move E rfl rfl) ?_; clear E a; intro a E
    refine list_guard_yes E rfl rfl rfl rfl hb49 rfl (by decide) (rn_nilCheck E rfl rfl) ?_; clear E a; intro a E
    refine list_guard_yes E rfl rfl rfl rfl hb49 rfl (by decide) (by first | exact rn_fieldAddr0 (q := 0) E rfl rfl rfl | exact rn_fieldAddr (q := 0) E rfl rfl rfl) ?_; clear E a; intro a E
    refine list_guard_yes E rfl rfl rfl rfl hb49 rfl (by decide) (by first | exact rn_load E rfl rfl rfl (S.get (by first | exact pk1 | exact pk2 | exact pk3 | exact pk4 | exact pk5 | exact pk6 | exact pk7 | exact pk8 | exact pk9)) rfl | exact rn_loadc E rfl rfl rfl (by assumption)) ?_; clear E a; intro a E
    refine list_guard_yes E rfl rfl rfl rfl hb49 rfl (by decide) (by first | exact rn_len E rfl rfl rfl | exact rn_len_str E rfl rfl rfl | exact rn_len_string E rfl rfl rfl) ?_; clear E a; intro a E
    refine list_guard_yes E rfl rfl rfl rfl hb49 rfl (by decide) (rn_add E rfl rfl rfl (by first | exact wa_lit (y := 1) (by omega) | exact w_in (by omega) | exact w_inu (by omega) | exact rfl)) ?_; clear E a; intro a E
    refine list_guard_yes E rfl rfl rfl rfl hb49 rfl (by decide) (by first | exact rn_eql E rfl rfl rfl | exact rn_eql_ptr_nil E rfl rfl rfl rfl | exact rn_eql_bool E rfl rfl rfl rfl | exact rn_eql_string E rfl rfl rfl) ?_; clear E a; intro a E
    refine list_pure E rfl rfl (by decide) (rn_pick_yes' E rfl rfl hb49 rfl) ?_; clear E a; intro a E
    refine list_pure E rfl rfl (by decide) (rn_assign E rfl rfl) ?_; clear E a; intro a E
    refine wpList_nil ?_
    refine then_k hK ?_; clear hK; clear K
    refine wp_ret ?_
    refine ret1 E rfl rfl ?_
    obtain rfl : i = l.length := by omega
    exact ⟨_, rfl, by simp, ((S.closeP (B := [(q, _)]) (C := C) (by first | exact pk1 | exact pk2 | exact pk3 | exact pk4 | exact pk5 | exact pk6 | exact pk7 | exact pk8 | exact pk9) (by first | exact pk1 | exact pk2 | exact pk3 | exact pk4 | exact pk5 | exact pk6 | exact pk7 | exact pk8 | exact pk9) hBe).only (Bs := [A, B]) (sel_cons (by first | exact pk1 | exact pk2 | exact pk3 | exact pk4 | exact pk5 | exact pk6 | exact pk7 | exact pk8 | exact pk9) (sel_cons (by first | exact pk1 | exact pk2 | exact pk3 | exact pk4 | exact pk5 | exact pk6 | exact pk7 | exact pk8 | exact pk9) (sel_nil _)))).tr⟩

/-- What the law keeps: two sets that say the same, and two older ones. -/
def Duo (w0 w' : World) (O : Chunk) (ps rs po ro : Nat) : Prop :=
  ∃ (l lo : List Sp) (A B X : Chunk) (Ls : List Chunk), Okl l ∧ SetC ps l (manyL l) A ∧ SetD rs l B ∧
    ((po = ps ∧ ro = rs ∧ X = []) ∨ ∃ A' B', X = A' ++ B' ∧ SetC po lo (manyL lo) A' ∧ SetD ro lo B' ∧ Okl lo) ∧ St w0 [O] w' (A :: B :: X :: O :: Ls)
theorem Duo.old {w0 w' : World} {O : Chunk} {ps rs po ro : Nat} (h : Duo w0 w' O ps rs po ro) : ∃ (l : List Sp) (A B : Chunk) (Ls : List Chunk), Okl l ∧ SetC po l (manyL l) A ∧ SetD ro l B ∧ St w0 [O] w' (A :: B :: O :: Ls) := by
  obtain ⟨l, lo, A, B, X, Ls, hG, hA, hB, hX, S⟩ := h
  rcases hX with ⟨rfl, rfl, rfl⟩ | ⟨A', B', rfl, hA', hB', hG'⟩
  · exact ⟨l, A, B, _, hG, hA, hB, S.front3 (by first | exact pk1 | exact pk2 | exact pk3 | exact pk4 | exact pk5 | exact pk6 | exact pk7 | exact pk8 | exact pk9) (by first | exact pk1 | exact pk2 | exact pk3 | exact pk4 | exact pk5 | exact pk6 | exact pk7 | exact pk8 | exact pk9) (C := O) (by first | exact pk1 | exact pk2 | exact pk3 | exact pk4 | exact pk5 | exact pk6 | exact pk7 | exact pk8 | exact pk9)⟩
  · exact ⟨lo, A', B', _, hG', hA', hB', ((S.openP (A := A' ++ B') (by first | exact pk1 | exact pk2 | exact pk3 | exact pk4 | exact pk5 | exact pk6 | exact pk7 | exact pk8 | exact pk9) rfl).front3 (by first | exact pk1 | exact pk2 | exact pk3 | exact pk4 | exact pk5 | exact pk6 | exact pk7 | exact pk8 | exact pk9) (by first | exact pk1 | exact pk2 | exact pk3 | exact pk4 | exact pk5 | exact pk6 | exact pk7 | exact pk8 | exact pk9) (C := O) (by first | exact pk1 | exact pk2 | exact pk3 | exact pk4 | exact pk5 | exact pk6 | exact pk7 | exact pk8 | exact pk9))⟩
end Go.Proofs.Ytogpohhhhjpmdaa
namespace Go.Sl
structure ROp where
  kind : Int
  x : Sp
def ROp.lay (o : ROp) : List Value := [.int .i64 o.kind, .int .i64 o.x.at_, .int .i64 o.x.many]
theorem ROp.lay_len (o : ROp) : o.lay.length = 3 := rfl
theorem ROp.lay_one (o : ROp) : ∀ u ∈ o.lay, u.oneCell' = true := fun u hu => by
  simp only [ROp.lay, List.mem_cons, List.not_mem_nil, or_false] at hu
  rcases hu with rfl | rfl | rfl <;> rfl
end Go.Sl
namespace Go.Proofs.Ytogpohhhhjpmdaa
open Go.Sl Go.ChangeShapes Go.WideShapes Go.ChangeAt Go.RowKit Go.ChangeMaps

theorem dec_rop {H : Type} {enc : TypeId × Value → H} {w : World} : Dec enc Try.prog w 33 3 ROp.lay (fun o => o.x.i64) := fun n cs x h hlen hw => by
  match cs, hlen with
  | [c0, c1, c2], _ =>
  have ki : Try.prog.cellsOf 3 = 1 := by kernel_rfl
  have ks : Try.prog.cellsOf 31 = 2 := by kernel_rfl
  have ht := Try.underlying33
  obtain ⟨a, e0, h0⟩ := dec_field 0 0 ht h hw rfl ki (dec_i64 (enc := enc) Try.underlying3) (by simp)
  obtain ⟨b, e1, h1⟩ := dec_field 1 1 ht h hw rfl ks (dec_span (enc := enc)) (by simp)
  simp only [List.drop_succ_cons, List.drop_zero, List.take_succ_cons, List.take_zero, List.cons.injEq, and_true, Sp.lay] at e0 e1
  obtain ⟨rfl, rfl⟩ := e1
  subst e0
  exact ⟨⟨a, b⟩, rfl, h1⟩

theorem does_walk (O : Chunk) (v : Value) (l : List ROp) (hO : Rd O 3 v l.length (l.flatMap ROp.lay)) (hg : ∀ o ∈ l, o.x.i64) (hl : l.length ≤ 140737488351232) (w0 : World) (H : Hp w0 [O]) :
    Ret Try.prog 3 #[v] w0 fun u w' => u = .bool true ∧ Trs w0 w' [O] [O] := by
  have S := St.begin H
  obtain ⟨ad, c, rfl⟩ := hO.slice
  refine enter1 134 Try.func3 rfl rfl (by decide) ?_; intro a E
  refine wp_seq_k ?_; intro K hK
  refine region_list ?_
  refine list_pure E rfl rfl (by decide) (rn_assign E rfl rfl) ?_; clear E a; intro a E
  refine wpList_nil ?_
  refine then_k hK ?_; clear hK; clear K
  refine wp_seq_k ?_; intro K hK
  refine region_list ?_
  refine list_call E rfl rfl (by decide) rfl Try.func6 rfl (by kernel_rfl) rfl (awake_ret _) ?_
  rintro v18 w ⟨rfl, hT⟩; clear E a; intro a E
  have S := S.quiet hT
  refine list_pure E rfl rfl (by decide) (rn_assign E rfl rfl) ?_; clear E a; intro a E
  refine wpList_nil ?_
  refine then_k hK ?_; clear hK; clear K
  refine wp_seq_k ?_; intro K hK
  refine region_list ?_
  refine list_call E rfl rfl (by decide) rfl Try.func7 rfl (by kernel_rfl) rfl (new_ret _) ?_
  rintro v19 w ⟨ps, A, rfl, hA, hT⟩; clear E a; intro a E
  have S := S.fresh hT
  refine list_pure E rfl rfl (by decide) (rn_assign E rfl rfl) ?_; clear E a; intro a E
  refine wpList_nil ?_
  refine then_k hK ?_; clear hK; clear K
  refine wp_seq_k ?_; intro K hK
  refine region_list ?_
  refine list_pure E rfl rfl (by decide) (rn_build (cells := [_]) E rfl rfl rfl) ?_; clear E a; intro a E
  refine list_wp rfl (wp_box E S rfl rfl (by decide) rfl rfl ?_); clear E S a; intro a w b21 E S
  refine list_pure E rfl rfl (by decide) (rn_assign E rfl rfl) ?_; clear E a; intro a E
  refine wpList_nil ?_
  refine then_k hK ?_; clear hK; clear K
  refine wp_seq_k ?_; intro K hK
  refine wp_seq_k ?_; intro K hK
  refine region_list ?_
  refine list_pure E rfl rfl (by decide) (rn_move E rfl rfl) ?_; clear E a; intro a E
  refine list_pure E rfl rfl (by decide) (by first | exact rn_eql E rfl rfl rfl | exact rn_eql_ptr_nil E rfl rfl rfl rfl | exact rn_eql_bool E rfl rfl rfl rfl | exact rn_eql_string E rfl rfl rfl) ?_; clear E a; intro a E
  refine list_pure E rfl rfl (by decide) (rn_move E rfl rfl) ?_; clear E a; intro a E
  refine guard_false E (t := 24) rfl (rfl) (fun hb24 => ?_)
  refine list_guard_yes E rfl rfl rfl rfl hb24 rfl (by decide) (rn_move E rfl rfl) ?_; clear E a; intro a E
  refine list_guard_yes E rfl rfl rfl rfl hb24 rfl (by decide) (rn_not E rfl rfl) ?_; clear E a; intro a E
  refine list_pure E rfl rfl (by decide) (rn_pick_no' E rfl rfl hb24 rfl) ?_; clear E a; intro a E
  refine wpList_nil ?_
  refine then_k hK ?_; clear hK; clear K
  refine if_false' E rfl (rfl) ?_
  refine wp_skip ?_
  refine then_k hK ?_; clear hK; clear K
  refine wp_seq_k ?_; intro K hK
  refine region_list ?_
  refine list_pure E rfl rfl (by decide) (rn_move E rfl rfl) ?_; clear E a; intro a E
  refine list_pure E rfl rfl (by decide) (rn_assign E rfl rfl) ?_; clear E a; intro a E
  refine wpList_nil ?_
  refine then_k hK ?_; clear hK; clear K
  refine wp_seq_k ?_; intro K hK
  refine region_list ?_
  refine list_pure E rfl rfl (by decide) (rn_move E rfl rfl) ?_; clear E a; intro a E
  refine list_pure E rfl rfl (by decide) (rn_assign E rfl rfl) ?_; clear E a; intro a E
  refine wpList_nil ?_
  refine then_k hK ?_; clear hK; clear K
  refine wp_seq_k ?_; intro K hK
  refine wp_seq_k ?_; intro K hK
  refine region_list ?_
  refine list_pure E rfl rfl (by decide) (rn_assign E rfl rfl) ?_; clear E a; intro a E
  refine wpList_nil ?_
  refine then_k hK ?_; clear hK; clear K
  refine wp_block ?_
  refine wp_loop_ghost (fun (m : Nat) (a : Act) (w' : World) => ∃ (i ps rs po ro : Nat), m = l.length - i ∧ i ≤ l.length ∧ Duo w0 w' O ps rs po ro ∧ Fr a 134 [(0, .slice ad l.length c), (4, ptr ps), (5, ptr rs), (6, ptr po), (7, ptr ro), (8, .int .i64 i)]) (l.length - 0) ?_ ?_
  · exact ⟨0, ps, b21, ps, b21, rfl, by omega, ⟨[], [], A, [(b21, _)] ++ [], [], [], gd_nil.okl (by simp), hA, ⟨_, [], rfl, Buf.nil _ _⟩, .inl ⟨rfl, rfl, rfl⟩, (S.addNil.addNil.closeP (B := [(b21, _)]) (C := []) (by first | exact pk1 | exact pk2 | exact pk3 | exact pk4 | exact pk5 | exact pk6 | exact pk7 | exact pk8 | exact pk9) (by first | exact pk1 | exact pk2 | exact pk3 | exact pk4 | exact pk5 | exact pk6 | exact pk7 | exact pk8 | exact pk9) rfl).front4 (by first | exact pk1 | exact pk2 | exact pk3 | exact pk4 | exact pk5 | exact pk6 | exact pk7 | exact pk8 | exact pk9) (by first | exact pk1 | exact pk2 | exact pk3 | exact pk4 | exact pk5 | exact pk6 | exact pk7 | exact pk8 | exact pk9) (by first | exact pk1 | exact pk2 | exact pk3 | exact pk4 | exact pk5 | exact pk6 | exact pk7 | exact pk8 | exact pk9) (by first | exact pk1 | exact pk2 | exact pk3 | exact pk4 | exact pk5 | exact pk6 | exact pk7 | exact pk8 | exact pk9)⟩, E.keep (keep_cons rfl (keep_cons rfl (keep_cons rfl (keep_cons rfl (keep_cons rfl (keep_cons rfl keep_nil))))))⟩
  clear E; clear a; rintro m a w ⟨i, ps, rs, po, ro, rfl, hi, ⟨k, ko, A, B, X, Ls, hG, hA, hB, hX, S⟩, E⟩
  refine wp_seq_k ?_; intro K hK
  refine wp_seq_k ?_; intro K hK
  refine region_list ?_
  refine list_pure E rfl rfl (by decide) (rn_move E rfl rfl) ?_; clear E a; intro a E
  refine list_pure E rfl rfl (by decide) (rn_move E rfl rfl) ?_; clear E a; intro a E
  refine list_pure E rfl rfl (by decide) (by first | exact rn_len E rfl rfl rfl | exact rn_len_str E rfl rfl rfl | exact rn_len_string E rfl rfl rfl) ?_; clear E a; intro a E
  refine list_pure E rfl rfl (by decide) (rn_lss E rfl rfl rfl) ?_; clear E a; intro a E
  refine wpList_nil ?_
  refine then_k hK ?_; clear hK; clear K
  refine if_bool E rfl (fun hb => ?_) (fun hb => ?_)
  · first | replace hb := n1 hb | replace hb := n2 hb | replace hb := n3 hb | replace hb := n4 hb | replace hb := n5 hb | replace hb := n6 hb | skip
    refine wp_skip ?_
    refine then_k hK ?_; clear hK; clear K
    refine wp_seq_k ?_; intro K hK
    refine wp_block ?_
    refine wp_seq_k ?_; intro K hK
    have hil : i < l.length := by omega
    have hk0 := hG.len
    obtain ⟨b, off, rfl⟩ := hO.addr (by omega)
    have hgi := hg _ (List.getElem_mem hil)
    refine region_list ?_
    refine list_pure E rfl rfl (by decide) (rn_move E rfl rfl) ?_; clear E a; intro a E
    refine list_pure E rfl rfl (by decide) (rn_move E rfl rfl) ?_; clear E a; intro a E
    refine list_pure E rfl rfl (by decide) (by first | exact rn_indexAddr1 E rfl rfl rfl rfl rfl rfl (by omega) | exact rn_indexAddr E rfl rfl rfl rfl rfl rfl (by omega) | exact rn_indexAddr_array E rfl rfl rfl rfl rfl rfl (by omega)) ?_; clear E a; intro a E
    refine list_pure E rfl rfl (by decide) (by first | exact rn_fieldAddr0 (q := 1) E rfl rfl rfl | exact rn_fieldAddr (q := 1) E rfl rfl rfl) ?_; clear E a; intro a E
    refine list_pure E rfl rfl (by decide) (rn_load_aggc (vs := [_, _]) E rfl rfl rfl rfl (cells_drop (hO.elem (lay := ROp.lay) ROp.lay_len (S.stab.at (by first | exact mm1 | exact mm2 | exact mm3 | exact mm4 | exact mm5 | exact mm6 | exact mm7 | exact mm8)) hil) 1)) ?_; clear E a; intro a E
    refine list_wp rfl (wp_alloc E S rfl rfl (by decide) rfl rfl rfl ?_); clear E S a; intro a w b9 E S
    refine list_wp rfl (wp_storeN E S rfl rfl rfl rfl (by simp [Value.oneCell']) rfl (by first | exact pk1 | exact pk2 | exact pk3 | exact pk4 | exact pk5 | exact pk6 | exact pk7 | exact pk8 | exact pk9) (by simp) ?_); clear E S a; intro a w E S; simp only [List.take_succ_cons, List.take_zero, List.drop_succ_cons, List.drop_zero, List.cons_append, List.nil_append, List.append_nil, List.length_cons, List.length_nil, Nat.zero_add, Nat.add_zero] at S
    refine wpList_nil ?_
    refine then_k hK ?_; clear hK; clear K
    refine wp_seq_k ?_; intro K hK
    refine region_list ?_
    refine list_pure E rfl rfl (by decide) (rn_assign E rfl rfl) ?_; clear E a; intro a E
    refine wpList_nil ?_
    refine then_k hK ?_; clear hK; clear K
    refine wp_seq_k ?_; intro K hK
    refine wp_seq_k ?_; intro K hK
    refine region_list ?_
    refine list_pure E rfl rfl (by decide) (rn_move E rfl rfl) ?_; clear E a; intro a E
    refine list_pure E rfl rfl (by decide) (rn_move E rfl rfl) ?_; clear E a; intro a E
    refine list_pure E rfl rfl (by decide) (by first | exact rn_indexAddr1 E rfl rfl rfl rfl rfl rfl (by omega) | exact rn_indexAddr E rfl rfl rfl rfl rfl rfl (by omega) | exact rn_indexAddr_array E rfl rfl rfl rfl rfl rfl (by omega)) ?_; clear E a; intro a E
    refine list_pure E rfl rfl (by decide) (by first | exact rn_fieldAddr0 (q := 0) E rfl rfl rfl | exact rn_fieldAddr (q := 0) E rfl rfl rfl) ?_; clear E a; intro a E
    refine list_pure E rfl rfl (by decide) (rn_loadc E rfl rfl rfl (hO.elem (lay := ROp.lay) ROp.lay_len (S.stab.at (by first | exact mm1 | exact mm2 | exact mm3 | exact mm4 | exact mm5 | exact mm6 | exact mm7 | exact mm8)) hil 0 _ rfl)) ?_; clear E a; intro a E
    refine wpList_nil ?_
    refine then_k hK ?_; clear hK; clear K
    refine wp_join (fun (a : Act) (w' : World) => ∃ (ps rs po ro : Nat), Duo w0 w' O ps rs po ro ∧ Fr a 134 [(0, .slice (some ⟨b, off, none⟩) l.length c), (4, ptr ps), (5, ptr rs), (6, ptr po), (7, ptr ro), (8, .int .i64 i), (10, .bool true)]) ?_ ?_
    · refine wp_block ?_
      refine wp_seq_k ?_; intro K hK
      refine region_list ?_
      refine list_pure E rfl rfl (by decide) (by first | exact rn_eql E rfl rfl rfl | exact rn_eql_ptr_nil E rfl rfl rfl rfl | exact rn_eql_bool E rfl rfl rfl rfl | exact rn_eql_string E rfl rfl rfl) ?_; clear E a; intro a E
      refine list_pure E rfl rfl (by decide) (rn_assign E rfl rfl) ?_; clear E a; intro a E
      refine wpList_nil ?_
      refine then_k hK ?_; clear hK; clear K
      refine if_bool E rfl (fun hb => ?_) (fun hb => ?_)
      · first | replace hb := n1 hb | replace hb := n2 hb | replace hb := n3 hb | replace hb := n4 hb | replace hb := n5 hb | replace hb := n6 hb | skip
        refine region_mix S [(0, 0), (1, 0), (3, 0), (4, 0), (2, 1), (5, 3), (6, 2), (7, 2)] [[(b9, cel [.int .i64 (l[i]'hil).x.at_, .int .i64 (l[i]'hil).x.many] 31)]] (fun h => h.sub (by first | (simp; done) | (simp +contextual; done))) (by kernel_rfl) (by kernel_rfl) ?_
        clear S; intro w S
        refine mix_pure E rfl rfl rfl (by decide) (fun w h => rn_move E rfl rfl) ?_; clear E a; intro a E
        refine mix_pure E rfl rfl rfl (by decide) (fun w h => rn_load_blk (vs := [_, _]) E rfl rfl rfl (h.one (by first | exact mm1 | exact mm2 | exact mm3 | exact mm4 | exact mm5 | exact mm6 | exact mm7 | exact mm8)) rfl rfl) ?_; clear E a; intro a E
        refine mix_pure E rfl rfl rfl (by decide) (fun w h => rn_move E rfl rfl) ?_; clear E a; intro a E
        refine mix_pure E rfl rfl rfl (by decide) (fun w h => rn_load_blk (vs := [_, _]) E rfl rfl rfl (h.one (by first | exact mm1 | exact mm2 | exact mm3 | exact mm4 | exact mm5 | exact mm6 | exact mm7 | exact mm8)) rfl rfl) ?_; clear E a; intro a E
        refine mix_call E rfl rfl rfl (by decide) rfl Try.func8 rfl (by kernel_rfl) rfl (add_ret ps k (l[i]'hil).x A _ hA hG (S.hp.sel (sel_cons (by first | exact pk1 | exact pk2 | exact pk3 | exact pk4 | exact pk5 | exact pk6 | exact pk7 | exact pk8 | exact pk9) (sel_nil _)))) ?_
        rintro v50 w ⟨rfl, A1, hA1, hT⟩; clear E a; intro a E
        have S := S.call1 (sel_cons (by first | exact pk1 | exact pk2 | exact pk3 | exact pk4 | exact pk5 | exact pk6 | exact pk7 | exact pk8 | exact pk9) (sel_nil _)) hT
        refine ⟨S.stab.sub (by first | (simp; done) | (simp +contextual; done)), ?_⟩
        refine mix_call3 E rfl rfl rfl (by decide) rfl Try.func9 rfl (by kernel_rfl) rfl (dadd_ret rs k (l[i]'hil).x B _ hB hG (S.hp.sel (sel_cons (by first | exact pk1 | exact pk2 | exact pk3 | exact pk4 | exact pk5 | exact pk6 | exact pk7 | exact pk8 | exact pk9) (sel_nil _)))) ?_
        rintro v53 w ⟨rfl, B1, hB1, hT⟩; clear E a; intro a E
        have S := S.call1 (sel_cons (by first | exact pk1 | exact pk2 | exact pk3 | exact pk4 | exact pk5 | exact pk6 | exact pk7 | exact pk8 | exact pk9) (sel_nil _)) hT
        refine mix_free E rfl rfl rfl (by decide) (fun w => by first | exact rn_eql E rfl rfl rfl | exact rn_eql_ptr_nil E rfl rfl rfl rfl | exact rn_eql_bool E rfl rfl rfl rfl | exact rn_eql_string E rfl rfl rfl) ?_; clear E a; intro a E
        refine mix_free E rfl rfl rfl (by decide) (fun w => rn_assign E rfl rfl) ?_; clear E a; intro a E
        refine mix_nil ?_
        refine in_normal ?_
        refine joined_here ?_
        rw [beq_self_eq_true] at E; exact ⟨ps, rs, po, ro, ⟨addS k (l[i]'hil).x, ko, A1, B1, X, _, addS_gd hG _, hA1, hB1, hX, S.front4 (by first | exact pk1 | exact pk2 | exact pk3 | exact pk4 | exact pk5 | exact pk6 | exact pk7 | exact pk8 | exact pk9) (by first | exact pk1 | exact pk2 | exact pk3 | exact pk4 | exact pk5 | exact pk6 | exact pk7 | exact pk8 | exact pk9) (by first | exact pk1 | exact pk2 | exact pk3 | exact pk4 | exact pk5 | exact pk6 | exact pk7 | exact pk8 | exact pk9) (by first | exact pk1 | exact pk2 | exact pk3 | exact pk4 | exact pk5 | exact pk6 | exact pk7 | exact pk8 | exact pk9)⟩, E.keep (keep_cons rfl (keep_cons rfl (keep_cons rfl (keep_cons rfl (keep_cons rfl (keep_cons rfl (keep_cons rfl keep_nil)))))))⟩
      · first | replace hb := n1 hb | replace hb := n2 hb | replace hb := n3 hb | replace hb := n4 hb | replace hb := n5 hb | replace hb := n6 hb | skip
        refine wp_seq_k ?_; intro K hK
        refine region_list ?_
        refine list_pure E rfl rfl (by decide) (by first | exact rn_eql E rfl rfl rfl | exact rn_eql_ptr_nil E rfl rfl rfl rfl | exact rn_eql_bool E rfl rfl rfl rfl | exact rn_eql_string E rfl rfl rfl) ?_; clear E a; intro a E
        refine list_pure E rfl rfl (by decide) (rn_assign E rfl rfl) ?_; clear E a; intro a E
        refine wpList_nil ?_
        refine then_k hK ?_; clear hK; clear K
        refine if_bool E rfl (fun hb => ?_) (fun hb => ?_)
        · first | replace hb := n1 hb | replace hb := n2 hb | replace hb := n3 hb | replace hb := n4 hb | replace hb := n5 hb | replace hb := n6 hb | skip
          refine region_mix S [(0, 0), (1, 0), (3, 0), (4, 0), (2, 1), (5, 3), (6, 2), (7, 2)] [[(b9, cel [.int .i64 (l[i]'hil).x.at_, .int .i64 (l[i]'hil).x.many] 31)]] (fun h => h.sub (by first | (simp; done) | (simp +contextual; done))) (by kernel_rfl) (by kernel_rfl) ?_
          clear S; intro w S
          refine mix_pure E rfl rfl rfl (by decide) (fun w h => rn_move E rfl rfl) ?_; clear E a; intro a E
          refine mix_pure E rfl rfl rfl (by decide) (fun w h => rn_load_blk (vs := [_, _]) E rfl rfl rfl (h.one (by first | exact mm1 | exact mm2 | exact mm3 | exact mm4 | exact mm5 | exact mm6 | exact mm7 | exact mm8)) rfl rfl) ?_; clear E a; intro a E
          refine mix_pure E rfl rfl rfl (by decide) (fun w h => rn_move E rfl rfl) ?_; clear E a; intro a E
          refine mix_pure E rfl rfl rfl (by decide) (fun w h => rn_load_blk (vs := [_, _]) E rfl rfl rfl (h.one (by first | exact mm1 | exact mm2 | exact mm3 | exact mm4 | exact mm5 | exact mm6 | exact mm7 | exact mm8)) rfl rfl) ?_; clear E a; intro a E
          refine mix_call E rfl rfl rfl (by decide) rfl Try.func10 rfl (by kernel_rfl) rfl (rem_ret ps k (l[i]'hil).x A _ hA hG (S.hp.sel (sel_cons (by first | exact pk1 | exact pk2 | exact pk3 | exact pk4 | exact pk5 | exact pk6 | exact pk7 | exact pk8 | exact pk9) (sel_nil _)))) ?_
          rintro v59 w ⟨rfl, A1, hA1, hT⟩; clear E a; intro a E
          have S := S.call1 (sel_cons (by first | exact pk1 | exact pk2 | exact pk3 | exact pk4 | exact pk5 | exact pk6 | exact pk7 | exact pk8 | exact pk9) (sel_nil _)) hT
          refine ⟨S.stab.sub (by first | (simp; done) | (simp +contextual; done)), ?_⟩
          refine mix_call3 E rfl rfl rfl (by decide) rfl Try.func11 rfl (by kernel_rfl) rfl (drem_ret rs k (l[i]'hil).x B _ hB hG (S.hp.sel (sel_cons (by first | exact pk1 | exact pk2 | exact pk3 | exact pk4 | exact pk5 | exact pk6 | exact pk7 | exact pk8 | exact pk9) (sel_nil _)))) ?_
          rintro v62 w ⟨rfl, B1, hB1, hT⟩; clear E a; intro a E
          have S := S.call1 (sel_cons (by first | exact pk1 | exact pk2 | exact pk3 | exact pk4 | exact pk5 | exact pk6 | exact pk7 | exact pk8 | exact pk9) (sel_nil _)) hT
          refine mix_free E rfl rfl rfl (by decide) (fun w => by first | exact rn_eql E rfl rfl rfl | exact rn_eql_ptr_nil E rfl rfl rfl rfl | exact rn_eql_bool E rfl rfl rfl rfl | exact rn_eql_string E rfl rfl rfl) ?_; clear E a; intro a E
          refine mix_free E rfl rfl rfl (by decide) (fun w => rn_assign E rfl rfl) ?_; clear E a; intro a E
          refine mix_nil ?_
          refine in_normal ?_
          refine joined_here ?_
          rw [beq_self_eq_true] at E; exact ⟨ps, rs, po, ro, ⟨remS k (l[i]'hil).x, ko, A1, B1, X, _, remS_gd hG _, hA1, hB1, hX, S.front4 (by first | exact pk1 | exact pk2 | exact pk3 | exact pk4 | exact pk5 | exact pk6 | exact pk7 | exact pk8 | exact pk9) (by first | exact pk1 | exact pk2 | exact pk3 | exact pk4 | exact pk5 | exact pk6 | exact pk7 | exact pk8 | exact pk9) (by first | exact pk1 | exact pk2 | exact pk3 | exact pk4 | exact pk5 | exact pk6 | exact pk7 | exact pk8 | exact pk9) (by first | exact pk1 | exact pk2 | exact pk3 | exact pk4 | exact pk5 | exact pk6 | exact pk7 | exact pk8 | exact pk9)⟩, E.keep (keep_cons rfl (keep_cons rfl (keep_cons rfl (keep_cons rfl (keep_cons rfl (keep_cons rfl (keep_cons rfl keep_nil)))))))⟩
        · first | replace hb := n1 hb | replace hb := n2 hb | replace hb := n3 hb | replace hb := n4 hb | replace hb := n5 hb | replace hb := n6 hb | skip
          refine wp_seq_k ?_; intro K hK
          refine region_list ?_
          refine list_pure E rfl rfl (by decide) (by first | exact rn_eql E rfl rfl rfl | exact rn_eql_ptr_nil E rfl rfl rfl rfl | exact rn_eql_bool E rfl rfl rfl rfl | exact rn_eql_string E rfl rfl rfl) ?_; clear E a; intro a E
          refine list_pure E rfl rfl (by decide) (rn_assign E rfl rfl) ?_; clear E a; intro a E
          refine wpList_nil ?_
          refine then_k hK ?_; clear hK; clear K
          refine if_bool E rfl (fun hb => ?_) (fun hb => ?_)
          · first | replace hb := n1 hb | replace hb := n2 hb | replace hb := n3 hb | replace hb := n4 hb | replace hb := n5 hb | replace hb := n6 hb | skip
            refine wp_seq_k ?_; intro K hK
            refine region_list ?_
            refine list_pure E rfl rfl (by decide) (rn_move E rfl rfl) ?_; clear E a; intro a E
            refine list_pure E rfl rfl (by decide) (rn_load_blk (vs := [_, _]) E rfl rfl rfl (S.get (by first | exact pk1 | exact pk2 | exact pk3 | exact pk4 | exact pk5 | exact pk6 | exact pk7 | exact pk8 | exact pk9)) rfl rfl) ?_; clear E a; intro a E
            refine list_call E rfl rfl (by decide) rfl Try.func12 rfl (by kernel_rfl) rfl (dhas_ret rs k (l[i]'hil).x B _ hB hG (S.hp.sel (sel_cons (by first | exact pk1 | exact pk2 | exact pk3 | exact pk4 | exact pk5 | exact pk6 | exact pk7 | exact pk8 | exact pk9) (sel_nil _)))) ?_
            rintro v68 w ⟨rfl, hT⟩; clear E a; intro a E
            have S := S.call1 (sel_cons (by first | exact pk1 | exact pk2 | exact pk3 | exact pk4 | exact pk5 | exact pk6 | exact pk7 | exact pk8 | exact pk9) (sel_nil _)) hT
            refine list_pure E rfl rfl (by decide) (rn_assign E rfl rfl) ?_; clear E a; intro a E
            refine wpList_nil ?_
            refine then_k hK ?_; clear hK; clear K
            refine wp_seq_k ?_; intro K hK
            refine region_list ?_
            refine list_pure E rfl rfl (by decide) (rn_move E rfl rfl) ?_; clear E a; intro a E
            refine list_pure E rfl rfl (by decide) (rn_load_blk (vs := [_, _]) E rfl rfl rfl (S.get (by first | exact pk1 | exact pk2 | exact pk3 | exact pk4 | exact pk5 | exact pk6 | exact pk7 | exact pk8 | exact pk9)) rfl rfl) ?_; clear E a; intro a E
            refine list_call E rfl rfl (by decide) rfl Try.func13 rfl (by kernel_rfl) rfl (dmeets_ret rs k (l[i]'hil).x B _ hB hG (S.hp.sel (sel_cons (by first | exact pk1 | exact pk2 | exact pk3 | exact pk4 | exact pk5 | exact pk6 | exact pk7 | exact pk8 | exact pk9) (sel_nil _)))) ?_
            rintro v71 w ⟨rfl, hT⟩; clear E a; intro a E
            have S := S.call1 (sel_cons (by first | exact pk1 | exact pk2 | exact pk3 | exact pk4 | exact pk5 | exact pk6 | exact pk7 | exact pk8 | exact pk9) (sel_nil _)) hT
            refine list_pure E rfl rfl (by decide) (rn_assign E rfl rfl) ?_; clear E a; intro a E
            refine wpList_nil ?_
            refine then_k hK ?_; clear hK; clear K
            refine region_list ?_
            refine list_pure E rfl rfl (by decide) (rn_move E rfl rfl) ?_; clear E a; intro a E
            refine list_pure E rfl rfl (by decide) (rn_load_blk (vs := [_, _]) E rfl rfl rfl (S.get (by first | exact pk1 | exact pk2 | exact pk3 | exact pk4 | exact pk5 | exact pk6 | exact pk7 | exact pk8 | exact pk9)) rfl rfl) ?_; clear E a; intro a E
            refine list_call E rfl rfl (by decide) rfl Try.func14 rfl (by kernel_rfl) rfl (has_ret ps k _ (l[i]'hil).x A _ hA hG (S.hp.sel (sel_cons (by first | exact pk1 | exact pk2 | exact pk3 | exact pk4 | exact pk5 | exact pk6 | exact pk7 | exact pk8 | exact pk9) (sel_nil _)))) ?_
            rintro v74 w ⟨rfl, hT⟩; clear E a; intro a E
            have S := S.call1 (sel_cons (by first | exact pk1 | exact pk2 | exact pk3 | exact pk4 | exact pk5 | exact pk6 | exact pk7 | exact pk8 | exact pk9) (sel_nil _)) hT
            refine list_pure E rfl rfl (by decide) (rn_move E rfl rfl) ?_; clear E a; intro a E
            refine list_pure E rfl rfl (by decide) (by first | exact rn_eql E rfl rfl rfl | exact rn_eql_ptr_nil E rfl rfl rfl rfl | exact rn_eql_bool E rfl rfl rfl rfl | exact rn_eql_string E rfl rfl rfl) ?_; clear E a; intro a E
            refine list_pure E rfl rfl (by decide) (rn_move E rfl rfl) ?_; clear E a; intro a E
            refine guard_true E (t := 77) rfl ((beq_self_eq_true _)) (fun hb77 => ?_)
            refine list_guard_yes E rfl rfl rfl rfl hb77 rfl (by decide) (rn_move E rfl rfl) ?_; clear E a; intro a E
            refine list_guard_yes E rfl rfl rfl rfl hb77 rfl (by decide) (rn_load_blk (vs := [_, _]) E rfl rfl rfl (S.get (by first | exact pk1 | exact pk2 | exact pk3 | exact pk4 | exact pk5 | exact pk6 | exact pk7 | exact pk8 | exact pk9)) rfl rfl) ?_; clear E a; intro a E
            refine list_guard_wp E rfl rfl rfl rfl hb77 ?_; refine wp_call' E rfl (by decide) rfl Try.func15 rfl (by kernel_rfl) rfl (meets_ret ps k _ (l[i]'hil).x A _ hA hG (S.hp.sel (sel_cons (by first | exact pk1 | exact pk2 | exact pk3 | exact pk4 | exact pk5 | exact pk6 | exact pk7 | exact pk8 | exact pk9) (sel_nil _)))) ?_
            rintro v80 w ⟨rfl, hT⟩; clear E a; intro a E
            have S := S.call1 (sel_cons (by first | exact pk1 | exact pk2 | exact pk3 | exact pk4 | exact pk5 | exact pk6 | exact pk7 | exact pk8 | exact pk9) (sel_nil _)) hT
            refine list_guard_yes E rfl rfl rfl rfl hb77 rfl (by decide) (rn_move E rfl rfl) ?_; clear E a; intro a E
            refine list_guard_yes E rfl rfl rfl rfl hb77 rfl (by decide) (by first | exact rn_eql E rfl rfl rfl | exact rn_eql_ptr_nil E rfl rfl rfl rfl | exact rn_eql_bool E rfl rfl rfl rfl | exact rn_eql_string E rfl rfl rfl) ?_; clear E a; intro a E
            refine list_pure E rfl rfl (by decide) (rn_pick_yes' E rfl rfl hb77 rfl) ?_; clear E a; intro a E
            refine list_pure E rfl rfl (by decide) (rn_assign E rfl rfl) ?_; clear E a; intro a E
            refine wpList_nil ?_
            refine in_normal ?_
            refine joined_here ?_
            rw [beq_self_eq_true] at E; exact ⟨ps, rs, po, ro, ⟨k, ko, A, B, X, _, hG, hA, hB, hX, S.front4 (by first | exact pk1 | exact pk2 | exact pk3 | exact pk4 | exact pk5 | exact pk6 | exact pk7 | exact pk8 | exact pk9) (by first | exact pk1 | exact pk2 | exact pk3 | exact pk4 | exact pk5 | exact pk6 | exact pk7 | exact pk8 | exact pk9) (by first | exact pk1 | exact pk2 | exact pk3 | exact pk4 | exact pk5 | exact pk6 | exact pk7 | exact pk8 | exact pk9) (by first | exact pk1 | exact pk2 | exact pk3 | exact pk4 | exact pk5 | exact pk6 | exact pk7 | exact pk8 | exact pk9)⟩, E.keep (keep_cons rfl (keep_cons rfl (keep_cons rfl (keep_cons rfl (keep_cons rfl (keep_cons rfl (keep_cons rfl keep_nil)))))))⟩
          · first | replace hb := n1 hb | replace hb := n2 hb | replace hb := n3 hb | replace hb := n4 hb | replace hb := n5 hb | replace hb := n6 hb | skip
            refine wp_seq_k ?_; intro K hK
            refine region_list ?_
            refine list_pure E rfl rfl (by decide) (by first | exact rn_eql E rfl rfl rfl | exact rn_eql_ptr_nil E rfl rfl rfl rfl | exact rn_eql_bool E rfl rfl rfl rfl | exact rn_eql_string E rfl rfl rfl) ?_; clear E a; intro a E
            refine list_pure E rfl rfl (by decide) (rn_assign E rfl rfl) ?_; clear E a; intro a E
            refine wpList_nil ?_
            refine then_k hK ?_; clear hK; clear K
            refine if_bool E rfl (fun hb => ?_) (fun hb => ?_)
            · first | replace hb := n1 hb | replace hb := n2 hb | replace hb := n3 hb | replace hb := n4 hb | replace hb := n5 hb | replace hb := n6 hb | skip
              refine wp_seq_k ?_; intro K hK
              refine region_list ?_
              refine list_pure E rfl rfl (by decide) (rn_move E rfl rfl) ?_; clear E a; intro a E
              refine list_pure E rfl rfl (by decide) (by first | exact rn_fieldAddr0 (q := 1) E rfl rfl rfl | exact rn_fieldAddr (q := 1) E rfl rfl rfl) ?_; clear E a; intro a E
              refine list_pure E rfl rfl (by decide) (by first | exact rn_load E rfl rfl rfl (S.get (by first | exact pk1 | exact pk2 | exact pk3 | exact pk4 | exact pk5 | exact pk6 | exact pk7 | exact pk8 | exact pk9)) rfl | exact rn_loadc E rfl rfl rfl (by assumption)) ?_; clear E a; intro a E
              refine list_pure E rfl rfl (by decide) (by first | exact rn_fieldAddr0 (q := 0) E rfl rfl rfl | exact rn_fieldAddr (q := 0) E rfl rfl rfl) ?_; clear E a; intro a E
              refine list_pure E rfl rfl (by decide) (by first | exact rn_load E rfl rfl rfl (S.get (by first | exact pk1 | exact pk2 | exact pk3 | exact pk4 | exact pk5 | exact pk6 | exact pk7 | exact pk8 | exact pk9)) rfl | exact rn_loadc E rfl rfl rfl (by assumption)) ?_; clear E a; intro a E
              refine list_call E rfl rfl (by decide) rfl Try.func16 rfl (by kernel_rfl) rfl (find_ret ps k _ _ _ A _ hA hG hgi.2.2 hgi.1.2 (S.hp.sel (sel_cons (by first | exact pk1 | exact pk2 | exact pk3 | exact pk4 | exact pk5 | exact pk6 | exact pk7 | exact pk8 | exact pk9) (sel_nil _)))) ?_
              rintro v92 w ⟨rfl, hT⟩; clear E a; intro a E
              have S := S.call1 (sel_cons (by first | exact pk1 | exact pk2 | exact pk3 | exact pk4 | exact pk5 | exact pk6 | exact pk7 | exact pk8 | exact pk9) (sel_nil _)) hT
              refine list_pure E rfl rfl (by decide) (rn_move E rfl rfl) ?_; clear E a; intro a E
              refine list_pure E rfl rfl (by decide) (rn_extract E rfl rfl rfl) ?_; clear E a; intro a E
              refine list_pure E rfl rfl (by decide) (rn_extract E rfl rfl rfl) ?_; clear E a; intro a E
              refine list_pure E rfl rfl (by decide) (rn_assign E rfl rfl) ?_; clear E a; intro a E
              refine list_pure E rfl rfl (by decide) (rn_assign E rfl rfl) ?_; clear E a; intro a E
              refine wpList_nil ?_
              refine then_k hK ?_; clear hK; clear K
              refine wp_seq_k ?_; intro K hK
              refine region_list ?_
              refine list_pure E rfl rfl (by decide) (rn_move E rfl rfl) ?_; clear E a; intro a E
              refine list_pure E rfl rfl (by decide) (by first | exact rn_fieldAddr0 (q := 1) E rfl rfl rfl | exact rn_fieldAddr (q := 1) E rfl rfl rfl) ?_; clear E a; intro a E
              refine list_pure E rfl rfl (by decide) (by first | exact rn_load E rfl rfl rfl (S.get (by first | exact pk1 | exact pk2 | exact pk3 | exact pk4 | exact pk5 | exact pk6 | exact pk7 | exact pk8 | exact pk9)) rfl | exact rn_loadc E rfl rfl rfl (by assumption)) ?_; clear E a; intro a E
              refine list_pure E rfl rfl (by decide) (by first | exact rn_fieldAddr0 (q := 0) E rfl rfl rfl | exact rn_fieldAddr (q := 0) E rfl rfl rfl) ?_; clear E a; intro a E
              refine list_pure E rfl rfl (by decide) (by first | exact rn_load E rfl rfl rfl (S.get (by first | exact pk1 | exact pk2 | exact pk3 | exact pk4 | exact pk5 | exact pk6 | exact pk7 | exact pk8 | exact pk9)) rfl | exact rn_loadc E rfl rfl rfl (by assumption)) ?_; clear E a; intro a E
              refine list_call E rfl rfl (by decide) rfl Try.func17 rfl (by kernel_rfl) rfl (dfind_ret rs k _ _ B _ hB hG hgi.2.2 hgi.1.2 (S.hp.sel (sel_cons (by first | exact pk1 | exact pk2 | exact pk3 | exact pk4 | exact pk5 | exact pk6 | exact pk7 | exact pk8 | exact pk9) (sel_nil _)))) ?_
              rintro v101 w ⟨rfl, hT⟩; clear E a; intro a E
              have S := S.call1 (sel_cons (by first | exact pk1 | exact pk2 | exact pk3 | exact pk4 | exact pk5 | exact pk6 | exact pk7 | exact pk8 | exact pk9) (sel_nil _)) hT
              refine list_pure E rfl rfl (by decide) (rn_move E rfl rfl) ?_; clear E a; intro a E
              refine list_pure E rfl rfl (by decide) (rn_extract E rfl rfl rfl) ?_; clear E a; intro a E
              refine list_pure E rfl rfl (by decide) (rn_extract E rfl rfl rfl) ?_; clear E a; intro a E
              refine list_pure E rfl rfl (by decide) (rn_assign E rfl rfl) ?_; clear E a; intro a E
              refine list_pure E rfl rfl (by decide) (rn_assign E rfl rfl) ?_; clear E a; intro a E
              refine wpList_nil ?_
              refine then_k hK ?_; clear hK; clear K
              refine region_list ?_
              refine list_pure E rfl rfl (by decide) (rn_move E rfl rfl) ?_; clear E a; intro a E
              refine list_pure E rfl rfl (by decide) (rn_move E rfl rfl) ?_; clear E a; intro a E
              refine list_pure E rfl rfl (by decide) (by first | exact rn_eql E rfl rfl rfl | exact rn_eql_ptr_nil E rfl rfl rfl rfl | exact rn_eql_bool E rfl rfl rfl rfl | exact rn_eql_string E rfl rfl rfl) ?_; clear E a; intro a E
              refine list_pure E rfl rfl (by decide) (rn_move E rfl rfl) ?_; clear E a; intro a E
              refine guard_true E (t := 107) rfl ((beq_self_eq_true _)) (fun hb107 => ?_)
              refine list_guard_yes E rfl rfl rfl rfl hb107 rfl (by decide) (rn_move E rfl rfl) ?_; clear E a; intro a E
              refine list_guard_yes E rfl rfl rfl rfl hb107 rfl (by decide) (rn_move E rfl rfl) ?_; clear E a; intro a E
              refine list_guard_yes E rfl rfl rfl rfl hb107 rfl (by decide) (by first | exact rn_eql E rfl rfl rfl | exact rn_eql_ptr_nil E rfl rfl rfl rfl | exact rn_eql_bool E rfl rfl rfl rfl | exact rn_eql_string E rfl rfl rfl) ?_; clear E a; intro a E
              refine list_pure E rfl rfl (by decide) (rn_pick_yes' E rfl rfl hb107 rfl) ?_; clear E a; intro a E
              refine list_pure E rfl rfl (by decide) (rn_assign E rfl rfl) ?_; clear E a; intro a E
              refine wpList_nil ?_
              refine in_normal ?_
              refine joined_here ?_
              rw [beq_self_eq_true] at E; exact ⟨ps, rs, po, ro, ⟨k, ko, A, B, X, _, hG, hA, hB, hX, S.front4 (by first | exact pk1 | exact pk2 | exact pk3 | exact pk4 | exact pk5 | exact pk6 | exact pk7 | exact pk8 | exact pk9) (by first | exact pk1 | exact pk2 | exact pk3 | exact pk4 | exact pk5 | exact pk6 | exact pk7 | exact pk8 | exact pk9) (by first | exact pk1 | exact pk2 | exact pk3 | exact pk4 | exact pk5 | exact pk6 | exact pk7 | exact pk8 | exact pk9) (by first | exact pk1 | exact pk2 | exact pk3 | exact pk4 | exact pk5 | exact pk6 | exact pk7 | exact pk8 | exact pk9)⟩, E.keep (keep_cons rfl (keep_cons rfl (keep_cons rfl (keep_cons rfl (keep_cons rfl (keep_cons rfl (keep_cons rfl keep_nil)))))))⟩
            · first | replace hb := n1 hb | replace hb := n2 hb | replace hb := n3 hb | replace hb := n4 hb | replace hb := n5 hb | replace hb := n6 hb | skip
              refine wp_seq_k ?_; intro K hK
              refine region_list ?_
              refine list_pure E rfl rfl (by decide) (by first | exact rn_eql E rfl rfl rfl | exact rn_eql_ptr_nil E rfl rfl rfl rfl | exact rn_eql_bool E rfl rfl rfl rfl | exact rn_eql_string E rfl rfl rfl) ?_; clear E a; intro a E
              refine list_pure E rfl rfl (by decide) (rn_assign E rfl rfl) ?_; clear E a; intro a E
              refine wpList_nil ?_
              refine then_k hK ?_; clear hK; clear K
              refine if_bool E rfl (fun hb => ?_) (fun hb => ?_)
              · first | replace hb := n1 hb | replace hb := n2 hb | replace hb := n3 hb | replace hb := n4 hb | replace hb := n5 hb | replace hb := n6 hb | skip
                refine wp_seq_k ?_; intro K hK
                refine region_list ?_
                refine list_pure E rfl rfl (by decide) (rn_move E rfl rfl) ?_; clear E a; intro a E
                refine list_pure E rfl rfl (by decide) (rn_assign E rfl rfl) ?_; clear E a; intro a E
                refine wpList_nil ?_
                refine then_k hK ?_; clear hK; clear K
                refine wp_seq_k ?_; intro K hK
                refine region_list ?_
                refine list_pure E rfl rfl (by decide) (rn_move E rfl rfl) ?_; clear E a; intro a E
                refine list_pure E rfl rfl (by decide) (rn_assign E rfl rfl) ?_; clear E a; intro a E
                refine wpList_nil ?_
                refine then_k hK ?_; clear hK; clear K
                refine wp_seq_k ?_; intro K hK
                refine region_list ?_
                refine list_pure E rfl rfl (by decide) (rn_move E rfl rfl) ?_; clear E a; intro a E
                refine list_call E rfl rfl (by decide) rfl Try.func18 rfl (by kernel_rfl) rfl (sclone_ret ps k _ A _ hA hk0 (S.hp.sel (sel_cons (by first | exact pk1 | exact pk2 | exact pk3 | exact pk4 | exact pk5 | exact pk6 | exact pk7 | exact pk8 | exact pk9) (sel_nil _)))) ?_
                rintro v117 w ⟨ps2, A2, rfl, hA2, hT⟩; clear E a; intro a E
                have S := S.call2 (sel_cons (by first | exact pk1 | exact pk2 | exact pk3 | exact pk4 | exact pk5 | exact pk6 | exact pk7 | exact pk8 | exact pk9) (sel_nil _)) hT
                refine list_pure E rfl rfl (by decide) (rn_assign E rfl rfl) ?_; clear E a; intro a E
                refine wpList_nil ?_
                refine then_k hK ?_; clear hK; clear K
                refine wp_seq_k ?_; intro K hK
                refine region_list ?_
                refine list_pure E rfl rfl (by decide) (rn_move E rfl rfl) ?_; clear E a; intro a E
                refine list_call E rfl rfl (by decide) rfl Try.func19 rfl (by kernel_rfl) rfl (dclone_ret rs k B _ hB hk0 (S.hp.sel (sel_cons (by first | exact pk1 | exact pk2 | exact pk3 | exact pk4 | exact pk5 | exact pk6 | exact pk7 | exact pk8 | exact pk9) (sel_nil _)))) ?_
                rintro v119 w ⟨rs2, B2, rfl, hB2, hT⟩; clear E a; intro a E
                have S := S.call2 (sel_cons (by first | exact pk1 | exact pk2 | exact pk3 | exact pk4 | exact pk5 | exact pk6 | exact pk7 | exact pk8 | exact pk9) (sel_nil _)) hT
                refine list_pure E rfl rfl (by decide) (rn_assign E rfl rfl) ?_; clear E a; intro a E
                refine wpList_nil ?_
                refine then_k hK ?_; clear hK; clear K
                refine wp_seq_k ?_; intro K hK
                refine region_list ?_
                refine list_pure E rfl rfl (by decide) (rn_move E rfl rfl) ?_; clear E a; intro a E
                refine list_pure E rfl rfl (by decide) (by first | exact rn_eql E rfl rfl rfl | exact rn_eql_ptr_nil E rfl rfl rfl rfl | exact rn_eql_bool E rfl rfl rfl rfl | exact rn_eql_string E rfl rfl rfl) ?_; clear E a; intro a E
                refine wpList_nil ?_
                refine then_k hK ?_; clear hK; clear K
                refine if_false' E rfl (rfl) ?_
                refine wp_skip ?_
                refine in_normal ?_
                refine joined_here ?_
                have S := S.closeP (B := A) (C := B) (by first | exact pk1 | exact pk2 | exact pk3 | exact pk4 | exact pk5 | exact pk6 | exact pk7 | exact pk8 | exact pk9) (by first | exact pk1 | exact pk2 | exact pk3 | exact pk4 | exact pk5 | exact pk6 | exact pk7 | exact pk8 | exact pk9) rfl
                exact ⟨ps2, rs2, ps, rs, ⟨k, k, A2, B2, A ++ B, _, hG, hA2, hB2, .inr ⟨A, B, rfl, hA, hB, hG⟩, S.front4 (by first | exact pk1 | exact pk2 | exact pk3 | exact pk4 | exact pk5 | exact pk6 | exact pk7 | exact pk8 | exact pk9) (by first | exact pk1 | exact pk2 | exact pk3 | exact pk4 | exact pk5 | exact pk6 | exact pk7 | exact pk8 | exact pk9) (by first | exact pk1 | exact pk2 | exact pk3 | exact pk4 | exact pk5 | exact pk6 | exact pk7 | exact pk8 | exact pk9) (by first | exact pk1 | exact pk2 | exact pk3 | exact pk4 | exact pk5 | exact pk6 | exact pk7 | exact pk8 | exact pk9)⟩, E.keep (keep_cons rfl (keep_cons rfl (keep_cons rfl (keep_cons rfl (keep_cons rfl (keep_cons rfl (keep_cons rfl keep_nil)))))))⟩
              · first | replace hb := n1 hb | replace hb := n2 hb | replace hb := n3 hb | replace hb := n4 hb | replace hb := n5 hb | replace hb := n6 hb | skip
                refine wp_skip ?_
                refine in_normal ?_
                refine joined_here ?_
                exact ⟨ps, rs, po, ro, ⟨k, ko, A, B, X, _, hG, hA, hB, hX, S.front4 (by first | exact pk1 | exact pk2 | exact pk3 | exact pk4 | exact pk5 | exact pk6 | exact pk7 | exact pk8 | exact pk9) (by first | exact pk1 | exact pk2 | exact pk3 | exact pk4 | exact pk5 | exact pk6 | exact pk7 | exact pk8 | exact pk9) (by first | exact pk1 | exact pk2 | exact pk3 | exact pk4 | exact pk5 | exact pk6 | exact pk7 | exact pk8 | exact pk9) (by first | exact pk1 | exact pk2 | exact pk3 | exact pk4 | exact pk5 | exact pk6 | exact pk7 | exact pk8 | exact pk9)⟩, E.keep (keep_cons rfl (keep_cons rfl (keep_cons rfl (keep_cons rfl (keep_cons rfl (keep_cons rfl (keep_cons rfl keep_nil)))))))⟩
    · clear S E a; intro a w J; obtain ⟨ps, rs, po, ro, ⟨k, ko, A, B, X, Ls, hG, hA, hB, hX, S⟩, E⟩ := J
      refine then_k hK ?_; clear hK; clear K
      refine wp_seq_k ?_; intro K hK
      refine region_list ?_
      refine list_pure E rfl rfl (by decide) (rn_move E rfl rfl) ?_; clear E a; intro a E
      refine list_pure E rfl rfl (by decide) (rn_move E rfl rfl) ?_; clear E a; intro a E
      refine list_call E rfl rfl (by decide) rfl Try.func20 rfl (by kernel_rfl) rfl (alike_ret ps rs k A B _ hA hB hG (S.hp.sel (sel_cons (by first | exact pk1 | exact pk2 | exact pk3 | exact pk4 | exact pk5 | exact pk6 | exact pk7 | exact pk8 | exact pk9) (sel_cons (by first | exact pk1 | exact pk2 | exact pk3 | exact pk4 | exact pk5 | exact pk6 | exact pk7 | exact pk8 | exact pk9) (sel_nil _))))) ?_
      rintro v124 w ⟨rfl, hT⟩; clear E a; intro a E
      have S := S.call2 (sel_cons (by first | exact pk1 | exact pk2 | exact pk3 | exact pk4 | exact pk5 | exact pk6 | exact pk7 | exact pk8 | exact pk9) (sel_cons (by first | exact pk1 | exact pk2 | exact pk3 | exact pk4 | exact pk5 | exact pk6 | exact pk7 | exact pk8 | exact pk9) (sel_nil _))) hT
      refine list_pure E rfl rfl (by decide) (rn_assign E rfl rfl) ?_; clear E a; intro a E
      refine wpList_nil ?_
      refine then_k hK ?_; clear hK; clear K
      refine wp_seq_k ?_; intro K hK
      refine region_list ?_
      refine list_pure E rfl rfl (by decide) (rn_move E rfl rfl) ?_; clear E a; intro a E
      refine list_pure E rfl rfl (by decide) (rn_not E rfl rfl) ?_; clear E a; intro a E
      refine list_pure E rfl rfl (by decide) (rn_move E rfl rfl) ?_; clear E a; intro a E
      refine guard_false E (t := 127) rfl (rfl) (fun hb127 => ?_)
      refine list_guard_yes E rfl rfl rfl rfl hb127 rfl (by decide) (rn_move E rfl rfl) ?_; clear E a; intro a E
      refine list_guard_yes E rfl rfl rfl rfl hb127 rfl (by decide) (rn_not E rfl rfl) ?_; clear E a; intro a E
      refine list_pure E rfl rfl (by decide) (rn_pick_no' E rfl rfl hb127 rfl) ?_; clear E a; intro a E
      refine wpList_nil ?_
      refine then_k hK ?_; clear hK; clear K
      refine if_false' E rfl (rfl) ?_
      refine wp_skip ?_
      refine in_normal ?_
      refine then_k hK ?_; clear hK; clear K
      refine region_list ?_
      refine list_pure E rfl rfl (by decide) (rn_move E rfl rfl) ?_; clear E a; intro a E
      refine list_pure E rfl rfl (by decide) (rn_add E rfl rfl rfl (by first | exact wa_lit (y := 1) (by omega) | exact w_in (by omega) | exact w_inu (by omega) | exact rfl)) ?_; clear E a; intro a E
      refine list_pure E rfl rfl (by decide) (rn_assign E rfl rfl) ?_; clear E a; intro a E
      refine wpList_nil ?_
      refine then_normal ?_
      exact ⟨_, by omega, i + 1, ps, rs, po, ro, rfl, by omega, ⟨k, ko, A, B, X, _, hG, hA, hB, hX, S.front4 (by first | exact pk1 | exact pk2 | exact pk3 | exact pk4 | exact pk5 | exact pk6 | exact pk7 | exact pk8 | exact pk9) (by first | exact pk1 | exact pk2 | exact pk3 | exact pk4 | exact pk5 | exact pk6 | exact pk7 | exact pk8 | exact pk9) (by first | exact pk1 | exact pk2 | exact pk3 | exact pk4 | exact pk5 | exact pk6 | exact pk7 | exact pk8 | exact pk9) (by first | exact pk1 | exact pk2 | exact pk3 | exact pk4 | exact pk5 | exact pk6 | exact pk7 | exact pk8 | exact pk9)⟩, E.keep (keep_cons rfl (keep_cons rfl (keep_cons rfl (keep_cons rfl (keep_cons rfl (keep_cons rfl keep_nil))))))⟩
  · first | replace hb := n1 hb | replace hb := n2 hb | replace hb := n3 hb | replace hb := n4 hb | replace hb := n5 hb | replace hb := n6 hb | skip
    refine wp_exit ?_
    refine then_exit ?_; clear hK; clear K
    refine then_exit ?_
    refine in_exit ?_
    refine then_k hK ?_; clear hK; clear K
    refine wp_seq_k ?_; intro K hK
    obtain ⟨k2, A2, B2, L2, hG2, hA2, hB2, S2⟩ := Duo.old ⟨k, ko, A, B, X, Ls, hG, hA, hB, hX, S⟩
    clear S; have S := S2
    refine region_list ?_
    refine list_pure E rfl rfl (by decide) (rn_move E rfl rfl) ?_; clear E a; intro a E
    refine list_pure E rfl rfl (by decide) (rn_move E rfl rfl) ?_; clear E a; intro a E
    refine list_call E rfl rfl (by decide) rfl Try.func20 rfl (by kernel_rfl) rfl (alike_ret po ro k2 A2 B2 _ hA2 hB2 hG2 (S.hp.sel (sel_cons (by first | exact pk1 | exact pk2 | exact pk3 | exact pk4 | exact pk5 | exact pk6 | exact pk7 | exact pk8 | exact pk9) (sel_cons (by first | exact pk1 | exact pk2 | exact pk3 | exact pk4 | exact pk5 | exact pk6 | exact pk7 | exact pk8 | exact pk9) (sel_nil _))))) ?_
    rintro v133 w ⟨rfl, hT⟩; clear E a; intro a E
    have S := S.call2 (sel_cons (by first | exact pk1 | exact pk2 | exact pk3 | exact pk4 | exact pk5 | exact pk6 | exact pk7 | exact pk8 | exact pk9) (sel_cons (by first | exact pk1 | exact pk2 | exact pk3 | exact pk4 | exact pk5 | exact pk6 | exact pk7 | exact pk8 | exact pk9) (sel_nil _))) hT
    refine list_pure E rfl rfl (by decide) (rn_assign E rfl rfl) ?_; clear E a; intro a E
    refine wpList_nil ?_
    refine then_k hK ?_; clear hK; clear K
    refine wp_ret ?_
    refine ret1 E rfl rfl ?_
    exact ⟨_, rfl, rfl, (S.only (Bs := [O]) (sel_cons (by first | exact pk1 | exact pk2 | exact pk3 | exact pk4 | exact pk5 | exact pk6 | exact pk7 | exact pk8 | exact pk9) (sel_nil _))).tr⟩
end Go.Proofs.Ytogpohhhhjpmdaa
