/-
  The law's example; DiskCut.
-/
import Derived.Test.YtpppaohhnlgfoaaDiskV
namespace Go.Sl
theorem byt_at {l : List UInt8} {i : Nat} {x : UInt8} (h : l[i]? = some x) : (byt l)[i]? = some (.int .u8 x.toNat) := by simp [byt, h]
theorem outW_all {d : Nat} {ws : List Wt} (h : ∀ w ∈ ws, w.d = d) : outW d ws = [] := by
  rw [outW, List.filter_eq_nil_iff]
  intro w hw; simp [h w hw]
end Go.Sl
namespace Go.Proofs.Ytpppaohhnlgfoaa
open Go.Sl
set_option maxRecDepth 10000

theorem awake_ret (w0 : World) : Ret Try.prog 7 #[] w0 fun u w' => u = .bool true ∧ Trs w0 w' [] [] := by
  have S := St.begin (hp_nil w0)
  obtain ⟨z, hz⟩ : ∃ z, z = List.replicate (4 * 128) (0 : UInt8) := ⟨_, rfl⟩
  have hzl : z.length = 512 := by rw [hz]; simp
  obtain ⟨r7, hr7⟩ : ∃ r, r = List.replicate 128 (7 : UInt8) := ⟨_, rfl⟩
  obtain ⟨r9, hr9⟩ : ∃ r, r = List.replicate 128 (9 : UInt8) := ⟨_, rfl⟩
  have h7l : r7.length = 128 := by rw [hr7]; simp
  have h9l : r9.length = 128 := by rw [hr9]; simp
  obtain ⟨n1, hn1⟩ : ∃ n1, n1 = setS z 1 r7 := ⟨_, rfl⟩
  have hn1l : n1.length = 512 := by rw [hn1, setS_length (by omega) h7l, hzl]
  have hg1 : ∀ j, 128 ≤ j → j < 256 → n1[j]? = some 7 := fun j h1 h2 => by
    have h3 : (z.take (128 * 1)).length = 128 := by rw [List.length_take]; omega
    rw [hn1, setS, List.append_assoc, List.getElem?_append_right (by omega), h3, List.getElem?_append_left (by omega), hr7, List.getElem?_replicate, if_pos (by omega)]
  have hg2 : n1[256]? = some 0 := by
    have h3 : (z.take (128 * 1) ++ r7).length = 256 := by rw [List.length_append, List.length_take]; omega
    rw [hn1, setS, List.getElem?_append_right (by omega), h3, List.getElem?_drop, hz, List.getElem?_replicate, if_pos (by omega)]
  refine enter0 97 Try.func7 rfl rfl ?_; intro a E
  refine wp_seq_k ?_; intro K hK
  refine region_list ?_
  refine list_pure E rfl rfl (by decide) (rn_assign E rfl rfl) ?_; clear E a; intro a E
  refine wpList_nil ?_
  refine then_k hK ?_; clear hK; clear K
  refine wp_seq_k ?_; intro K hK
  refine region_list ?_
  refine list_call E rfl rfl (by decide) rfl Try.func8 rfl (by kernel_rfl) rfl (newpower_ret _) ?_
  rintro v10 w ⟨p, rfl, hT⟩; clear E a; intro a E
  have S := S.fresh hT
  refine list_pure E rfl rfl (by decide) (rn_assign E rfl rfl) ?_; clear E a; intro a E
  refine wpList_nil ?_
  refine then_k hK ?_; clear hK; clear K
  refine wp_seq_k ?_; intro K hK
  refine region_list ?_
  have S := S.addNil
  refine list_pure E rfl rfl (by decide) (rn_move E rfl rfl) ?_; clear E a; intro a E
  refine list_call E rfl rfl (by decide) rfl Try.func9 rfl (by kernel_rfl) rfl (dnew_ret p ⟨-1, false, 0⟩ _ _ 0 [] [] (Buf.nil _ _) (by omega) 4 (by omega) (by omega) _ (S.hp.sel (sel_cons (by repeat (first | exact pk1 | apply pick_tail)) (sel_cons (by repeat (first | exact pk1 | apply pick_tail)) (sel_nil _))))) ?_
  rintro v13 w ⟨d, gp, gn, vd, Cd, rfl, hCd, hT⟩; clear E a; intro a E
  have S := (S.call (sel_cons (by repeat (first | exact pk1 | apply pick_tail)) (sel_cons (by repeat (first | exact pk1 | apply pick_tail)) (sel_nil _))) hT); rw [← hz] at S
  obtain ⟨add, cd, rfl⟩ := hCd.slice
  have S : St w0 _ _ ([(p, pcl ⟨-1, false, 0⟩ (.slice none 0 0) (.slice add 1 cd))] :: Cd :: [(d, dcl p gp gn 512 false)] :: [(gp, cel (byt z) 5)] :: [(gn, cel (byt z) 5)] :: []) := S
  refine list_pure E rfl rfl (by decide) (rn_move E rfl rfl) ?_; clear E a; intro a E
  refine list_pure E rfl rfl (by decide) (rn_extract E rfl rfl rfl) ?_; clear E a; intro a E
  refine list_pure E rfl rfl (by decide) (rn_extract E rfl rfl rfl) ?_; clear E a; intro a E
  refine list_pure E rfl rfl (by decide) (rn_assign E rfl rfl) ?_; clear E a; intro a E
  refine list_pure E rfl rfl (by decide) (rn_assign E rfl rfl) ?_; clear E a; intro a E
  refine wpList_nil ?_
  refine then_k hK ?_; clear hK; clear K
  refine wp_seq_k ?_; intro K hK
  refine wp_seq_k ?_; intro K hK
  refine region_list ?_
  refine list_pure E rfl rfl (by decide) (rn_move E rfl rfl) ?_; clear E a; intro a E
  refine list_pure E rfl rfl (by decide) (by first | exact rn_eql E rfl rfl rfl | exact rn_eql_ptr_nil E rfl rfl rfl rfl | exact rn_eql_bool E rfl rfl rfl rfl | exact rn_eql_string E rfl rfl rfl) ?_; clear E a; intro a E
  refine list_pure E rfl rfl (by decide) (rn_move E rfl rfl) ?_; clear E a; intro a E
  refine guard_false E (t := 18) rfl (rfl) (fun hb18 => ?_)
  refine list_guard_yes E rfl rfl rfl rfl hb18 rfl (by decide) (rn_move E rfl rfl) ?_; clear E a; intro a E
  refine list_guard_yes E rfl rfl rfl rfl hb18 rfl (by decide) (by first | exact rn_eql E rfl rfl rfl | exact rn_eql_ptr_nil E rfl rfl rfl rfl | exact rn_eql_bool E rfl rfl rfl rfl | exact rn_eql_string E rfl rfl rfl) ?_; clear E a; intro a E
  refine list_pure E rfl rfl (by decide) (rn_pick_no' E rfl rfl hb18 rfl) ?_; clear E a; intro a E
  refine list_pure E rfl rfl (by decide) (rn_move E rfl rfl) ?_; clear E a; intro a E
  refine guard_false E (t := 22) rfl (rfl) (fun hb22 => ?_)
  refine list_guard_yes E rfl rfl rfl rfl hb22 rfl (by decide) (rn_move E rfl rfl) ?_; clear E a; intro a E
  refine list_guard_yes E rfl rfl rfl rfl hb22 rfl (by decide) (by first | exact rn_neq E rfl rfl rfl | exact rn_neq_ptr_nil E rfl rfl rfl rfl | exact rn_neq_bool E rfl rfl rfl rfl | exact rn_neq_string E rfl rfl rfl) ?_; clear E a; intro a E
  refine list_pure E rfl rfl (by decide) (rn_pick_no' E rfl rfl hb22 rfl) ?_; clear E a; intro a E
  refine list_pure E rfl rfl (by decide) (rn_move E rfl rfl) ?_; clear E a; intro a E
  refine guard_false E (t := 26) rfl (rfl) (fun hb26 => ?_)
  refine list_guard_yes E rfl rfl rfl rfl hb26 rfl (by decide) (rn_move E rfl rfl) ?_; clear E a; intro a E
  refine list_guard_wp E rfl rfl rfl rfl hb26 ?_; refine wp_call' E rfl (by decide) rfl Try.func15 rfl (by kernel_rfl) rfl (on_ret p ⟨-1, false, 0⟩ _ _ _ (S.hp.sel (sel_cons (by repeat (first | exact pk1 | apply pick_tail)) (sel_nil _)))) ?_
  rintro v28 w ⟨rfl, hT⟩; clear E a; intro a E
  have S := S.call1 (sel_cons (by repeat (first | exact pk1 | apply pick_tail)) (sel_nil _)) hT
  refine list_guard_yes E rfl rfl rfl rfl hb26 rfl (by decide) (rn_not E rfl rfl) ?_; clear E a; intro a E
  refine list_pure E rfl rfl (by decide) (rn_pick_no' E rfl rfl hb26 rfl) ?_; clear E a; intro a E
  refine list_pure E rfl rfl (by decide) (rn_move E rfl rfl) ?_; clear E a; intro a E
  refine guard_false E (t := 31) rfl (rfl) (fun hb31 => ?_)
  refine list_guard_yes E rfl rfl rfl rfl hb31 rfl (by decide) (rn_move E rfl rfl) ?_; clear E a; intro a E
  refine list_guard_wp E rfl rfl rfl rfl hb31 ?_; refine wp_call' E rfl (by decide) rfl Try.func25 rfl (by kernel_rfl) rfl (sectors_ret d p gp gn 512 false (by omega) _ (S.hp.sel (sel_cons (by repeat (first | exact pk1 | apply pick_tail)) (sel_nil _)))) ?_
  rintro v33 w ⟨rfl, hT⟩; clear E a; intro a E
  have S := S.call1 (sel_cons (by repeat (first | exact pk1 | apply pick_tail)) (sel_nil _)) hT
  refine list_guard_yes E rfl rfl rfl rfl hb31 rfl (by decide) (by first | exact rn_neq E rfl rfl rfl | exact rn_neq_ptr_nil E rfl rfl rfl rfl | exact rn_neq_bool E rfl rfl rfl rfl | exact rn_neq_string E rfl rfl rfl) ?_; clear E a; intro a E
  refine list_pure E rfl rfl (by decide) (rn_pick_no' E rfl rfl hb31 rfl) ?_; clear E a; intro a E
  refine wpList_nil ?_
  refine then_k hK ?_; clear hK; clear K
  refine if_false' E rfl (rfl) ?_
  refine wp_skip ?_
  refine then_k hK ?_; clear hK; clear K
  refine wp_seq_k ?_; intro K hK
  replace E := E.keep (e' := [(0, _), (1, _), (2, _)]) (keep_cons rfl (keep_cons rfl (keep_cons rfl (keep_nil))))
  refine region_list ?_
  refine list_pure E rfl rfl (by decide) (rn_move E rfl rfl) ?_; clear E a; intro a E
  refine list_call E rfl rfl (by decide) rfl Try.func27 rfl (by kernel_rfl) rfl (full_ret 7 _) ?_
  rintro v37 w ⟨g7, rfl, hT⟩; clear E a; intro a E
  have S := S.fresh hT; rw [← hr7] at S
  have hR7 := rd_cells (g := g7) (T := 5) (xs := byt r7) (s := 1) (m := 128) (by rw [byt_length, h7l]) (byt_one r7) (by omega) 128
  have S := S.addNil
  have hW1 := wr_one (d := d) (n := 512) (a := 1) h7l (by omega) ⟨-1, false, 0⟩ rfl (by simp) z []
  have S := S.front4 (A := [(p, _)]) (by repeat (first | exact pk1 | apply pick_tail)) (B := []) (by repeat (first | exact pk1 | apply pick_tail)) (C := [(d, _)]) (by repeat (first | exact pk1 | apply pick_tail)) (D := [(gn, _)]) (by repeat (first | exact pk1 | apply pick_tail))
  refine list_call E rfl rfl (by decide) rfl Try.func10 rfl (by kernel_rfl) rfl (dwrite_ret d p gn gp 512 false ⟨-1, false, 0⟩ _ _ z hzl (by omega) [] (by simp) (by simp) (by simp) [] (Buf.nil _ _) 1 (by omega) _ r7 [(g7, _)] (by rw [h7l]; exact hR7) ⟨_, _, by rw [h7l], by rw [h7l]; exact Nat.le_refl _⟩ _ (show [(g7, _)] ∈ _ from (by repeat (first | exact mm1 | assumption | apply List.Mem.tail))) _ S.hp) ?_
  rintro v38 w ⟨vw1, Cw1, rfl, hCw1, hwl1, hT⟩; clear E a; intro a E
  have S := S.all hT
  rw [show ((1 : Nat) : Int) = 1 from rfl, ← hn1] at hW1
  have hCw1 : Buf Cw1 65 130 vw1 1 (wl [mkW d 1 r7]) := by rw [hW1] at hCw1; exact hCw1
  rw [hW1] at S
  have S : St w0 _ _ ([(p, pcl ⟨-1, false, 1⟩ vw1 (.slice add 1 cd))] :: Cw1 :: [(d, dcl p gp gn 512 false)] :: [(gn, cel (byt n1) 5)] :: _) := S
  rw [show (wrS d 512 1 r7 ⟨-1, false, 0⟩ false z []).2.2.2 = 0 by rw [hW1]] at E
  refine list_pure E rfl rfl (by decide) (rn_assign E rfl rfl) ?_; clear E a; intro a E
  refine wpList_nil ?_
  refine then_k hK ?_; clear hK; clear K
  refine wp_seq_k ?_; intro K hK
  refine region_list ?_
  refine list_pure E rfl rfl (by decide) (rn_move E rfl rfl) ?_; clear E a; intro a E
  have S := S.front5 (A := [(p, _)]) (by repeat (first | exact pk1 | apply pick_tail)) (B := Cw1) (by repeat (first | exact pk1 | apply pick_tail)) (C := [(d, _)]) (by repeat (first | exact pk1 | apply pick_tail)) (D := [(gp, _)]) (by repeat (first | exact pk1 | apply pick_tail)) (F := [(gn, _)]) (by repeat (first | exact pk1 | apply pick_tail))
  refine list_call E rfl rfl (by decide) rfl Try.func11 rfl (by kernel_rfl) rfl (flush_ret d p gp gn 512 false ⟨-1, false, 1⟩ vw1 _ z n1 hzl hn1l (by omega) [mkW d 1 r7] Cw1 hCw1 _ (fun x hx => .inl (by rw [List.mem_singleton.1 hx]; rfl)) _ S.hp) ?_
  rintro v40 w hO; clear E a; intro a E
  obtain ⟨-, -, rfl, vw2, Cw2, hCw2, hT⟩ := hO.resolve_left (fun q => by simp at q)
  rw [outW_all (fun x hx => by rw [List.mem_singleton.1 hx]; rfl)] at hCw2
  have S := S.all hT
  refine list_pure E rfl rfl (by decide) (rn_assign E rfl rfl) ?_; clear E a; intro a E
  refine wpList_nil ?_
  refine then_k hK ?_; clear hK; clear K
  refine wp_seq_k ?_; intro K hK
  refine region_list ?_
  refine list_pure E rfl rfl (by decide) (rn_move E rfl rfl) ?_; clear E a; intro a E
  refine list_call E rfl rfl (by decide) rfl Try.func27 rfl (by kernel_rfl) rfl (full_ret 9 _) ?_
  rintro v42 w ⟨g9, rfl, hT⟩; clear E a; intro a E
  have S := S.fresh hT; rw [← hr9] at S
  have hR9 := rd_cells (g := g9) (T := 5) (xs := byt r9) (s := 1) (m := 128) (by rw [byt_length, h9l]) (byt_one r9) (by omega) 128
  have hW2 := wr_one (d := d) (n := 512) (a := 2) h9l (by omega) ⟨-1, false, 1⟩ rfl (by simp) n1 []
  rw [show ((2 : Nat) : Int) = 2 from rfl] at hW2
  obtain ⟨n2, hn2⟩ : ∃ n2, n2 = setS n1 2 r9 := ⟨_, rfl⟩
  have hn2l : n2.length = 512 := by rw [hn2, setS_length (by omega) h9l, hn1l]
  rw [← hn2] at hW2
  have S := S.front4 (A := [(p, _)]) (by repeat (first | exact pk1 | apply pick_tail)) (B := Cw2) (by repeat (first | exact pk1 | apply pick_tail)) (C := [(d, _)]) (by repeat (first | exact pk1 | apply pick_tail)) (D := [(gn, _)]) (by repeat (first | exact pk1 | apply pick_tail))
  refine list_call E rfl rfl (by decide) rfl Try.func10 rfl (by kernel_rfl) rfl (dwrite_ret d p gn gp 512 false ⟨-1, false, 1⟩ _ _ n1 hn1l (by omega) [] (by simp) (by simp) (by simp) Cw2 hCw2 2 (by omega) _ r9 [(g9, _)] (by rw [h9l]; exact hR9) ⟨_, _, by rw [h9l], by rw [h9l]; exact Nat.le_refl _⟩ _ (show [(g9, _)] ∈ _ from (by repeat (first | exact mm1 | assumption | apply List.Mem.tail))) _ S.hp) ?_
  rintro v43 w ⟨vw3, Cw3, rfl, hCw3, hwl3, hT⟩; clear E a; intro a E
  have S := S.all hT
  have hCw3 : Buf Cw3 65 130 vw3 1 (wl [mkW d 2 r9]) := by rw [hW2] at hCw3; exact hCw3
  rw [hW2] at S
  have S : St w0 _ _ ([(p, pcl ⟨-1, false, 2⟩ vw3 (.slice add 1 cd))] :: Cw3 :: [(d, dcl p gp gn 512 false)] :: [(gn, cel (byt n2) 5)] :: _) := S
  rw [show (wrS d 512 2 r9 ⟨-1, false, 1⟩ false n1 []).2.2.2 = 0 by rw [hW2]] at E
  obtain ⟨ad3, c3, rfl⟩ := hCw3.slice
  refine list_pure E rfl rfl (by decide) (rn_assign E rfl rfl) ?_; clear E a; intro a E
  refine wpList_nil ?_
  refine then_k hK ?_; clear hK; clear K
  refine wp_seq_k ?_; intro K hK
  refine region_list ?_
  refine list_pure E rfl rfl (by decide) (rn_move E rfl rfl) ?_; clear E a; intro a E
  refine list_call E rfl rfl (by decide) rfl Try.func13 rfl (by kernel_rfl) rfl (waiting_ret p ⟨-1, false, 2⟩ ad3 1 c3 _ _ (S.hp.sel (sel_cons (by repeat (first | exact pk1 | apply pick_tail)) (sel_nil _)))) ?_
  rintro v45 w ⟨rfl, hT⟩; clear E a; intro a E
  have S := S.call1 (sel_cons (by repeat (first | exact pk1 | apply pick_tail)) (sel_nil _)) hT
  refine list_pure E rfl rfl (by decide) (rn_assign E rfl rfl) ?_; clear E a; intro a E
  refine wpList_nil ?_
  refine then_k hK ?_; clear hK; clear K
  refine wp_seq_k ?_; intro K hK
  refine region_list ?_
  refine list_pure E rfl rfl (by decide) (rn_move E rfl rfl) ?_; clear E a; intro a E
  have S := S.addNil.front6 (A := [(p, _)]) (by repeat (first | exact pk1 | apply pick_tail)) (B := Cw3) (by repeat (first | exact pk1 | apply pick_tail)) (C := Cd) (by repeat (first | exact pk1 | apply pick_tail)) (D := [(d, _)]) (by repeat (first | exact pk1 | apply pick_tail)) (F := [(gp, _)]) (by repeat (first | exact pk1 | apply pick_tail)) (G := [(gn, _)]) (by repeat (first | exact pk1 | apply pick_tail))
  refine list_call E rfl rfl (by decide) rfl Try.func14 rfl (by kernel_rfl) rfl (up1_ret p d gp gn 512 false ⟨-1, false, 2⟩ _ _ n1 n2 hn1l hn2l (by omega) [mkW d 2 r9] Cw3 hCw3 Cd hCd (fun x hx => by rw [List.mem_singleton.1 hx]; exact ⟨rfl, by show 128 * 2 + 128 ≤ 512; omega⟩) (.slice none 0 0) [] [] (Rd.nil [] 1) _ (show [] ∈ _ from (by repeat (first | exact mm1 | assumption | apply List.Mem.tail))) _ S.hp) ?_
  rintro v47 w hT; clear E a; intro a E
  have S := S.all hT; rw [upS_none] at S
  refine wpList_nil ?_
  refine then_k hK ?_; clear hK; clear K
  refine wp_seq_k ?_; intro K hK
  refine region_list ?_
  refine list_pure E rfl rfl (by decide) (rn_move E rfl rfl) ?_; clear E a; intro a E
  have S := S.front3 (A := [(p, _)]) (by repeat (first | exact pk1 | apply pick_tail)) (B := [(d, _)]) (by repeat (first | exact pk1 | apply pick_tail)) (C := [(gn, _)]) (by repeat (first | exact pk1 | apply pick_tail))
  rw [show (512 : Nat) = n1.length from hn1l.symm] at S
  refine list_call E rfl rfl (by decide) rfl Try.func12 rfl (by kernel_rfl) rfl (dread_ret d p gp gn false ⟨-1, false, 2⟩ _ _ n1 (by omega) 0 4 (by omega) _ (S.hp.sel (sel_cons (by repeat (first | exact pk1 | apply pick_tail)) (sel_cons (by repeat (first | exact pk1 | apply pick_tail)) (sel_cons (by repeat (first | exact pk1 | apply pick_tail)) (sel_nil _)))))) ?_
  rintro v50 w hO; clear E a; intro a E
  obtain ⟨-, -, -, gr, rfl, hT⟩ := ((hO.resolve_left (fun q => by simp at q)).resolve_left (fun q => by simp at q)).resolve_left (fun q => by apply q.2.2.1; rw [hn1l]; decide)
  have S := S.call4 (sel_cons (by repeat (first | exact pk1 | apply pick_tail)) (sel_cons (by repeat (first | exact pk1 | apply pick_tail)) (sel_cons (by repeat (first | exact pk1 | apply pick_tail)) (sel_nil _)))) hT
  rw [show (n1.drop ((0 : Int).toNat * 128)).take ((4 : Int).toNat * 128) = n1 by simp only [Int.toNat_zero, Nat.zero_mul, List.drop_zero]; exact List.take_of_length_le (by rw [hn1l]; decide)] at S
  refine list_pure E rfl rfl (by decide) (rn_move E rfl rfl) ?_; clear E a; intro a E
  refine list_pure E rfl rfl (by decide) (rn_extract E rfl rfl rfl) ?_; clear E a; intro a E
  refine list_pure E rfl rfl (by decide) (rn_extract E rfl rfl rfl) ?_; clear E a; intro a E
  refine list_pure E rfl rfl (by decide) (rn_assign E rfl rfl) ?_; clear E a; intro a E
  refine list_pure E rfl rfl (by decide) (rn_assign E rfl rfl) ?_; clear E a; intro a E
  refine wpList_nil ?_
  refine then_k hK ?_; clear hK; clear K
  refine wp_seq_k ?_; intro K hK
  refine wp_seq_k ?_; intro K hK
  replace E := E.keep (e' := [(0, _), (1, _), (4, _), (5, _), (6, _), (7, _), (8, _), (9, _)]) (keep_cons rfl (keep_cons rfl (keep_cons rfl (keep_cons rfl (keep_cons rfl (keep_cons rfl (keep_cons rfl (keep_cons rfl (keep_nil)))))))))
  refine region_list ?_
  refine list_pure E rfl rfl (by decide) (rn_move E rfl rfl) ?_; clear E a; intro a E
  refine list_pure E rfl rfl (by decide) (by first | exact rn_neq E rfl rfl rfl | exact rn_neq_ptr_nil E rfl rfl rfl rfl | exact rn_neq_bool E rfl rfl rfl rfl | exact rn_neq_string E rfl rfl rfl) ?_; clear E a; intro a E
  refine list_pure E rfl rfl (by decide) (rn_move E rfl rfl) ?_; clear E a; intro a E
  refine guard_false E (t := 55) rfl (rfl) (fun hb55 => ?_)
  refine list_guard_yes E rfl rfl rfl rfl hb55 rfl (by decide) (rn_move E rfl rfl) ?_; clear E a; intro a E
  refine list_guard_yes E rfl rfl rfl rfl hb55 rfl (by decide) (by first | exact rn_neq E rfl rfl rfl | exact rn_neq_ptr_nil E rfl rfl rfl rfl | exact rn_neq_bool E rfl rfl rfl rfl | exact rn_neq_string E rfl rfl rfl) ?_; clear E a; intro a E
  refine list_pure E rfl rfl (by decide) (rn_pick_no' E rfl rfl hb55 rfl) ?_; clear E a; intro a E
  refine list_pure E rfl rfl (by decide) (rn_move E rfl rfl) ?_; clear E a; intro a E
  refine guard_false E (t := 59) rfl (rfl) (fun hb59 => ?_)
  refine list_guard_yes E rfl rfl rfl rfl hb59 rfl (by decide) (rn_move E rfl rfl) ?_; clear E a; intro a E
  refine list_guard_yes E rfl rfl rfl rfl hb59 rfl (by decide) (by first | exact rn_neq E rfl rfl rfl | exact rn_neq_ptr_nil E rfl rfl rfl rfl | exact rn_neq_bool E rfl rfl rfl rfl | exact rn_neq_string E rfl rfl rfl) ?_; clear E a; intro a E
  refine list_pure E rfl rfl (by decide) (rn_pick_no' E rfl rfl hb59 rfl) ?_; clear E a; intro a E
  refine list_pure E rfl rfl (by decide) (rn_move E rfl rfl) ?_; clear E a; intro a E
  refine guard_false E (t := 63) rfl (rfl) (fun hb63 => ?_)
  refine list_guard_yes E rfl rfl rfl rfl hb63 rfl (by decide) (rn_move E rfl rfl) ?_; clear E a; intro a E
  refine list_guard_yes E rfl rfl rfl rfl hb63 rfl (by decide) (by first | exact rn_neq E rfl rfl rfl | exact rn_neq_ptr_nil E rfl rfl rfl rfl | exact rn_neq_bool E rfl rfl rfl rfl | exact rn_neq_string E rfl rfl rfl) ?_; clear E a; intro a E
  refine list_pure E rfl rfl (by decide) (rn_pick_no' E rfl rfl hb63 rfl) ?_; clear E a; intro a E
  refine list_pure E rfl rfl (by decide) (rn_move E rfl rfl) ?_; clear E a; intro a E
  refine guard_false E (t := 67) rfl (rfl) (fun hb67 => ?_)
  refine list_guard_yes E rfl rfl rfl rfl hb67 rfl (by decide) (rn_move E rfl rfl) ?_; clear E a; intro a E
  refine list_guard_yes E rfl rfl rfl rfl hb67 rfl (by decide) (by first | exact rn_neq E rfl rfl rfl | exact rn_neq_ptr_nil E rfl rfl rfl rfl | exact rn_neq_bool E rfl rfl rfl rfl | exact rn_neq_string E rfl rfl rfl) ?_; clear E a; intro a E
  refine list_pure E rfl rfl (by decide) (rn_pick_no' E rfl rfl hb67 rfl) ?_; clear E a; intro a E
  refine list_pure E rfl rfl (by decide) (rn_move E rfl rfl) ?_; clear E a; intro a E
  refine guard_false E (t := 71) rfl (rfl) (fun hb71 => ?_)
  refine list_guard_yes E rfl rfl rfl rfl hb71 rfl (by decide) (rn_move E rfl rfl) ?_; clear E a; intro a E
  refine list_guard_yes E rfl rfl rfl rfl hb71 rfl (by decide) (by first | exact rn_len E rfl rfl rfl | exact rn_len_str E rfl rfl rfl | exact rn_len_string E rfl rfl rfl) ?_; clear E a; intro a E
  refine list_guard_yes E rfl rfl rfl rfl hb71 rfl (by decide) (by first | exact rn_neq E rfl rfl rfl | exact rn_neq_ptr_nil E rfl rfl rfl rfl | exact rn_neq_bool E rfl rfl rfl rfl | exact rn_neq_string E rfl rfl rfl) ?_; clear E a; intro a E
  refine list_pure E rfl rfl (by decide) (rn_pick_no' E rfl rfl hb71 rfl) ?_; clear E a; intro a E
  refine wpList_nil ?_
  refine then_k hK ?_; clear hK; clear K
  refine if_false' E rfl (rfl) ?_
  refine wp_skip ?_
  refine then_k hK ?_; clear hK; clear K
  refine wp_seq_k ?_; intro K hK
  replace E := E.keep (e' := [(0, _), (1, _), (8, _)]) (keep_cons rfl (keep_cons rfl (keep_cons rfl (keep_nil))))
  refine region_list ?_
  refine list_pure E rfl rfl (by decide) (rn_move E rfl rfl) ?_; clear E a; intro a E
  refine list_pure E rfl rfl (by decide) (rn_is00 (i := 128) E rfl rfl rfl rfl rfl rfl (by decide)) ?_; clear E a; intro a E
  refine list_pure E rfl rfl (by decide) (rn_loadc E rfl rfl rfl (blk_cell (S.get (show List.Perm _ ([(gr, _)] :: _) from (by repeat (first | exact pk1 | apply pick_tail)))) (v := .int .u8 7) (byt_at (hg1 128 (by omega) (by omega))))) ?_; clear E a; intro a E
  refine list_pure E rfl rfl (by decide) (by first | exact rn_eql E rfl rfl rfl | exact rn_eql_ptr_nil E rfl rfl rfl rfl | exact rn_eql_bool E rfl rfl rfl rfl | exact rn_eql_string E rfl rfl rfl) ?_; clear E a; intro a E
  refine list_pure E rfl rfl (by decide) (rn_move E rfl rfl) ?_; clear E a; intro a E
  refine guard_true E (t := 80) rfl (rfl) (fun hb80 => ?_)
  refine list_guard_yes E rfl rfl rfl rfl hb80 rfl (by decide) (rn_move E rfl rfl) ?_; clear E a; intro a E
  refine list_guard_yes E rfl rfl rfl rfl hb80 rfl (by decide) (rn_is00 (i := 255) E rfl rfl rfl rfl rfl rfl (by decide)) ?_; clear E a; intro a E
  refine list_guard_yes E rfl rfl rfl rfl hb80 rfl (by decide) (rn_loadc E rfl rfl rfl (blk_cell (S.get (show List.Perm _ ([(gr, _)] :: _) from (by repeat (first | exact pk1 | apply pick_tail)))) (v := .int .u8 7) (byt_at (hg1 255 (by omega) (by omega))))) ?_; clear E a; intro a E
  refine list_guard_yes E rfl rfl rfl rfl hb80 rfl (by decide) (by first | exact rn_eql E rfl rfl rfl | exact rn_eql_ptr_nil E rfl rfl rfl rfl | exact rn_eql_bool E rfl rfl rfl rfl | exact rn_eql_string E rfl rfl rfl) ?_; clear E a; intro a E
  refine list_pure E rfl rfl (by decide) (rn_pick_yes' E rfl rfl hb80 rfl) ?_; clear E a; intro a E
  refine list_pure E rfl rfl (by decide) (rn_move E rfl rfl) ?_; clear E a; intro a E
  refine guard_true E (t := 86) rfl (rfl) (fun hb86 => ?_)
  refine list_guard_yes E rfl rfl rfl rfl hb86 rfl (by decide) (rn_move E rfl rfl) ?_; clear E a; intro a E
  refine list_guard_yes E rfl rfl rfl rfl hb86 rfl (by decide) (rn_is00 (i := 256) E rfl rfl rfl rfl rfl rfl (by decide)) ?_; clear E a; intro a E
  refine list_guard_yes E rfl rfl rfl rfl hb86 rfl (by decide) (rn_loadc E rfl rfl rfl (blk_cell (S.get (show List.Perm _ ([(gr, _)] :: _) from (by repeat (first | exact pk1 | apply pick_tail)))) (v := .int .u8 0) (byt_at hg2))) ?_; clear E a; intro a E
  refine list_guard_yes E rfl rfl rfl rfl hb86 rfl (by decide) (by first | exact rn_eql E rfl rfl rfl | exact rn_eql_ptr_nil E rfl rfl rfl rfl | exact rn_eql_bool E rfl rfl rfl rfl | exact rn_eql_string E rfl rfl rfl) ?_; clear E a; intro a E
  refine list_pure E rfl rfl (by decide) (rn_pick_yes' E rfl rfl hb86 rfl) ?_; clear E a; intro a E
  refine list_pure E rfl rfl (by decide) (rn_move E rfl rfl) ?_; clear E a; intro a E
  refine guard_true E (t := 92) rfl (rfl) (fun hb92 => ?_)
  refine list_guard_yes E rfl rfl rfl rfl hb92 rfl (by decide) (rn_move E rfl rfl) ?_; clear E a; intro a E
  refine list_guard_wp E rfl rfl rfl rfl hb92 ?_; refine wp_call' E rfl (by decide) rfl Try.func18 rfl (by kernel_rfl) rfl (writes_ret p ⟨-1, false, 2⟩ _ _ _ (S.hp.sel (sel_cons (by repeat (first | exact pk1 | apply pick_tail)) (sel_nil _)))) ?_
  rintro v94 w ⟨rfl, hT⟩; clear E a; intro a E
  have S := S.call1 (sel_cons (by repeat (first | exact pk1 | apply pick_tail)) (sel_nil _)) hT
  refine list_guard_yes E rfl rfl rfl rfl hb92 rfl (by decide) (by first | exact rn_eql E rfl rfl rfl | exact rn_eql_ptr_nil E rfl rfl rfl rfl | exact rn_eql_bool E rfl rfl rfl rfl | exact rn_eql_string E rfl rfl rfl) ?_; clear E a; intro a E
  refine list_pure E rfl rfl (by decide) (rn_pick_yes' E rfl rfl hb92 rfl) ?_; clear E a; intro a E
  refine list_pure E rfl rfl (by decide) (rn_assign E rfl rfl) ?_; clear E a; intro a E
  refine wpList_nil ?_
  refine then_k hK ?_; clear hK; clear K
  refine wp_ret ?_
  refine ret1 E rfl rfl ?_
  exact ⟨_, rfl, rfl, (by repeat (first | exact S.tr | replace S := S.tail))⟩
end Go.Proofs.Ytpppaohhnlgfoaa
