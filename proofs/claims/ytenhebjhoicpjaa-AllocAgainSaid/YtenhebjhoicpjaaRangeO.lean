/-
  The program's set of ranges: put, added to, taken from, looked for, told, copied.
-/
import Derived.Test.YtenhebjhoicpjaaRangeN
namespace Go.Sl
theorem flat_drop_sp (l : List Sp) (k : Nat) : (l.flatMap Sp.lay).drop (k * 2) = (l.drop k).flatMap Sp.lay := by
  induction k generalizing l with
  | zero => simp
  | succ k ih => cases l with
    | nil => simp
    | cons y r => rw [List.flatMap_cons, Nat.succ_mul, List.drop_succ_cons, ← ih r, Nat.add_comm (k * 2) 2, ← List.drop_drop]; rfl
theorem flat_take_sp (l : List Sp) (k : Nat) : (l.flatMap Sp.lay).take (k * 2) = (l.take k).flatMap Sp.lay := by
  induction k generalizing l with
  | zero => simp
  | succ k ih => cases l with
    | nil => simp
    | cons y r =>
      rw [List.flatMap_cons, List.take_succ_cons, List.flatMap_cons, ← ih r, Nat.succ_mul]
      show List.take (k * 2 + 2) (_ :: _ :: _) = _ :: _ :: _
      rw [List.take_succ_cons, List.take_succ_cons]; rfl
theorem Rd.sp {C : Chunk} {ad : Option Addr} {c : Nat} {l : List Sp} (h : Rd C 2 (.slice ad l.length c) l.length (l.flatMap Sp.lay)) {lo hi mx : Nat} (h1 : lo ≤ hi) (h2 : hi ≤ l.length) (h3 : hi ≤ mx) :
    Rd C 2 (sliced ad lo hi mx 2) ((l.drop lo).take (hi - lo)).length (((l.drop lo).take (hi - lo)).flatMap Sp.lay) := by
  have h4 := h.piece rfl h1 h2 h3
  rw [flat_drop_sp, flat_take_sp] at h4
  rwa [List.length_take, List.length_drop, Nat.min_eq_left (by omega)]
end Go.Sl

namespace Go.Proofs.Ytenhebjhoicpjaa
open Go.Sl
set_option maxRecDepth 10000

theorem rgput_ret (p : Nat) (l : List Sp) (mn : Int) (A : Chunk) (frm to : Nat) (m : List Sp) (vm : Value) (M : Chunk) (w0 : World) (hA : SetC p l mn A) (hlen : l.length ≤ 4096) (h1 : frm ≤ to) (h2 : to ≤ l.length) (hm : m.length ≤ 10) (l2 : List Sp) (he : l2 = l.take frm ++ m ++ l.drop to) (hM : Rd M 2 vm m.length (m.flatMap Sp.lay)) (H : Hp w0 [A, M]) :
    Ret Try.prog 38 #[ptr p, .int .i64 frm, .int .i64 to, vm] w0 fun u w' =>
      (4096 < l2.length ∧ u = .int .i64 2 ∧ Trs w0 w' [A, M] [A, M]) ∨
      (l2.length ≤ 4096 ∧ u = .int .i64 0 ∧ ∃ A', SetC p l2 mn A' ∧ Trs w0 w' [A, M] [A', M]) := by
  have S := St.begin H
  obtain ⟨ad, c, C, hAe, hB⟩ := hA.open
  obtain ⟨adm, cm, rfl⟩ := hM.slice
  have hcap := hB.cap_le
  have hnew : (l.take frm ++ m ++ l.drop to).length = frm + m.length + (l.length - to) := by simp only [List.length_append, List.length_take, List.length_drop]; omega
  have S := S.openE hAe
  have hnew2 : l2.length = frm + m.length + (l.length - to) := by rw [he, hnew]
  refine enter4 51 Try.func38 rfl rfl (by decide) ?_; intro a E
  refine wp_seq_k ?_; intro K hK
  refine region_list ?_
  refine list_pure E rfl rfl (by decide) (rn_assign E rfl rfl) ?_; clear E a; intro a E
  refine wpList_nil ?_
  refine then_k hK ?_; clear hK; clear K
  refine wp_seq_k ?_; intro K hK
  refine wp_seq_k ?_; intro K hK
  refine region_list ?_
  refine list_pure E rfl rfl (by decide) (rn_move E rfl rfl) ?_; clear E a; intro a E
  refine list_pure E rfl rfl (by decide) (rn_nilCheck E rfl rfl) ?_; clear E a; intro a E
  refine list_pure E rfl rfl (by decide) (by first | exact rn_fieldAddr0 (q := 0) E rfl rfl rfl | exact rn_fieldAddr (q := 0) E rfl rfl rfl) ?_; clear E a; intro a E
  refine list_pure E rfl rfl (by decide) (by first | exact rn_load E rfl rfl rfl (S.get (by repeat (first | exact pk1 | apply pick_tail))) rfl | exact rn_loadc E rfl rfl rfl (by assumption)) ?_; clear E a; intro a E
  refine list_pure E rfl rfl (by decide) (by first | exact rn_len E rfl rfl rfl | exact rn_len_str E rfl rfl rfl | exact rn_len_string E rfl rfl rfl) ?_; clear E a; intro a E
  refine list_pure E rfl rfl (by decide) (rn_move E rfl rfl) ?_; clear E a; intro a E
  refine list_pure E rfl rfl (by decide) (rn_move E rfl rfl) ?_; clear E a; intro a E
  refine list_pure E rfl rfl (by decide) (rn_sub E rfl rfl rfl (by first | exact ws1 (by omega) (by omega) | exact w_in (by omega) | exact w_inu (by omega) | exact rfl)) ?_; clear E a; intro a E
  refine list_pure E rfl rfl (by decide) (rn_sub E rfl rfl rfl (by first | exact ws1 (by omega) (by omega) | exact w_in (by omega) | exact w_inu (by omega) | exact rfl)) ?_; clear E a; intro a E
  refine list_pure E rfl rfl (by decide) (rn_move E rfl rfl) ?_; clear E a; intro a E
  refine list_pure E rfl rfl (by decide) (by first | exact rn_len E rfl rfl rfl | exact rn_len_str E rfl rfl rfl | exact rn_len_string E rfl rfl rfl) ?_; clear E a; intro a E
  refine list_pure E rfl rfl (by decide) (rn_add E rfl rfl rfl (by first | exact wa1 (by omega) | exact w_in (by omega) | exact w_inu (by omega) | exact rfl)) ?_; clear E a; intro a E
  refine list_pure E rfl rfl (by decide) (rn_gtr E rfl rfl rfl) ?_; clear E a; intro a E
  refine wpList_nil ?_
  refine then_k hK ?_; clear hK; clear K
  refine if_bool E rfl (fun hb => ?_) (fun hb => ?_)
  · replace hb := Nrm.nrm hb
    refine wp_seq_k ?_; intro K hK
    refine region_list ?_
    refine list_pure E rfl rfl (by decide) (rn_assign E rfl rfl) ?_; clear E a; intro a E
    refine wpList_nil ?_
    refine then_k hK ?_; clear hK; clear K
    refine wp_ret ?_
    refine then_ret ?_; clear hK; clear K
    refine ret1 E rfl rfl ?_
    exact ⟨_, rfl, .inl ⟨by omega, rfl, (S.closeE hAe).back2⟩⟩
  · replace hb := Nrm.nrm hb
    refine wp_skip ?_
    refine then_k hK ?_; clear hK; clear K
    refine wp_seq_k ?_; intro K hK
    refine region_mix0 S (.ofL [(0, 0), (1, 0), (2, 0), (3, 0), (4, 0), (5, 0), (6, 0), (7, 0), (8, 0), (9, 0), (10, 0), (11, 0), (12, 0), (13, 0), (14, 0), (15, 0), (16, 0), (17, 0), (18, 0), (19, 0), (20, 0), (21, 0), (22, 0), (23, 0), (24, 0), (25, 1), (26, 1), (27, 0), (28, 0), (29, 3)]) (by kernel_rfl) (by kernel_rfl) ?_
    clear S; intro w S
    refine mix_pure E rfl rfl rfl (by decide) (fun w h => rn_move E rfl rfl) ?_; clear E a; intro a E
    refine mix_pure E rfl rfl rfl (by decide) (fun w h => rn_move E rfl rfl) ?_; clear E a; intro a E
    refine mix_pure E rfl rfl rfl (by decide) (fun w h => rn_nilCheck E rfl rfl) ?_; clear E a; intro a E
    refine mix_pure E rfl rfl rfl (by decide) (fun w h => by first | exact rn_fieldAddr0 (q := 0) E rfl rfl rfl | exact rn_fieldAddr (q := 0) E rfl rfl rfl) ?_; clear E a; intro a E
    refine mix_pure E rfl rfl rfl (by decide) (fun w h => by first | exact rn_load E rfl rfl rfl (h.one (by repeat (first | exact mm1 | assumption | apply List.Mem.tail))) rfl | exact rn_loadc E rfl rfl rfl (by assumption)) ?_; clear E a; intro a E
    refine mix_pure E rfl rfl rfl (by decide) (fun w h => rn_move E rfl rfl) ?_; clear E a; intro a E
    refine mix_pure E rfl rfl rfl (by decide) (fun w h => rn_move E rfl rfl) ?_; clear E a; intro a E
    refine mix_pure E rfl rfl rfl (by decide) (fun w h => rn_slice_hm (s := 2) E rfl rfl rfl rfl rfl rfl rfl rfl (by omega) (by omega)) ?_; clear E a; intro a E
    refine mix_pure E rfl rfl rfl (by decide) (fun w h => rn_move E rfl rfl) ?_; clear E a; intro a E
    refine mix_pure E rfl rfl rfl (by decide) (fun w h => rn_move E rfl rfl) ?_; clear E a; intro a E
    refine mix_pure E rfl rfl rfl (by decide) (fun w h => rn_nilCheck E rfl rfl) ?_; clear E a; intro a E
    refine mix_pure E rfl rfl rfl (by decide) (fun w h => by first | exact rn_fieldAddr0 (q := 0) E rfl rfl rfl | exact rn_fieldAddr (q := 0) E rfl rfl rfl) ?_; clear E a; intro a E
    refine mix_pure E rfl rfl rfl (by decide) (fun w h => by first | exact rn_load E rfl rfl rfl (h.one (by repeat (first | exact mm1 | assumption | apply List.Mem.tail))) rfl | exact rn_loadc E rfl rfl rfl (by assumption)) ?_; clear E a; intro a E
    refine mix_pure E rfl rfl rfl (by decide) (fun w h => rn_move E rfl rfl) ?_; clear E a; intro a E
    refine mix_pure E rfl rfl rfl (by decide) (fun w h => rn_move E rfl rfl) ?_; clear E a; intro a E
    refine mix_pure E rfl rfl rfl (by decide) (fun w h => rn_nilCheck E rfl rfl) ?_; clear E a; intro a E
    refine mix_pure E rfl rfl rfl (by decide) (fun w h => by first | exact rn_fieldAddr0 (q := 0) E rfl rfl rfl | exact rn_fieldAddr (q := 0) E rfl rfl rfl) ?_; clear E a; intro a E
    refine mix_pure E rfl rfl rfl (by decide) (fun w h => by first | exact rn_load E rfl rfl rfl (h.one (by repeat (first | exact mm1 | assumption | apply List.Mem.tail))) rfl | exact rn_loadc E rfl rfl rfl (by assumption)) ?_; clear E a; intro a E
    refine mix_pure E rfl rfl rfl (by decide) (fun w h => by first | exact rn_len E rfl rfl rfl | exact rn_len_str E rfl rfl rfl | exact rn_len_string E rfl rfl rfl) ?_; clear E a; intro a E
    refine mix_pure E rfl rfl rfl (by decide) (fun w h => rn_move E rfl rfl) ?_; clear E a; intro a E
    refine mix_pure E rfl rfl rfl (by decide) (fun w h => rn_nilCheck E rfl rfl) ?_; clear E a; intro a E
    refine mix_pure E rfl rfl rfl (by decide) (fun w h => by first | exact rn_fieldAddr0 (q := 0) E rfl rfl rfl | exact rn_fieldAddr (q := 0) E rfl rfl rfl) ?_; clear E a; intro a E
    refine mix_pure E rfl rfl rfl (by decide) (fun w h => by first | exact rn_load E rfl rfl rfl (h.one (by repeat (first | exact mm1 | assumption | apply List.Mem.tail))) rfl | exact rn_loadc E rfl rfl rfl (by assumption)) ?_; clear E a; intro a E
    refine mix_pure E rfl rfl rfl (by decide) (fun w h => by first | exact rn_len E rfl rfl rfl | exact rn_len_str E rfl rfl rfl | exact rn_len_string E rfl rfl rfl) ?_; clear E a; intro a E
    refine mix_pure E rfl rfl rfl (by decide) (fun w h => rn_slice_lhm (s := 2) E rfl rfl rfl rfl rfl rfl rfl rfl rfl rfl (by omega) (by omega) (by omega)) ?_; clear E a; intro a E
    refine mix_act rfl rfl (wp_bslice (cells := [_, _, _]) E S rfl rfl (by decide) rfl rfl rfl rfl rfl (by decide) rfl ?_); clear E S a; intro a w b47 E S; refine ⟨S.stab.sub (by first | (simp; done) | (simp +contextual; done) | (simp [*]; done)), ?_⟩
    have S := S.gather pk3 pk3
    have hd1 := hB.rd.sp (lo := 0) (hi := frm) (mx := frm) (by omega) (by omega) (by omega)
    have hd2 := hB.rd.sp (lo := to) (hi := l.length) (mx := l.length) (by omega) (by omega) (by omega)
    rw [List.drop_zero, Nat.sub_zero] at hd1
    rw [List.take_of_length_le (by rw [List.length_drop]; omega)] at hd2
    have hO : Sls (C ++ M) [(sliced ad 0 frm frm 2, l.take frm), (.slice adm m.length cm, m), (sliced ad to l.length l.length 2, l.drop to)] := by
      refine ⟨?_, ?_, by simp, by simp [lens]; omega⟩
      · intro x hx; simp only [List.mem_cons, List.not_mem_nil, or_false] at hx
        rcases hx with rfl | rfl | rfl
        · exact hd1.sub fun x hx => List.mem_append_left _ hx
        · exact hM.sub fun x hx => List.mem_append_right _ hx
        · exact hd2.sub fun x hx => List.mem_append_left _ hx
      · intro x hx; simp only [List.mem_cons, List.not_mem_nil, or_false] at hx
        rcases hx with rfl | rfl | rfl
        · exact hd1.slice
        · exact ⟨_, _, rfl⟩
        · exact hd2.slice
    refine mix_call E rfl rfl rfl (by decide) rfl Try.func44 rfl (by kernel_rfl) rfl (concat_ret [(b47, _)] (C ++ M) _ _ (rd_cells rfl (by simp [Value.oneCell', sliced]) (by simp) 3) hO _ (S.hp.sel (sel_cons (by repeat (first | exact pk1 | apply pick_tail)) (sel_cons (by repeat (first | exact pk1 | apply pick_tail)) (sel_nil _))))) ?_
    rintro v48 w ⟨C2, hB2, hT⟩; clear E a; intro a E
    have hB2 : Buf C2 31 2 v48 l2.length (l2.flatMap Sp.lay) := (by rw [he]; simpa using hB2); obtain ⟨ad4, c4, rfl⟩ := hB2.slice; have S := (S.call3 (sel_cons (by repeat (first | exact pk1 | apply pick_tail)) (sel_cons (by repeat (first | exact pk1 | apply pick_tail)) (sel_nil _))) hT).perm2.split
    refine ⟨S.stab.sub (by first | (simp; done) | (simp +contextual; done) | (simp [*]; done)), ?_⟩
    refine mix_pure E rfl rfl rfl (by decide) (fun w h => rn_nilCheck E rfl rfl) ?_; clear E a; intro a E
    refine mix_pure E rfl rfl rfl (by decide) (fun w h => by first | exact rn_fieldAddr0 (q := 0) E rfl rfl rfl | exact rn_fieldAddr (q := 0) E rfl rfl rfl) ?_; clear E a; intro a E
    refine mix_last rfl rfl (wp_store1 E S rfl rfl rfl rfl rfl rfl (by repeat (first | exact pk1 | apply pick_tail)) (by first | exact Nat.le_of_ble_eq_true rfl | (simp; done) | (simp; omega)) ?_); clear E S a; intro a w E S; try dsimp only [List.set] at S
    refine mix_nil ?_
    refine then_k hK ?_; clear hK; clear K
    refine wp_seq_k ?_; intro K hK
    replace E := E.keep (e' := [(8, _)]) (keep_cons rfl (keep_nil))
    refine region_list ?_
    refine list_pure E rfl rfl (by decide) (rn_assign E rfl rfl) ?_; clear E a; intro a E
    refine wpList_nil ?_
    refine then_k hK ?_; clear hK; clear K
    refine wp_ret ?_
    refine ret1 E rfl rfl ?_
    exact ⟨_, rfl, .inr ⟨by omega, rfl, _, ⟨_, C2, rfl, hB2⟩, (((S.closeP pk1 pk4 rfl).only (Bs := [_, M]) (sel_cons (by repeat (first | exact pk1 | apply pick_tail)) (sel_cons (by repeat (first | exact pk1 | apply pick_tail)) (sel_nil _))))).tr⟩⟩

/-- What 'put' makes of an Add. -/
theorem add_end {l : List Sp} {x : Sp} (hG : Okl l) (hm : x.may = true) (hn : meetsL l x = false) :
    (4096 < (withL l x false).length → addE l x = 2 ∧ addS l x = l) ∧ ((withL l x false).length ≤ 4096 → addE l x = 0 ∧ addS l x = withL l x false) := by
  have hap := apart_of_meets hG.gd hm hn
  refine ⟨fun h => ?_, fun h => ?_⟩
  · have := add_full hG.gd hm hap h
    exact ⟨this, addS_no (by omega)⟩
  · have := add_fits hG.gd hm hap h
    exact ⟨this, addS_ok this⟩

theorem add_ret (p : Nat) (l : List Sp) (x : Sp) (A : Chunk) (w0 : World) (hA : SetC p l (manyL l) A) (hG : Okl l) (H : Hp w0 [A]) :
    Ret Try.prog 32 #[ptr p, x.agg] w0 fun u w' => u = .int .i64 (addE l x) ∧ ∃ A', SetC p (addS l x) (manyL (addS l x)) A' ∧ Trs w0 w' [A] [A'] := by
  have S := St.begin H
  have hA0 := hA
  obtain ⟨ad, c, C, hAe, hB⟩ := hA.open
  have hlen := hG.len
  refine enter2 113 Try.func32 rfl rfl (by decide) ?_; intro a E
  refine wp_seq_k ?_; intro K hK
  refine region_list ?_
  refine list_wp rfl (wp_box E S rfl rfl (by decide) rfl rfl ?_); clear E S a; intro a w b3 E S
  refine list_pure E rfl rfl (by decide) (rn_assign E rfl rfl) ?_; clear E a; intro a E
  refine wpList_nil ?_
  refine then_k hK ?_; clear hK; clear K
  refine wp_seq_k ?_; intro K hK
  refine wp_seq_k ?_; intro K hK
  refine region_list ?_
  refine list_pure E rfl rfl (by decide) (rn_load_blk (vs := [_, _]) E rfl rfl rfl (S.get (by repeat (first | exact pk1 | apply pick_tail))) rfl rfl) ?_; clear E a; intro a E
  refine list_call E rfl rfl (by decide) rfl Try.func42 rfl (by kernel_rfl) rfl (may_ret x _) ?_
  rintro v10 w ⟨rfl, hT⟩; clear E a; intro a E
  have S := S.quiet hT
  refine list_pure E rfl rfl (by decide) (rn_not E rfl rfl) ?_; clear E a; intro a E
  refine list_pure E rfl rfl (by decide) (rn_move E rfl rfl) ?_; clear E a; intro a E
  refine guard_split E (t := 12) rfl (fun hb12 => ?_) (fun hb12 => ?_)
  · have hb12n := hb12; replace hb12n := Nrm.nrm hb12n
    have hm : x.may = false := (by simpa using hb12)
    refine list_guard_no E rfl rfl rfl rfl hb12 rfl (by decide) ?_; clear E a; intro a E
    refine list_guard_no E rfl rfl rfl rfl hb12 rfl (by decide) ?_; clear E a; intro a E
    refine list_guard_no E rfl rfl rfl rfl hb12 rfl (by decide) ?_; clear E a; intro a E
    refine list_pure E rfl rfl (by decide) (rn_pick_yes' E rfl rfl hb12 rfl) ?_; clear E a; intro a E
    refine wpList_nil ?_
    refine then_k hK ?_; clear hK; clear K
    refine if_true' E rfl rfl ?_
    refine wp_seq_k ?_; intro K hK
    refine region_list ?_
    refine list_pure E rfl rfl (by decide) (rn_assign E rfl rfl) ?_; clear E a; intro a E
    refine wpList_nil ?_
    refine then_k hK ?_; clear hK; clear K
    refine wp_ret ?_
    refine then_ret ?_; clear hK; clear K
    refine ret1 E rfl rfl ?_
    have he : addE l x = 90 := by simp [addE, hm]
    exact ⟨_, rfl, by rw [he], A, by rw [addS_no (by omega)]; exact hA0, (S.only (Bs := [A]) (sel_cons (by repeat (first | exact pk1 | apply pick_tail)) (sel_nil _))).tr⟩
  · have hb12n := hb12; replace hb12n := Nrm.nrm hb12n
    have hm : x.may = true := (by simpa using hb12)
    refine list_guard_yes E rfl rfl rfl rfl hb12 rfl (by decide) (rn_move E rfl rfl) ?_; clear E a; intro a E
    refine list_guard_yes E rfl rfl rfl rfl hb12 rfl (by decide) (rn_load_blk (vs := [_, _]) E rfl rfl rfl (S.get (by repeat (first | exact pk1 | apply pick_tail))) rfl rfl) ?_; clear E a; intro a E
    refine list_guard_wp E rfl rfl rfl rfl hb12 ?_; refine wp_call' E rfl (by decide) rfl Try.func41 rfl (by kernel_rfl) rfl (meets_ret p l _ x A _ hA0 hG (S.hp.sel (sel_cons (by repeat (first | exact pk1 | apply pick_tail)) (sel_nil _)))) ?_
    rintro v15 w ⟨rfl, hT⟩; clear E a; intro a E
    have S := S.call1 (sel_cons (by repeat (first | exact pk1 | apply pick_tail)) (sel_nil _)) hT
    refine list_pure E rfl rfl (by decide) (rn_pick_no' E rfl rfl hb12 rfl) ?_; clear E a; intro a E
    refine wpList_nil ?_
    refine then_k hK ?_; clear hK; clear K
    refine if_bool E rfl (fun hb => ?_) (fun hb => ?_)
    · replace hb := Nrm.nrm hb
      have hn : meetsL l x = true := hb
      refine wp_seq_k ?_; intro K hK
      refine region_list ?_
      refine list_pure E rfl rfl (by decide) (rn_assign E rfl rfl) ?_; clear E a; intro a E
      refine wpList_nil ?_
      refine then_k hK ?_; clear hK; clear K
      refine wp_ret ?_
      refine then_ret ?_; clear hK; clear K
      refine ret1 E rfl rfl ?_
      have he : addE l x = 90 := by simp [addE, hn]
      exact ⟨_, rfl, by rw [he], A, by rw [addS_no (by omega)]; exact hA0, (S.only (Bs := [A]) (sel_cons (by repeat (first | exact pk1 | apply pick_tail)) (sel_nil _))).tr⟩
    · replace hb := Nrm.nrm hb
      have hn : meetsL l x = false := hb
      refine wp_skip ?_
      refine then_k hK ?_; clear hK; clear K
      refine wp_seq_k ?_; intro K hK
      refine region_list ?_
      refine list_pure E rfl rfl (by decide) (rn_move E rfl rfl) ?_; clear E a; intro a E
      refine list_pure E rfl rfl (by decide) (by first | exact rn_fieldAddr0 (q := 0) E rfl rfl rfl | exact rn_fieldAddr (q := 0) E rfl rfl rfl) ?_; clear E a; intro a E
      refine list_pure E rfl rfl (by decide) (by first | exact rn_load E rfl rfl rfl (S.get (by repeat (first | exact pk1 | apply pick_tail))) rfl | exact rn_loadc E rfl rfl rfl (by assumption)) ?_; clear E a; intro a E
      refine list_call E rfl rfl (by decide) rfl Try.func36 rfl (by kernel_rfl) rfl (behind_ret p l _ x.at_ A _ hA0 hG (S.hp.sel (sel_cons (by repeat (first | exact pk1 | apply pick_tail)) (sel_nil _)))) ?_
      rintro v20 w ⟨k, rfl, hk, hT⟩; clear E a; intro a E
      have S := S.call1 (sel_cons (by repeat (first | exact pk1 | apply pick_tail)) (sel_nil _)) hT
      refine list_pure E rfl rfl (by decide) (rn_assign E rfl rfl) ?_; clear E a; intro a E
      refine wpList_nil ?_
      refine then_k hK ?_; clear hK; clear K
      refine wp_seq_k ?_; intro K hK
      refine region_mix0 S (.ofL [(0, 0), (1, 0), (2, 0), (3, 0), (4, 0)]) (by kernel_rfl) (by kernel_rfl) ?_
      clear S; intro w S
      refine mix_pure E rfl rfl rfl (by decide) (fun w h => rn_move E rfl rfl) ?_; clear E a; intro a E
      refine mix_pure E rfl rfl rfl (by decide) (fun w h => by first | exact rn_fieldAddr0 (q := 1) E rfl rfl rfl | exact rn_fieldAddr (q := 1) E rfl rfl rfl) ?_; clear E a; intro a E
      refine mix_pure E rfl rfl rfl (by decide) (fun w h => by first | exact rn_load E rfl rfl rfl (h.one (by repeat (first | exact mm1 | assumption | apply List.Mem.tail))) rfl | exact rn_loadc E rfl rfl rfl (by assumption)) ?_; clear E a; intro a E
      refine mix_pure E rfl rfl rfl (by decide) (fun w h => rn_assign E rfl rfl) ?_; clear E a; intro a E
      refine mix_pure E rfl rfl rfl (by decide) (fun w h => rn_assign E rfl rfl) ?_; clear E a; intro a E
      refine mix_nil ?_
      refine then_k hK ?_; clear hK; clear K
      refine wp_seq_k ?_; intro K hK
      refine wp_seq_k ?_; intro K hK
      have hmx := Sp.may_iff.1 hm
      have hmb := many_bd hG.gd
      have hkl := hk.1
      have hnk : ∀ h : k < l.length, x.fin ≤ l[k].at_ := fun h => by
        have := cut_meets hG.gd hm hk
        rw [hn] at this
        have h2 : ¬ l[k].at_ < x.fin := fun q => by simp at this; have := this h; omega
        omega
      have S := S.openE hAe
      refine wp_join (fun (a : Act) (w' : World) => ∃ bt : Bool, (bt = true ↔ ∃ h : 0 < k, (l[k - 1]'(by have := hk.1; omega)).fin = x.at_) ∧ St w0 [A] w' [[(p, cel [.slice ad l.length c, .int .i64 (manyL l)] 69)], C, [(b3, cel [.int .i64 x.at_, .int .i64 x.many] 31)]] ∧ Fr a 113 [(0, ptr p), (3, .pointer (some ⟨b3, 0, none⟩)), (5, .int .i64 k), (6, .int .i64 k), (7, .int .i64 x.many), (39, .bool bt)]) ?_ ?_
      · skip
        refine region_mix0 S (.ofL [(0, 0), (1, 0), (2, 0), (3, 0), (4, 0), (5, 0), (6, 0), (7, 0), (8, 0), (9, 0), (10, 0), (12, 0), (13, 0), (11, 1), (14, 0), (15, 0)]) (by kernel_rfl) (by kernel_rfl) ?_
        clear S; intro w S
        refine mix_pure E rfl rfl rfl (by decide) (fun w h => rn_move E rfl rfl) ?_; clear E a; intro a E
        refine mix_pure E rfl rfl rfl (by decide) (fun w h => rn_gtr E rfl rfl rfl) ?_; clear E a; intro a E
        refine mix_pure E rfl rfl rfl (by decide) (fun w h => rn_move E rfl rfl) ?_; clear E a; intro a E
        refine guard_split E (t := 26) rfl (fun hb26 => ?_) (fun hb26 => ?_)
        · have hb26n := hb26; replace hb26n := Nrm.nrm hb26n
          obtain ⟨b, off, rfl⟩ := hB.rd.addr (by omega); have hk1 : k - 1 < l.length := (by omega); have hat := hG.at hk1
          refine mix_guard_yes E rfl rfl rfl rfl rfl hb26 rfl (by decide) (fun w h => rn_move E rfl rfl) ?_; clear E a; intro a E
          refine mix_guard_yes E rfl rfl rfl rfl rfl hb26 rfl (by decide) (fun w h => rn_nilCheck E rfl rfl) ?_; clear E a; intro a E
          refine mix_guard_yes E rfl rfl rfl rfl rfl hb26 rfl (by decide) (fun w h => by first | exact rn_fieldAddr0 (q := 0) E rfl rfl rfl | exact rn_fieldAddr (q := 0) E rfl rfl rfl) ?_; clear E a; intro a E
          refine mix_guard_yes E rfl rfl rfl rfl rfl hb26 rfl (by decide) (fun w h => by first | exact rn_load E rfl rfl rfl (h.one (by repeat (first | exact mm1 | assumption | apply List.Mem.tail))) rfl | exact rn_loadc E rfl rfl rfl (by assumption)) ?_; clear E a; intro a E
          refine mix_guard_yes E rfl rfl rfl rfl rfl hb26 rfl (by decide) (fun w h => rn_move E rfl rfl) ?_; clear E a; intro a E
          refine mix_guard_yes E rfl rfl rfl rfl rfl hb26 rfl (by decide) (fun w h => rn_sub E rfl rfl rfl (by first | exact ws_lit (y := 1) (by omega) (by omega) | exact w_in (by omega) | exact w_inu (by omega) | exact rfl)) ?_; clear E a; intro a E
          refine mix_guard_yes E rfl rfl rfl rfl rfl hb26 rfl (by decide) (fun w h => by first | exact rn_indexAddr1 E rfl rfl rfl rfl rfl rfl (by omega) | exact rn_indexAddr E rfl rfl rfl rfl rfl rfl (by omega) | exact rn_indexAddr_array E rfl rfl rfl rfl rfl rfl (by omega)) ?_; clear E a; intro a E
          refine mix_guard_yes E rfl rfl rfl rfl rfl hb26 rfl (by decide) (fun w h => rn_load_aggc (vs := [_, _]) E rfl rfl rfl rfl (hB.rd.elem (lay := Sp.lay) Sp.lay_len (h.at (by repeat (first | exact mm1 | assumption | apply List.Mem.tail))) hk1)) ?_; clear E a; intro a E
          refine mix_guard_yes E rfl rfl rfl rfl rfl hb26 rfl (by decide) (fun w h => by first | exact rn_fieldAddr0 (q := 0) E rfl rfl rfl | exact rn_fieldAddr (q := 0) E rfl rfl rfl) ?_; clear E a; intro a E
          refine mix_guard_yes E rfl rfl rfl rfl rfl hb26 rfl (by decide) (fun w h => by first | exact rn_load E rfl rfl rfl (h.one (by repeat (first | exact mm1 | assumption | apply List.Mem.tail))) rfl | exact rn_loadc E rfl rfl rfl (by assumption)) ?_; clear E a; intro a E
          refine mix_guard_act E rfl rfl rfl rfl rfl hb26 ?_; refine wp_call' E rfl (by decide) rfl Try.func37 rfl (by kernel_rfl) rfl (end_ret (l[k - 1]'hk1) (by omega) _) ?_
          rintro v35 w ⟨rfl, hT⟩; clear E a; intro a E
          have S := S.quiet hT
          refine ⟨S.stab.sub (by first | (simp; done) | (simp +contextual; done) | (simp [*]; done)), ?_⟩
          refine mix_guard_yes E rfl rfl rfl rfl rfl hb26 rfl (by decide) (fun w h => by first | exact rn_eql E rfl rfl rfl | exact rn_eql_ptr_nil E rfl rfl rfl rfl | exact rn_eql_bool E rfl rfl rfl rfl | exact rn_eql_string E rfl rfl rfl) ?_; clear E a; intro a E
          refine mix_pure E rfl rfl rfl (by decide) (fun w h => rn_pick_yes' E rfl rfl hb26 rfl) ?_; clear E a; intro a E
          refine mix_nil ?_
          refine joined_here ?_
          exact ⟨_, by simp [show 0 < k by omega], S, E.keep (keep_cons rfl (keep_cons rfl (keep_cons rfl (keep_cons rfl (keep_cons rfl (keep_cons rfl keep_nil))))))⟩
        · have hb26n := hb26; replace hb26n := Nrm.nrm hb26n
          refine mix_guard_no E rfl rfl rfl rfl rfl hb26 rfl (by decide) ?_; clear E a; intro a E
          refine mix_guard_no E rfl rfl rfl rfl rfl hb26 rfl (by decide) ?_; clear E a; intro a E
          refine mix_guard_no E rfl rfl rfl rfl rfl hb26 rfl (by decide) ?_; clear E a; intro a E
          refine mix_guard_no E rfl rfl rfl rfl rfl hb26 rfl (by decide) ?_; clear E a; intro a E
          refine mix_guard_no E rfl rfl rfl rfl rfl hb26 rfl (by decide) ?_; clear E a; intro a E
          refine mix_guard_no E rfl rfl rfl rfl rfl hb26 rfl (by decide) ?_; clear E a; intro a E
          refine mix_guard_no E rfl rfl rfl rfl rfl hb26 rfl (by decide) ?_; clear E a; intro a E
          refine mix_guard_no E rfl rfl rfl rfl rfl hb26 rfl (by decide) ?_; clear E a; intro a E
          refine mix_guard_no E rfl rfl rfl rfl rfl hb26 rfl (by decide) ?_; clear E a; intro a E
          refine mix_guard_no E rfl rfl rfl rfl rfl hb26 rfl (by decide) ?_; clear E a; intro a E
          refine mix_guard_no_act E rfl rfl rfl rfl rfl hb26 rfl (by decide) (S.stab.sub (by first | (simp; done) | (simp +contextual; done) | (simp [*]; done))) ?_; clear E a; intro a E
          refine mix_guard_no E rfl rfl rfl rfl rfl hb26 rfl (by decide) ?_; clear E a; intro a E
          refine mix_pure E rfl rfl rfl (by decide) (fun w h => rn_pick_no' E rfl rfl hb26 rfl) ?_; clear E a; intro a E
          refine mix_nil ?_
          refine joined_here ?_
          exact ⟨false, by simp; omega, S, E.keep (keep_cons rfl (keep_cons rfl (keep_cons rfl (keep_cons rfl (keep_cons rfl (keep_cons rfl keep_nil))))))⟩
      · clear E S a; intro a w J; obtain ⟨bt, hbt, S, E⟩ := J
        refine then_k hK ?_; clear hK; clear K
        refine if_bool E rfl (fun hb => ?_) (fun hb => ?_)
        · replace hb := Nrm.nrm hb
          obtain ⟨h0, hfin⟩ := hbt.1 hb
          refine wp_seq_k ?_; intro K hK
          refine region_list ?_
          refine list_pure E rfl rfl (by decide) (rn_move E rfl rfl) ?_; clear E a; intro a E
          refine list_pure E rfl rfl (by decide) (rn_sub E rfl rfl rfl (by first | exact ws_lit (y := 1) (by omega) (by omega) | exact w_in (by omega) | exact w_inu (by omega) | exact rfl)) ?_; clear E a; intro a E
          refine list_pure E rfl rfl (by decide) (rn_assign E rfl rfl) ?_; clear E a; intro a E
          refine wpList_nil ?_
          refine then_k hK ?_; clear hK; clear K
          have hk1 : k - 1 < l.length := by omega
          obtain ⟨b, off, rfl⟩ := hB.rd.addr (by omega)
          have hat := hG.at hk1
          refine region_mix0 S (.ofL [(0, 0), (1, 0), (2, 0), (3, 0), (4, 0), (5, 0), (6, 0), (7, 0), (8, 0), (9, 0), (10, 0), (11, 0), (12, 0), (13, 0), (14, 0), (15, 0), (16, 0), (17, 0), (18, 0), (19, 0), (20, 3)]) (by kernel_rfl) (by kernel_rfl) ?_
          clear S; intro w S
          refine mix_pure E rfl rfl rfl (by decide) (fun w h => rn_move E rfl rfl) ?_; clear E a; intro a E
          refine mix_pure E rfl rfl rfl (by decide) (fun w h => rn_nilCheck E rfl rfl) ?_; clear E a; intro a E
          refine mix_pure E rfl rfl rfl (by decide) (fun w h => by first | exact rn_fieldAddr0 (q := 0) E rfl rfl rfl | exact rn_fieldAddr (q := 0) E rfl rfl rfl) ?_; clear E a; intro a E
          refine mix_pure E rfl rfl rfl (by decide) (fun w h => by first | exact rn_load E rfl rfl rfl (h.one (by repeat (first | exact mm1 | assumption | apply List.Mem.tail))) rfl | exact rn_loadc E rfl rfl rfl (by assumption)) ?_; clear E a; intro a E
          refine mix_pure E rfl rfl rfl (by decide) (fun w h => rn_move E rfl rfl) ?_; clear E a; intro a E
          refine mix_pure E rfl rfl rfl (by decide) (fun w h => by first | exact rn_indexAddr1 E rfl rfl rfl rfl rfl rfl (by omega) | exact rn_indexAddr E rfl rfl rfl rfl rfl rfl (by omega) | exact rn_indexAddr_array E rfl rfl rfl rfl rfl rfl (by omega)) ?_; clear E a; intro a E
          refine mix_pure E rfl rfl rfl (by decide) (fun w h => by first | exact rn_fieldAddr0 (q := 0) E rfl rfl rfl | exact rn_fieldAddr (q := 0) E rfl rfl rfl) ?_; clear E a; intro a E
          refine mix_pure E rfl rfl rfl (by decide) (fun w h => rn_loadc E rfl rfl rfl (hB.rd.elem (lay := Sp.lay) Sp.lay_len (h.at (by repeat (first | exact mm1 | assumption | apply List.Mem.tail))) hk1 0 _ rfl)) ?_; clear E a; intro a E
          refine mix_pure E rfl rfl rfl (by decide) (fun w h => rn_move E rfl rfl) ?_; clear E a; intro a E
          refine mix_pure E rfl rfl rfl (by decide) (fun w h => rn_nilCheck E rfl rfl) ?_; clear E a; intro a E
          refine mix_pure E rfl rfl rfl (by decide) (fun w h => by first | exact rn_fieldAddr0 (q := 0) E rfl rfl rfl | exact rn_fieldAddr (q := 0) E rfl rfl rfl) ?_; clear E a; intro a E
          refine mix_pure E rfl rfl rfl (by decide) (fun w h => by first | exact rn_load E rfl rfl rfl (h.one (by repeat (first | exact mm1 | assumption | apply List.Mem.tail))) rfl | exact rn_loadc E rfl rfl rfl (by assumption)) ?_; clear E a; intro a E
          refine mix_pure E rfl rfl rfl (by decide) (fun w h => rn_move E rfl rfl) ?_; clear E a; intro a E
          refine mix_pure E rfl rfl rfl (by decide) (fun w h => by first | exact rn_indexAddr1 E rfl rfl rfl rfl rfl rfl (by omega) | exact rn_indexAddr E rfl rfl rfl rfl rfl rfl (by omega) | exact rn_indexAddr_array E rfl rfl rfl rfl rfl rfl (by omega)) ?_; clear E a; intro a E
          refine mix_pure E rfl rfl rfl (by decide) (fun w h => by first | exact rn_fieldAddr0 (q := 1) E rfl rfl rfl | exact rn_fieldAddr (q := 1) E rfl rfl rfl) ?_; clear E a; intro a E
          refine mix_pure E rfl rfl rfl (by decide) (fun w h => rn_loadc E rfl rfl rfl (hB.rd.elem (lay := Sp.lay) Sp.lay_len (h.at (by repeat (first | exact mm1 | assumption | apply List.Mem.tail))) hk1 1 _ rfl)) ?_; clear E a; intro a E
          refine mix_pure E rfl rfl rfl (by decide) (fun w h => by first | exact rn_fieldAddr0 (q := 1) E rfl rfl rfl | exact rn_fieldAddr (q := 1) E rfl rfl rfl) ?_; clear E a; intro a E
          refine mix_pure E rfl rfl rfl (by decide) (fun w h => by first | exact rn_load E rfl rfl rfl (h.one (by repeat (first | exact mm1 | assumption | apply List.Mem.tail))) rfl | exact rn_loadc E rfl rfl rfl (by assumption)) ?_; clear E a; intro a E
          refine mix_pure E rfl rfl rfl (by decide) (fun w h => rn_add E rfl rfl rfl (by first | exact wa1 (by omega) | exact w_in (by omega) | exact w_inu (by omega) | exact rfl)) ?_; clear E a; intro a E
          refine mix_pure E rfl rfl rfl (by decide) (fun w h => rn_build (cells := [_, _]) E rfl rfl rfl) ?_; clear E a; intro a E
          refine mix_last rfl rfl (wp_storeN E S rfl rfl rfl rfl (by simp [Value.oneCell']) rfl (by repeat (first | exact pk1 | apply pick_tail)) (by simp) ?_); clear E S a; intro a w E S; simp only [List.take_succ_cons, List.take_zero, List.drop_succ_cons, List.drop_zero, List.cons_append, List.nil_append, List.append_nil, List.length_cons, List.length_nil, Nat.zero_add, Nat.add_zero] at S
          refine mix_nil ?_
          refine then_k hK ?_; clear hK; clear K
          refine wp_seq_k ?_; intro K hK
          refine wp_seq_k ?_; intro K hK
          replace E := E.keep (e' := [(0, _), (3, _), (5, _), (6, _), (7, _)]) (keep_cons rfl (keep_cons rfl (keep_cons rfl (keep_cons rfl (keep_cons rfl (keep_nil))))))
          have hx1 := x1_may hG.gd hm hkl h0 hfin
          have hx1' := Sp.may_iff.1 hx1
          refine wp_join (fun (a : Act) (w' : World) => ∃ bt : Bool, (bt = true ↔ ∃ h : k < l.length, l[k].at_ = (⟨(l[k - 1]'(by omega)).at_, (l[k - 1]'(by omega)).many + x.many⟩ : Sp).fin) ∧ St w0 [A] w' [[(p, cel [.slice (some ⟨b, off, none⟩) l.length c, .int .i64 (manyL l)] 69)], C, [(b3, cel [.int .i64 ((l[k - 1]'(by omega)).at_), .int .i64 ((l[k - 1]'(by omega)).many + x.many)] 31)]] ∧ Fr a 113 [(0, ptr p), (3, .pointer (some ⟨b3, 0, none⟩)), (5, .int .i64 (k - 1 : Nat)), (6, .int .i64 k), (7, .int .i64 x.many), (81, .bool bt)]) ?_ ?_
          · skip
            refine region_mix0 S (.ofL [(0, 0), (1, 0), (2, 0), (3, 0), (4, 0), (5, 0), (6, 0), (7, 0), (8, 0), (9, 0), (10, 0), (11, 0), (12, 0), (13, 0), (14, 0), (15, 0), (16, 0), (17, 1), (18, 0), (19, 0)]) (by kernel_rfl) (by kernel_rfl) ?_
            clear S; intro w S
            refine mix_pure E rfl rfl rfl (by decide) (fun w h => rn_move E rfl rfl) ?_; clear E a; intro a E
            refine mix_pure E rfl rfl rfl (by decide) (fun w h => rn_move E rfl rfl) ?_; clear E a; intro a E
            refine mix_pure E rfl rfl rfl (by decide) (fun w h => rn_nilCheck E rfl rfl) ?_; clear E a; intro a E
            refine mix_pure E rfl rfl rfl (by decide) (fun w h => by first | exact rn_fieldAddr0 (q := 0) E rfl rfl rfl | exact rn_fieldAddr (q := 0) E rfl rfl rfl) ?_; clear E a; intro a E
            refine mix_pure E rfl rfl rfl (by decide) (fun w h => by first | exact rn_load E rfl rfl rfl (h.one (by repeat (first | exact mm1 | assumption | apply List.Mem.tail))) rfl | exact rn_loadc E rfl rfl rfl (by assumption)) ?_; clear E a; intro a E
            refine mix_pure E rfl rfl rfl (by decide) (fun w h => by first | exact rn_len E rfl rfl rfl | exact rn_len_str E rfl rfl rfl | exact rn_len_string E rfl rfl rfl) ?_; clear E a; intro a E
            refine mix_pure E rfl rfl rfl (by decide) (fun w h => rn_lss E rfl rfl rfl) ?_; clear E a; intro a E
            refine mix_pure E rfl rfl rfl (by decide) (fun w h => rn_move E rfl rfl) ?_; clear E a; intro a E
            refine guard_split E (t := 69) rfl (fun hb69 => ?_) (fun hb69 => ?_)
            · have hb69n := hb69; replace hb69n := Nrm.nrm hb69n
              have hkk : k < l.length := (by omega); have hat2 := hG.at hkk
              refine mix_guard_yes E rfl rfl rfl rfl rfl hb69 rfl (by decide) (fun w h => rn_move E rfl rfl) ?_; clear E a; intro a E
              refine mix_guard_yes E rfl rfl rfl rfl rfl hb69 rfl (by decide) (fun w h => rn_nilCheck E rfl rfl) ?_; clear E a; intro a E
              refine mix_guard_yes E rfl rfl rfl rfl rfl hb69 rfl (by decide) (fun w h => by first | exact rn_fieldAddr0 (q := 0) E rfl rfl rfl | exact rn_fieldAddr (q := 0) E rfl rfl rfl) ?_; clear E a; intro a E
              refine mix_guard_yes E rfl rfl rfl rfl rfl hb69 rfl (by decide) (fun w h => by first | exact rn_load E rfl rfl rfl (h.one (by repeat (first | exact mm1 | assumption | apply List.Mem.tail))) rfl | exact rn_loadc E rfl rfl rfl (by assumption)) ?_; clear E a; intro a E
              refine mix_guard_yes E rfl rfl rfl rfl rfl hb69 rfl (by decide) (fun w h => rn_move E rfl rfl) ?_; clear E a; intro a E
              refine mix_guard_yes E rfl rfl rfl rfl rfl hb69 rfl (by decide) (fun w h => by first | exact rn_indexAddr1 E rfl rfl rfl rfl rfl rfl (by omega) | exact rn_indexAddr E rfl rfl rfl rfl rfl rfl (by omega) | exact rn_indexAddr_array E rfl rfl rfl rfl rfl rfl (by omega)) ?_; clear E a; intro a E
              refine mix_guard_yes E rfl rfl rfl rfl rfl hb69 rfl (by decide) (fun w h => by first | exact rn_fieldAddr0 (q := 0) E rfl rfl rfl | exact rn_fieldAddr (q := 0) E rfl rfl rfl) ?_; clear E a; intro a E
              refine mix_guard_yes E rfl rfl rfl rfl rfl hb69 rfl (by decide) (fun w h => rn_loadc E rfl rfl rfl (hB.rd.elem (lay := Sp.lay) Sp.lay_len (h.at (by repeat (first | exact mm1 | assumption | apply List.Mem.tail))) hkk 0 _ rfl)) ?_; clear E a; intro a E
              refine mix_guard_yes E rfl rfl rfl rfl rfl hb69 rfl (by decide) (fun w h => rn_load_blk (vs := [_, _]) E rfl rfl rfl (h.one (by repeat (first | exact mm1 | assumption | apply List.Mem.tail))) rfl rfl) ?_; clear E a; intro a E
              refine mix_guard_act E rfl rfl rfl rfl rfl hb69 ?_; refine wp_call' E rfl (by decide) rfl Try.func37 rfl (by kernel_rfl) rfl (end_ret ⟨(l[k - 1]'(by omega)).at_, (l[k - 1]'(by omega)).many + x.many⟩ ⟨by simp only; omega, by simp only; omega⟩ _) ?_
              rintro v79 w ⟨rfl, hT⟩; clear E a; intro a E
              have S := S.quiet hT
              refine ⟨S.stab.sub (by first | (simp; done) | (simp +contextual; done) | (simp [*]; done)), ?_⟩
              refine mix_guard_yes E rfl rfl rfl rfl rfl hb69 rfl (by decide) (fun w h => by first | exact rn_eql E rfl rfl rfl | exact rn_eql_ptr_nil E rfl rfl rfl rfl | exact rn_eql_bool E rfl rfl rfl rfl | exact rn_eql_string E rfl rfl rfl) ?_; clear E a; intro a E
              refine mix_pure E rfl rfl rfl (by decide) (fun w h => rn_pick_yes' E rfl rfl hb69 rfl) ?_; clear E a; intro a E
              refine mix_nil ?_
              refine joined_here ?_
              exact ⟨_, by simp [show k < l.length by omega], S.rot3, E.keep (keep_cons rfl (keep_cons rfl (keep_cons rfl (keep_cons rfl (keep_cons rfl (keep_cons rfl keep_nil))))))⟩
            · have hb69n := hb69; replace hb69n := Nrm.nrm hb69n
              refine mix_guard_no E rfl rfl rfl rfl rfl hb69 rfl (by decide) ?_; clear E a; intro a E
              refine mix_guard_no E rfl rfl rfl rfl rfl hb69 rfl (by decide) ?_; clear E a; intro a E
              refine mix_guard_no E rfl rfl rfl rfl rfl hb69 rfl (by decide) ?_; clear E a; intro a E
              refine mix_guard_no E rfl rfl rfl rfl rfl hb69 rfl (by decide) ?_; clear E a; intro a E
              refine mix_guard_no E rfl rfl rfl rfl rfl hb69 rfl (by decide) ?_; clear E a; intro a E
              refine mix_guard_no E rfl rfl rfl rfl rfl hb69 rfl (by decide) ?_; clear E a; intro a E
              refine mix_guard_no E rfl rfl rfl rfl rfl hb69 rfl (by decide) ?_; clear E a; intro a E
              refine mix_guard_no E rfl rfl rfl rfl rfl hb69 rfl (by decide) ?_; clear E a; intro a E
              refine mix_guard_no E rfl rfl rfl rfl rfl hb69 rfl (by decide) ?_; clear E a; intro a E
              refine mix_guard_no_act E rfl rfl rfl rfl rfl hb69 rfl (by decide) (S.stab.sub (by first | (simp; done) | (simp +contextual; done) | (simp [*]; done))) ?_; clear E a; intro a E
              refine mix_guard_no E rfl rfl rfl rfl rfl hb69 rfl (by decide) ?_; clear E a; intro a E
              refine mix_pure E rfl rfl rfl (by decide) (fun w h => rn_pick_no' E rfl rfl hb69 rfl) ?_; clear E a; intro a E
              refine mix_nil ?_
              refine joined_here ?_
              exact ⟨false, by simp; intro q; exfalso; omega, S.rot3, E.keep (keep_cons rfl (keep_cons rfl (keep_cons rfl (keep_cons rfl (keep_cons rfl (keep_cons rfl keep_nil))))))⟩
          · clear E S a; intro a w J; obtain ⟨bt2, hbt2, S, E⟩ := J
            refine then_k hK ?_; clear hK; clear K
            refine if_bool E rfl (fun hb => ?_) (fun hb => ?_)
            · replace hb := Nrm.nrm hb
              obtain ⟨hkk, hf2⟩ := hbt2.1 hb
              refine wp_seq_k ?_; intro K hK
              have hat2 := hG.at hkk
              refine region_mix0 S (.ofL [(0, 0), (1, 0), (2, 0), (3, 0), (4, 0), (5, 0), (6, 0), (7, 0), (8, 0), (9, 0), (10, 0), (11, 0), (12, 3)]) (by kernel_rfl) (by kernel_rfl) ?_
              clear S; intro w S
              refine mix_pure E rfl rfl rfl (by decide) (fun w h => by first | exact rn_fieldAddr0 (q := 1) E rfl rfl rfl | exact rn_fieldAddr (q := 1) E rfl rfl rfl) ?_; clear E a; intro a E
              refine mix_pure E rfl rfl rfl (by decide) (fun w h => by first | exact rn_load E rfl rfl rfl (h.one (by repeat (first | exact mm1 | assumption | apply List.Mem.tail))) rfl | exact rn_loadc E rfl rfl rfl (by assumption)) ?_; clear E a; intro a E
              refine mix_pure E rfl rfl rfl (by decide) (fun w h => rn_move E rfl rfl) ?_; clear E a; intro a E
              refine mix_pure E rfl rfl rfl (by decide) (fun w h => rn_nilCheck E rfl rfl) ?_; clear E a; intro a E
              refine mix_pure E rfl rfl rfl (by decide) (fun w h => by first | exact rn_fieldAddr0 (q := 0) E rfl rfl rfl | exact rn_fieldAddr (q := 0) E rfl rfl rfl) ?_; clear E a; intro a E
              refine mix_pure E rfl rfl rfl (by decide) (fun w h => by first | exact rn_load E rfl rfl rfl (h.one (by repeat (first | exact mm1 | assumption | apply List.Mem.tail))) rfl | exact rn_loadc E rfl rfl rfl (by assumption)) ?_; clear E a; intro a E
              refine mix_pure E rfl rfl rfl (by decide) (fun w h => rn_move E rfl rfl) ?_; clear E a; intro a E
              refine mix_pure E rfl rfl rfl (by decide) (fun w h => by first | exact rn_indexAddr1 E rfl rfl rfl rfl rfl rfl (by omega) | exact rn_indexAddr E rfl rfl rfl rfl rfl rfl (by omega) | exact rn_indexAddr_array E rfl rfl rfl rfl rfl rfl (by omega)) ?_; clear E a; intro a E
              refine mix_pure E rfl rfl rfl (by decide) (fun w h => by first | exact rn_fieldAddr0 (q := 1) E rfl rfl rfl | exact rn_fieldAddr (q := 1) E rfl rfl rfl) ?_; clear E a; intro a E
              refine mix_pure E rfl rfl rfl (by decide) (fun w h => rn_loadc E rfl rfl rfl (hB.rd.elem (lay := Sp.lay) Sp.lay_len (h.at (by repeat (first | exact mm1 | assumption | apply List.Mem.tail))) hkk 1 _ rfl)) ?_; clear E a; intro a E
              refine mix_pure E rfl rfl rfl (by decide) (fun w h => rn_add E rfl rfl rfl (by first | exact wa1 (by omega) | exact w_in (by omega) | exact w_inu (by omega) | exact rfl)) ?_; clear E a; intro a E
              refine mix_pure E rfl rfl rfl (by decide) (fun w h => by first | exact rn_fieldAddr0 (q := 1) E rfl rfl rfl | exact rn_fieldAddr (q := 1) E rfl rfl rfl) ?_; clear E a; intro a E
              refine mix_last rfl rfl (wp_store1 E S rfl rfl rfl rfl rfl rfl (by repeat (first | exact pk1 | apply pick_tail)) (by first | exact Nat.le_of_ble_eq_true rfl | (simp; done) | (simp; omega)) ?_); clear E S a; intro a w E S; try dsimp only [List.set] at S
              refine mix_nil ?_
              refine then_k hK ?_; clear hK; clear K
              refine region_list ?_
              refine list_pure E rfl rfl (by decide) (rn_move E rfl rfl) ?_; clear E a; intro a E
              refine list_pure E rfl rfl (by decide) (rn_add E rfl rfl rfl (by first | exact wa_lit (y := 1) (by omega) | exact w_in (by omega) | exact w_inu (by omega) | exact rfl)) ?_; clear E a; intro a E
              refine list_pure E rfl rfl (by decide) (rn_assign E rfl rfl) ?_; clear E a; intro a E
              refine wpList_nil ?_
              refine then_k hK ?_; clear hK; clear K
              refine wp_seq_k ?_; intro K hK
              refine wp_seq_k ?_; intro K hK
              have S := S.closeP (by repeat (first | exact pk1 | apply pick_tail)) (by repeat (first | exact pk1 | apply pick_tail)) hAe
              have hw := wLR hG.gd hm hkk h0 hfin hf2
              refine region_list ?_
              refine list_pure E rfl rfl (by decide) (rn_move E rfl rfl) ?_; clear E a; intro a E
              refine list_pure E rfl rfl (by decide) (rn_move E rfl rfl) ?_; clear E a; intro a E
              refine list_pure E rfl rfl (by decide) (rn_move E rfl rfl) ?_; clear E a; intro a E
              refine list_pure E rfl rfl (by decide) (rn_load_blk (vs := [_, _]) E rfl rfl rfl (S.get (by repeat (first | exact pk1 | apply pick_tail))) rfl rfl) ?_; clear E a; intro a E
              refine list_wp rfl (wp_bslice (cells := [_, _]) E S rfl rfl (by decide) rfl rfl rfl rfl rfl (by decide) rfl ?_); clear E S a; intro a w b100 E S
              refine list_call E rfl rfl (by decide) rfl Try.func38 rfl (by kernel_rfl) rfl (rgput_ret p l _ A (k - 1) (k + 1) [⟨(l[k - 1]'(by omega)).at_, (l[k - 1]'(by omega)).many + x.many + (l[k]'hkk).many⟩] _ _ _ hA0 hlen (by omega) (by omega) (by simp) _ hw.symm (rd_cells rfl (by simp [Sp.lay, Value.oneCell']) (by simp) 1) (S.hp.sel (sel_cons (by repeat (first | exact pk1 | apply pick_tail)) (sel_cons (by repeat (first | exact pk1 | apply pick_tail)) (sel_nil _))))) ?_
              rintro v101 w hput; clear E a; intro a E
              obtain ⟨he0, he1⟩ := add_end hG hm hn
              rcases hput with ⟨h4, rfl, hT⟩ | ⟨h4, rfl, A', hA', hT⟩
              · skip
                have S := S.call2 (sel_cons (by repeat (first | exact pk1 | apply pick_tail)) (sel_cons (by repeat (first | exact pk1 | apply pick_tail)) (sel_nil _))) hT; obtain ⟨he2, he3⟩ := he0 h4
                refine list_pure E rfl rfl (by decide) (rn_assign E rfl rfl) ?_; clear E a; intro a E
                refine wpList_nil ?_
                refine then_k hK ?_; clear hK; clear K
                refine wp_seq_k ?_; intro K hK
                replace E := E.keep (e' := [(0, _), (7, _), (8, _)]) (keep_cons rfl (keep_cons rfl (keep_cons rfl (keep_nil))))
                refine region_list ?_
                refine list_pure E rfl rfl (by decide) (rn_move E rfl rfl) ?_; clear E a; intro a E
                refine list_pure E rfl rfl (by decide) (by first | exact rn_neq E rfl rfl rfl | exact rn_neq_ptr_nil E rfl rfl rfl rfl | exact rn_neq_bool E rfl rfl rfl rfl | exact rn_neq_string E rfl rfl rfl) ?_; clear E a; intro a E
                refine wpList_nil ?_
                refine then_k hK ?_; clear hK; clear K
                refine if_true' E rfl (rfl) ?_
                refine wp_seq_k ?_; intro K hK
                refine region_list ?_
                refine list_pure E rfl rfl (by decide) (rn_move E rfl rfl) ?_; clear E a; intro a E
                refine list_pure E rfl rfl (by decide) (rn_assign E rfl rfl) ?_; clear E a; intro a E
                refine wpList_nil ?_
                refine then_k hK ?_; clear hK; clear K
                refine wp_ret ?_
                refine then_ret ?_; clear hK; clear K
                refine ret1 E rfl rfl ?_
                exact ⟨_, rfl, by rw [he2], A, by rw [he3]; exact hA0, (S.only (Bs := [A]) (sel_cons (by repeat (first | exact pk1 | apply pick_tail)) (sel_nil _))).tr⟩
              · skip
                have S := S.call2 (sel_cons (by repeat (first | exact pk1 | apply pick_tail)) (sel_cons (by repeat (first | exact pk1 | apply pick_tail)) (sel_nil _))) hT; obtain ⟨he2, he3⟩ := he1 h4
                refine list_pure E rfl rfl (by decide) (rn_assign E rfl rfl) ?_; clear E a; intro a E
                refine wpList_nil ?_
                refine then_k hK ?_; clear hK; clear K
                refine wp_seq_k ?_; intro K hK
                replace E := E.keep (e' := [(0, _), (7, _), (8, _)]) (keep_cons rfl (keep_cons rfl (keep_cons rfl (keep_nil))))
                refine region_list ?_
                refine list_pure E rfl rfl (by decide) (rn_move E rfl rfl) ?_; clear E a; intro a E
                refine list_pure E rfl rfl (by decide) (by first | exact rn_neq E rfl rfl rfl | exact rn_neq_ptr_nil E rfl rfl rfl rfl | exact rn_neq_bool E rfl rfl rfl rfl | exact rn_neq_string E rfl rfl rfl) ?_; clear E a; intro a E
                refine wpList_nil ?_
                refine then_k hK ?_; clear hK; clear K
                refine if_false' E rfl (rfl) ?_
                refine wp_skip ?_
                refine then_k hK ?_; clear hK; clear K
                refine wp_seq_k ?_; intro K hK
                obtain ⟨ad5, c5, C5, hAe5, hB5⟩ := hA'.open
                have S := S.openP (by repeat (first | exact pk1 | apply pick_tail)) hAe5
                refine region_list ?_
                refine list_pure E rfl rfl (by decide) (rn_move E rfl rfl) ?_; clear E a; intro a E
                refine list_pure E rfl rfl (by decide) (rn_nilCheck E rfl rfl) ?_; clear E a; intro a E
                refine list_pure E rfl rfl (by decide) (by first | exact rn_fieldAddr0 (q := 1) E rfl rfl rfl | exact rn_fieldAddr (q := 1) E rfl rfl rfl) ?_; clear E a; intro a E
                refine list_pure E rfl rfl (by decide) (by first | exact rn_load E rfl rfl rfl (S.get (by repeat (first | exact pk1 | apply pick_tail))) rfl | exact rn_loadc E rfl rfl rfl (by assumption)) ?_; clear E a; intro a E
                refine list_pure E rfl rfl (by decide) (rn_move E rfl rfl) ?_; clear E a; intro a E
                refine list_pure E rfl rfl (by decide) (rn_add E rfl rfl rfl (by first | exact wa1 (by omega) | exact w_in (by omega) | exact w_inu (by omega) | exact rfl)) ?_; clear E a; intro a E
                refine list_pure E rfl rfl (by decide) (rn_nilCheck E rfl rfl) ?_; clear E a; intro a E
                refine list_pure E rfl rfl (by decide) (by first | exact rn_fieldAddr0 (q := 1) E rfl rfl rfl | exact rn_fieldAddr (q := 1) E rfl rfl rfl) ?_; clear E a; intro a E
                refine list_wp rfl (wp_store1 E S rfl rfl rfl rfl rfl rfl (by repeat (first | exact pk1 | apply pick_tail)) (by first | exact Nat.le_of_ble_eq_true rfl | (simp; done) | (simp; omega)) ?_); clear E S a; intro a w E S; try dsimp only [List.set] at S
                refine wpList_nil ?_
                refine then_k hK ?_; clear hK; clear K
                refine wp_seq_k ?_; intro K hK
                refine region_list ?_
                refine list_pure E rfl rfl (by decide) (rn_assign E rfl rfl) ?_; clear E a; intro a E
                refine wpList_nil ?_
                refine then_k hK ?_; clear hK; clear K
                refine wp_ret ?_
                refine ret1 E rfl rfl ?_
                have hS : SetC p (addS l x) (manyL (addS l x)) ([(p, cel [.slice ad5 (withL l x false).length c5, .int .i64 (manyL l + x.many)] 69)] ++ C5) := by
                  rw [addS_many hG.gd he2, he3]; exact ⟨_, _, rfl, hB5⟩
                exact ⟨_, rfl, by rw [he2], _, hS, (S.closeP (by repeat (first | exact pk1 | apply pick_tail)) (by repeat (first | exact pk1 | apply pick_tail)) rfl).back⟩
            · replace hb := Nrm.nrm hb
              have hf2 : ¬ ∃ h : k < l.length, l[k].at_ = (⟨(l[k - 1]'(by omega)).at_, (l[k - 1]'(by omega)).many + x.many⟩ : Sp).fin := (fun q => by rw [hbt2.2 q] at hb; cases hb)
              refine wp_skip ?_
              refine then_k hK ?_; clear hK; clear K
              refine wp_seq_k ?_; intro K hK
              refine wp_seq_k ?_; intro K hK
              have S := S.closeP (by repeat (first | exact pk1 | apply pick_tail)) (by repeat (first | exact pk1 | apply pick_tail)) hAe
              have hw := wL hG.gd hm hkl h0 hfin hnk hf2
              refine region_list ?_
              refine list_pure E rfl rfl (by decide) (rn_move E rfl rfl) ?_; clear E a; intro a E
              refine list_pure E rfl rfl (by decide) (rn_move E rfl rfl) ?_; clear E a; intro a E
              refine list_pure E rfl rfl (by decide) (rn_move E rfl rfl) ?_; clear E a; intro a E
              refine list_pure E rfl rfl (by decide) (rn_load_blk (vs := [_, _]) E rfl rfl rfl (S.get (by repeat (first | exact pk1 | apply pick_tail))) rfl rfl) ?_; clear E a; intro a E
              refine list_wp rfl (wp_bslice (cells := [_, _]) E S rfl rfl (by decide) rfl rfl rfl rfl rfl (by decide) rfl ?_); clear E S a; intro a w b100 E S
              refine list_call E rfl rfl (by decide) rfl Try.func38 rfl (by kernel_rfl) rfl (rgput_ret p l _ A (k - 1) (k) [⟨(l[k - 1]'(by omega)).at_, (l[k - 1]'(by omega)).many + x.many⟩] _ _ _ hA0 hlen (by omega) (by omega) (by simp) _ hw.symm (rd_cells rfl (by simp [Sp.lay, Value.oneCell']) (by simp) 1) (S.hp.sel (sel_cons (by repeat (first | exact pk1 | apply pick_tail)) (sel_cons (by repeat (first | exact pk1 | apply pick_tail)) (sel_nil _))))) ?_
              rintro v101 w hput; clear E a; intro a E
              obtain ⟨he0, he1⟩ := add_end hG hm hn
              rcases hput with ⟨h4, rfl, hT⟩ | ⟨h4, rfl, A', hA', hT⟩
              · skip
                have S := S.call2 (sel_cons (by repeat (first | exact pk1 | apply pick_tail)) (sel_cons (by repeat (first | exact pk1 | apply pick_tail)) (sel_nil _))) hT; obtain ⟨he2, he3⟩ := he0 h4
                refine list_pure E rfl rfl (by decide) (rn_assign E rfl rfl) ?_; clear E a; intro a E
                refine wpList_nil ?_
                refine then_k hK ?_; clear hK; clear K
                refine wp_seq_k ?_; intro K hK
                refine region_list ?_
                refine list_pure E rfl rfl (by decide) (rn_move E rfl rfl) ?_; clear E a; intro a E
                refine list_pure E rfl rfl (by decide) (by first | exact rn_neq E rfl rfl rfl | exact rn_neq_ptr_nil E rfl rfl rfl rfl | exact rn_neq_bool E rfl rfl rfl rfl | exact rn_neq_string E rfl rfl rfl) ?_; clear E a; intro a E
                refine wpList_nil ?_
                refine then_k hK ?_; clear hK; clear K
                refine if_true' E rfl (rfl) ?_
                refine wp_seq_k ?_; intro K hK
                refine region_list ?_
                refine list_pure E rfl rfl (by decide) (rn_move E rfl rfl) ?_; clear E a; intro a E
                refine list_pure E rfl rfl (by decide) (rn_assign E rfl rfl) ?_; clear E a; intro a E
                refine wpList_nil ?_
                refine then_k hK ?_; clear hK; clear K
                refine wp_ret ?_
                refine then_ret ?_; clear hK; clear K
                refine ret1 E rfl rfl ?_
                exact ⟨_, rfl, by rw [he2], A, by rw [he3]; exact hA0, (S.only (Bs := [A]) (sel_cons (by repeat (first | exact pk1 | apply pick_tail)) (sel_nil _))).tr⟩
              · skip
                have S := S.call2 (sel_cons (by repeat (first | exact pk1 | apply pick_tail)) (sel_cons (by repeat (first | exact pk1 | apply pick_tail)) (sel_nil _))) hT; obtain ⟨he2, he3⟩ := he1 h4
                refine list_pure E rfl rfl (by decide) (rn_assign E rfl rfl) ?_; clear E a; intro a E
                refine wpList_nil ?_
                refine then_k hK ?_; clear hK; clear K
                refine wp_seq_k ?_; intro K hK
                refine region_list ?_
                refine list_pure E rfl rfl (by decide) (rn_move E rfl rfl) ?_; clear E a; intro a E
                refine list_pure E rfl rfl (by decide) (by first | exact rn_neq E rfl rfl rfl | exact rn_neq_ptr_nil E rfl rfl rfl rfl | exact rn_neq_bool E rfl rfl rfl rfl | exact rn_neq_string E rfl rfl rfl) ?_; clear E a; intro a E
                refine wpList_nil ?_
                refine then_k hK ?_; clear hK; clear K
                refine if_false' E rfl (rfl) ?_
                refine wp_skip ?_
                refine then_k hK ?_; clear hK; clear K
                refine wp_seq_k ?_; intro K hK
                obtain ⟨ad5, c5, C5, hAe5, hB5⟩ := hA'.open
                have S := S.openP (by repeat (first | exact pk1 | apply pick_tail)) hAe5
                refine region_list ?_
                refine list_pure E rfl rfl (by decide) (rn_move E rfl rfl) ?_; clear E a; intro a E
                refine list_pure E rfl rfl (by decide) (rn_nilCheck E rfl rfl) ?_; clear E a; intro a E
                refine list_pure E rfl rfl (by decide) (by first | exact rn_fieldAddr0 (q := 1) E rfl rfl rfl | exact rn_fieldAddr (q := 1) E rfl rfl rfl) ?_; clear E a; intro a E
                refine list_pure E rfl rfl (by decide) (by first | exact rn_load E rfl rfl rfl (S.get (by repeat (first | exact pk1 | apply pick_tail))) rfl | exact rn_loadc E rfl rfl rfl (by assumption)) ?_; clear E a; intro a E
                refine list_pure E rfl rfl (by decide) (rn_move E rfl rfl) ?_; clear E a; intro a E
                refine list_pure E rfl rfl (by decide) (rn_add E rfl rfl rfl (by first | exact wa1 (by omega) | exact w_in (by omega) | exact w_inu (by omega) | exact rfl)) ?_; clear E a; intro a E
                refine list_pure E rfl rfl (by decide) (rn_nilCheck E rfl rfl) ?_; clear E a; intro a E
                refine list_pure E rfl rfl (by decide) (by first | exact rn_fieldAddr0 (q := 1) E rfl rfl rfl | exact rn_fieldAddr (q := 1) E rfl rfl rfl) ?_; clear E a; intro a E
                refine list_wp rfl (wp_store1 E S rfl rfl rfl rfl rfl rfl (by repeat (first | exact pk1 | apply pick_tail)) (by first | exact Nat.le_of_ble_eq_true rfl | (simp; done) | (simp; omega)) ?_); clear E S a; intro a w E S; try dsimp only [List.set] at S
                refine wpList_nil ?_
                refine then_k hK ?_; clear hK; clear K
                refine wp_seq_k ?_; intro K hK
                refine region_list ?_
                refine list_pure E rfl rfl (by decide) (rn_assign E rfl rfl) ?_; clear E a; intro a E
                refine wpList_nil ?_
                refine then_k hK ?_; clear hK; clear K
                refine wp_ret ?_
                refine ret1 E rfl rfl ?_
                have hS : SetC p (addS l x) (manyL (addS l x)) ([(p, cel [.slice ad5 (withL l x false).length c5, .int .i64 (manyL l + x.many)] 69)] ++ C5) := by
                  rw [addS_many hG.gd he2, he3]; exact ⟨_, _, rfl, hB5⟩
                exact ⟨_, rfl, by rw [he2], _, hS, (S.closeP (by repeat (first | exact pk1 | apply pick_tail)) (by repeat (first | exact pk1 | apply pick_tail)) rfl).back⟩
        · replace hb := Nrm.nrm hb
          have h0 : ¬ ∃ h : 0 < k, (l[k - 1]'(by have := hk.1; omega)).fin = x.at_ := (fun q => by rw [hbt.2 q] at hb; cases hb)
          refine wp_skip ?_
          refine then_k hK ?_; clear hK; clear K
          refine wp_seq_k ?_; intro K hK
          refine wp_seq_k ?_; intro K hK
          skip
          refine wp_join (fun (a : Act) (w' : World) => ∃ bt : Bool, (bt = true ↔ ∃ h : k < l.length, l[k].at_ = (⟨x.at_, x.many⟩ : Sp).fin) ∧ St w0 [A] w' [[(p, cel [.slice ad l.length c, .int .i64 (manyL l)] 69)], C, [(b3, cel [.int .i64 (x.at_), .int .i64 (x.many)] 31)]] ∧ Fr a 113 [(0, ptr p), (3, .pointer (some ⟨b3, 0, none⟩)), (5, .int .i64 (k : Nat)), (6, .int .i64 k), (7, .int .i64 x.many), (81, .bool bt)]) ?_ ?_
          · skip
            refine region_mix0 S (.ofL [(0, 0), (1, 0), (2, 0), (3, 0), (4, 0), (5, 0), (6, 0), (7, 0), (8, 0), (9, 0), (10, 0), (11, 0), (12, 0), (13, 0), (14, 0), (15, 0), (16, 0), (17, 1), (18, 0), (19, 0)]) (by kernel_rfl) (by kernel_rfl) ?_
            clear S; intro w S
            refine mix_pure E rfl rfl rfl (by decide) (fun w h => rn_move E rfl rfl) ?_; clear E a; intro a E
            refine mix_pure E rfl rfl rfl (by decide) (fun w h => rn_move E rfl rfl) ?_; clear E a; intro a E
            refine mix_pure E rfl rfl rfl (by decide) (fun w h => rn_nilCheck E rfl rfl) ?_; clear E a; intro a E
            refine mix_pure E rfl rfl rfl (by decide) (fun w h => by first | exact rn_fieldAddr0 (q := 0) E rfl rfl rfl | exact rn_fieldAddr (q := 0) E rfl rfl rfl) ?_; clear E a; intro a E
            refine mix_pure E rfl rfl rfl (by decide) (fun w h => by first | exact rn_load E rfl rfl rfl (h.one (by repeat (first | exact mm1 | assumption | apply List.Mem.tail))) rfl | exact rn_loadc E rfl rfl rfl (by assumption)) ?_; clear E a; intro a E
            refine mix_pure E rfl rfl rfl (by decide) (fun w h => by first | exact rn_len E rfl rfl rfl | exact rn_len_str E rfl rfl rfl | exact rn_len_string E rfl rfl rfl) ?_; clear E a; intro a E
            refine mix_pure E rfl rfl rfl (by decide) (fun w h => rn_lss E rfl rfl rfl) ?_; clear E a; intro a E
            refine mix_pure E rfl rfl rfl (by decide) (fun w h => rn_move E rfl rfl) ?_; clear E a; intro a E
            refine guard_split E (t := 69) rfl (fun hb69 => ?_) (fun hb69 => ?_)
            · have hb69n := hb69; replace hb69n := Nrm.nrm hb69n
              obtain ⟨b, off, rfl⟩ := hB.rd.addr (by omega); have hkk : k < l.length := (by omega); have hat2 := hG.at hkk
              refine mix_guard_yes E rfl rfl rfl rfl rfl hb69 rfl (by decide) (fun w h => rn_move E rfl rfl) ?_; clear E a; intro a E
              refine mix_guard_yes E rfl rfl rfl rfl rfl hb69 rfl (by decide) (fun w h => rn_nilCheck E rfl rfl) ?_; clear E a; intro a E
              refine mix_guard_yes E rfl rfl rfl rfl rfl hb69 rfl (by decide) (fun w h => by first | exact rn_fieldAddr0 (q := 0) E rfl rfl rfl | exact rn_fieldAddr (q := 0) E rfl rfl rfl) ?_; clear E a; intro a E
              refine mix_guard_yes E rfl rfl rfl rfl rfl hb69 rfl (by decide) (fun w h => by first | exact rn_load E rfl rfl rfl (h.one (by repeat (first | exact mm1 | assumption | apply List.Mem.tail))) rfl | exact rn_loadc E rfl rfl rfl (by assumption)) ?_; clear E a; intro a E
              refine mix_guard_yes E rfl rfl rfl rfl rfl hb69 rfl (by decide) (fun w h => rn_move E rfl rfl) ?_; clear E a; intro a E
              refine mix_guard_yes E rfl rfl rfl rfl rfl hb69 rfl (by decide) (fun w h => by first | exact rn_indexAddr1 E rfl rfl rfl rfl rfl rfl (by omega) | exact rn_indexAddr E rfl rfl rfl rfl rfl rfl (by omega) | exact rn_indexAddr_array E rfl rfl rfl rfl rfl rfl (by omega)) ?_; clear E a; intro a E
              refine mix_guard_yes E rfl rfl rfl rfl rfl hb69 rfl (by decide) (fun w h => by first | exact rn_fieldAddr0 (q := 0) E rfl rfl rfl | exact rn_fieldAddr (q := 0) E rfl rfl rfl) ?_; clear E a; intro a E
              refine mix_guard_yes E rfl rfl rfl rfl rfl hb69 rfl (by decide) (fun w h => rn_loadc E rfl rfl rfl (hB.rd.elem (lay := Sp.lay) Sp.lay_len (h.at (by repeat (first | exact mm1 | assumption | apply List.Mem.tail))) hkk 0 _ rfl)) ?_; clear E a; intro a E
              refine mix_guard_yes E rfl rfl rfl rfl rfl hb69 rfl (by decide) (fun w h => rn_load_blk (vs := [_, _]) E rfl rfl rfl (h.one (by repeat (first | exact mm1 | assumption | apply List.Mem.tail))) rfl rfl) ?_; clear E a; intro a E
              refine mix_guard_act E rfl rfl rfl rfl rfl hb69 ?_; refine wp_call' E rfl (by decide) rfl Try.func37 rfl (by kernel_rfl) rfl (end_ret ⟨x.at_, x.many⟩ ⟨by simp only; omega, by simp only; omega⟩ _) ?_
              rintro v79 w ⟨rfl, hT⟩; clear E a; intro a E
              have S := S.quiet hT
              refine ⟨S.stab.sub (by first | (simp; done) | (simp +contextual; done) | (simp [*]; done)), ?_⟩
              refine mix_guard_yes E rfl rfl rfl rfl rfl hb69 rfl (by decide) (fun w h => by first | exact rn_eql E rfl rfl rfl | exact rn_eql_ptr_nil E rfl rfl rfl rfl | exact rn_eql_bool E rfl rfl rfl rfl | exact rn_eql_string E rfl rfl rfl) ?_; clear E a; intro a E
              refine mix_pure E rfl rfl rfl (by decide) (fun w h => rn_pick_yes' E rfl rfl hb69 rfl) ?_; clear E a; intro a E
              refine mix_nil ?_
              refine joined_here ?_
              exact ⟨_, by simp [show k < l.length by omega], S, E.keep (keep_cons rfl (keep_cons rfl (keep_cons rfl (keep_cons rfl (keep_cons rfl (keep_cons rfl keep_nil))))))⟩
            · have hb69n := hb69; replace hb69n := Nrm.nrm hb69n
              refine mix_guard_no E rfl rfl rfl rfl rfl hb69 rfl (by decide) ?_; clear E a; intro a E
              refine mix_guard_no E rfl rfl rfl rfl rfl hb69 rfl (by decide) ?_; clear E a; intro a E
              refine mix_guard_no E rfl rfl rfl rfl rfl hb69 rfl (by decide) ?_; clear E a; intro a E
              refine mix_guard_no E rfl rfl rfl rfl rfl hb69 rfl (by decide) ?_; clear E a; intro a E
              refine mix_guard_no E rfl rfl rfl rfl rfl hb69 rfl (by decide) ?_; clear E a; intro a E
              refine mix_guard_no E rfl rfl rfl rfl rfl hb69 rfl (by decide) ?_; clear E a; intro a E
              refine mix_guard_no E rfl rfl rfl rfl rfl hb69 rfl (by decide) ?_; clear E a; intro a E
              refine mix_guard_no E rfl rfl rfl rfl rfl hb69 rfl (by decide) ?_; clear E a; intro a E
              refine mix_guard_no E rfl rfl rfl rfl rfl hb69 rfl (by decide) ?_; clear E a; intro a E
              refine mix_guard_no_act E rfl rfl rfl rfl rfl hb69 rfl (by decide) (S.stab.sub (by first | (simp; done) | (simp +contextual; done) | (simp [*]; done))) ?_; clear E a; intro a E
              refine mix_guard_no E rfl rfl rfl rfl rfl hb69 rfl (by decide) ?_; clear E a; intro a E
              refine mix_pure E rfl rfl rfl (by decide) (fun w h => rn_pick_no' E rfl rfl hb69 rfl) ?_; clear E a; intro a E
              refine mix_nil ?_
              refine joined_here ?_
              exact ⟨false, by simp; intro q; exfalso; omega, S, E.keep (keep_cons rfl (keep_cons rfl (keep_cons rfl (keep_cons rfl (keep_cons rfl (keep_cons rfl keep_nil))))))⟩
          · clear E S a; intro a w J; obtain ⟨bt2, hbt2, S, E⟩ := J
            refine then_k hK ?_; clear hK; clear K
            refine if_bool E rfl (fun hb => ?_) (fun hb => ?_)
            · replace hb := Nrm.nrm hb
              obtain ⟨hkk, hf2⟩ := hbt2.1 hb
              refine wp_seq_k ?_; intro K hK
              obtain ⟨b, off, rfl⟩ := hB.rd.addr (by omega)
              have hat2 := hG.at hkk
              refine region_mix0 S (.ofL [(0, 0), (1, 0), (2, 0), (3, 0), (4, 0), (5, 0), (6, 0), (7, 0), (8, 0), (9, 0), (10, 0), (11, 0), (12, 3)]) (by kernel_rfl) (by kernel_rfl) ?_
              clear S; intro w S
              refine mix_pure E rfl rfl rfl (by decide) (fun w h => by first | exact rn_fieldAddr0 (q := 1) E rfl rfl rfl | exact rn_fieldAddr (q := 1) E rfl rfl rfl) ?_; clear E a; intro a E
              refine mix_pure E rfl rfl rfl (by decide) (fun w h => by first | exact rn_load E rfl rfl rfl (h.one (by repeat (first | exact mm1 | assumption | apply List.Mem.tail))) rfl | exact rn_loadc E rfl rfl rfl (by assumption)) ?_; clear E a; intro a E
              refine mix_pure E rfl rfl rfl (by decide) (fun w h => rn_move E rfl rfl) ?_; clear E a; intro a E
              refine mix_pure E rfl rfl rfl (by decide) (fun w h => rn_nilCheck E rfl rfl) ?_; clear E a; intro a E
              refine mix_pure E rfl rfl rfl (by decide) (fun w h => by first | exact rn_fieldAddr0 (q := 0) E rfl rfl rfl | exact rn_fieldAddr (q := 0) E rfl rfl rfl) ?_; clear E a; intro a E
              refine mix_pure E rfl rfl rfl (by decide) (fun w h => by first | exact rn_load E rfl rfl rfl (h.one (by repeat (first | exact mm1 | assumption | apply List.Mem.tail))) rfl | exact rn_loadc E rfl rfl rfl (by assumption)) ?_; clear E a; intro a E
              refine mix_pure E rfl rfl rfl (by decide) (fun w h => rn_move E rfl rfl) ?_; clear E a; intro a E
              refine mix_pure E rfl rfl rfl (by decide) (fun w h => by first | exact rn_indexAddr1 E rfl rfl rfl rfl rfl rfl (by omega) | exact rn_indexAddr E rfl rfl rfl rfl rfl rfl (by omega) | exact rn_indexAddr_array E rfl rfl rfl rfl rfl rfl (by omega)) ?_; clear E a; intro a E
              refine mix_pure E rfl rfl rfl (by decide) (fun w h => by first | exact rn_fieldAddr0 (q := 1) E rfl rfl rfl | exact rn_fieldAddr (q := 1) E rfl rfl rfl) ?_; clear E a; intro a E
              refine mix_pure E rfl rfl rfl (by decide) (fun w h => rn_loadc E rfl rfl rfl (hB.rd.elem (lay := Sp.lay) Sp.lay_len (h.at (by repeat (first | exact mm1 | assumption | apply List.Mem.tail))) hkk 1 _ rfl)) ?_; clear E a; intro a E
              refine mix_pure E rfl rfl rfl (by decide) (fun w h => rn_add E rfl rfl rfl (by first | exact wa1 (by omega) | exact w_in (by omega) | exact w_inu (by omega) | exact rfl)) ?_; clear E a; intro a E
              refine mix_pure E rfl rfl rfl (by decide) (fun w h => by first | exact rn_fieldAddr0 (q := 1) E rfl rfl rfl | exact rn_fieldAddr (q := 1) E rfl rfl rfl) ?_; clear E a; intro a E
              refine mix_last rfl rfl (wp_store1 E S rfl rfl rfl rfl rfl rfl (by repeat (first | exact pk1 | apply pick_tail)) (by first | exact Nat.le_of_ble_eq_true rfl | (simp; done) | (simp; omega)) ?_); clear E S a; intro a w E S; try dsimp only [List.set] at S
              refine mix_nil ?_
              refine then_k hK ?_; clear hK; clear K
              refine region_list ?_
              refine list_pure E rfl rfl (by decide) (rn_move E rfl rfl) ?_; clear E a; intro a E
              refine list_pure E rfl rfl (by decide) (rn_add E rfl rfl rfl (by first | exact wa_lit (y := 1) (by omega) | exact w_in (by omega) | exact w_inu (by omega) | exact rfl)) ?_; clear E a; intro a E
              refine list_pure E rfl rfl (by decide) (rn_assign E rfl rfl) ?_; clear E a; intro a E
              refine wpList_nil ?_
              refine then_k hK ?_; clear hK; clear K
              refine wp_seq_k ?_; intro K hK
              refine wp_seq_k ?_; intro K hK
              have S := S.closeP (by repeat (first | exact pk1 | apply pick_tail)) (by repeat (first | exact pk1 | apply pick_tail)) hAe
              have hw := wR hG.gd hm hk h0 hkk hf2
              refine region_list ?_
              refine list_pure E rfl rfl (by decide) (rn_move E rfl rfl) ?_; clear E a; intro a E
              refine list_pure E rfl rfl (by decide) (rn_move E rfl rfl) ?_; clear E a; intro a E
              refine list_pure E rfl rfl (by decide) (rn_move E rfl rfl) ?_; clear E a; intro a E
              refine list_pure E rfl rfl (by decide) (rn_load_blk (vs := [_, _]) E rfl rfl rfl (S.get (by repeat (first | exact pk1 | apply pick_tail))) rfl rfl) ?_; clear E a; intro a E
              refine list_wp rfl (wp_bslice (cells := [_, _]) E S rfl rfl (by decide) rfl rfl rfl rfl rfl (by decide) rfl ?_); clear E S a; intro a w b100 E S
              refine list_call E rfl rfl (by decide) rfl Try.func38 rfl (by kernel_rfl) rfl (rgput_ret p l _ A (k) (k + 1) [⟨x.at_, x.many + (l[k]'hkk).many⟩] _ _ _ hA0 hlen (by omega) (by omega) (by simp) _ hw.symm (rd_cells rfl (by simp [Sp.lay, Value.oneCell']) (by simp) 1) (S.hp.sel (sel_cons (by repeat (first | exact pk1 | apply pick_tail)) (sel_cons (by repeat (first | exact pk1 | apply pick_tail)) (sel_nil _))))) ?_
              rintro v101 w hput; clear E a; intro a E
              obtain ⟨he0, he1⟩ := add_end hG hm hn
              rcases hput with ⟨h4, rfl, hT⟩ | ⟨h4, rfl, A', hA', hT⟩
              · skip
                have S := S.call2 (sel_cons (by repeat (first | exact pk1 | apply pick_tail)) (sel_cons (by repeat (first | exact pk1 | apply pick_tail)) (sel_nil _))) hT; obtain ⟨he2, he3⟩ := he0 h4
                refine list_pure E rfl rfl (by decide) (rn_assign E rfl rfl) ?_; clear E a; intro a E
                refine wpList_nil ?_
                refine then_k hK ?_; clear hK; clear K
                refine wp_seq_k ?_; intro K hK
                replace E := E.keep (e' := [(0, _), (7, _), (8, _)]) (keep_cons rfl (keep_cons rfl (keep_cons rfl (keep_nil))))
                refine region_list ?_
                refine list_pure E rfl rfl (by decide) (rn_move E rfl rfl) ?_; clear E a; intro a E
                refine list_pure E rfl rfl (by decide) (by first | exact rn_neq E rfl rfl rfl | exact rn_neq_ptr_nil E rfl rfl rfl rfl | exact rn_neq_bool E rfl rfl rfl rfl | exact rn_neq_string E rfl rfl rfl) ?_; clear E a; intro a E
                refine wpList_nil ?_
                refine then_k hK ?_; clear hK; clear K
                refine if_true' E rfl (rfl) ?_
                refine wp_seq_k ?_; intro K hK
                refine region_list ?_
                refine list_pure E rfl rfl (by decide) (rn_move E rfl rfl) ?_; clear E a; intro a E
                refine list_pure E rfl rfl (by decide) (rn_assign E rfl rfl) ?_; clear E a; intro a E
                refine wpList_nil ?_
                refine then_k hK ?_; clear hK; clear K
                refine wp_ret ?_
                refine then_ret ?_; clear hK; clear K
                refine ret1 E rfl rfl ?_
                exact ⟨_, rfl, by rw [he2], A, by rw [he3]; exact hA0, (S.only (Bs := [A]) (sel_cons (by repeat (first | exact pk1 | apply pick_tail)) (sel_nil _))).tr⟩
              · skip
                have S := S.call2 (sel_cons (by repeat (first | exact pk1 | apply pick_tail)) (sel_cons (by repeat (first | exact pk1 | apply pick_tail)) (sel_nil _))) hT; obtain ⟨he2, he3⟩ := he1 h4
                refine list_pure E rfl rfl (by decide) (rn_assign E rfl rfl) ?_; clear E a; intro a E
                refine wpList_nil ?_
                refine then_k hK ?_; clear hK; clear K
                refine wp_seq_k ?_; intro K hK
                replace E := E.keep (e' := [(0, _), (7, _), (8, _)]) (keep_cons rfl (keep_cons rfl (keep_cons rfl (keep_nil))))
                refine region_list ?_
                refine list_pure E rfl rfl (by decide) (rn_move E rfl rfl) ?_; clear E a; intro a E
                refine list_pure E rfl rfl (by decide) (by first | exact rn_neq E rfl rfl rfl | exact rn_neq_ptr_nil E rfl rfl rfl rfl | exact rn_neq_bool E rfl rfl rfl rfl | exact rn_neq_string E rfl rfl rfl) ?_; clear E a; intro a E
                refine wpList_nil ?_
                refine then_k hK ?_; clear hK; clear K
                refine if_false' E rfl (rfl) ?_
                refine wp_skip ?_
                refine then_k hK ?_; clear hK; clear K
                refine wp_seq_k ?_; intro K hK
                obtain ⟨ad5, c5, C5, hAe5, hB5⟩ := hA'.open
                have S := S.openP (by repeat (first | exact pk1 | apply pick_tail)) hAe5
                refine region_list ?_
                refine list_pure E rfl rfl (by decide) (rn_move E rfl rfl) ?_; clear E a; intro a E
                refine list_pure E rfl rfl (by decide) (rn_nilCheck E rfl rfl) ?_; clear E a; intro a E
                refine list_pure E rfl rfl (by decide) (by first | exact rn_fieldAddr0 (q := 1) E rfl rfl rfl | exact rn_fieldAddr (q := 1) E rfl rfl rfl) ?_; clear E a; intro a E
                refine list_pure E rfl rfl (by decide) (by first | exact rn_load E rfl rfl rfl (S.get (by repeat (first | exact pk1 | apply pick_tail))) rfl | exact rn_loadc E rfl rfl rfl (by assumption)) ?_; clear E a; intro a E
                refine list_pure E rfl rfl (by decide) (rn_move E rfl rfl) ?_; clear E a; intro a E
                refine list_pure E rfl rfl (by decide) (rn_add E rfl rfl rfl (by first | exact wa1 (by omega) | exact w_in (by omega) | exact w_inu (by omega) | exact rfl)) ?_; clear E a; intro a E
                refine list_pure E rfl rfl (by decide) (rn_nilCheck E rfl rfl) ?_; clear E a; intro a E
                refine list_pure E rfl rfl (by decide) (by first | exact rn_fieldAddr0 (q := 1) E rfl rfl rfl | exact rn_fieldAddr (q := 1) E rfl rfl rfl) ?_; clear E a; intro a E
                refine list_wp rfl (wp_store1 E S rfl rfl rfl rfl rfl rfl (by repeat (first | exact pk1 | apply pick_tail)) (by first | exact Nat.le_of_ble_eq_true rfl | (simp; done) | (simp; omega)) ?_); clear E S a; intro a w E S; try dsimp only [List.set] at S
                refine wpList_nil ?_
                refine then_k hK ?_; clear hK; clear K
                refine wp_seq_k ?_; intro K hK
                refine region_list ?_
                refine list_pure E rfl rfl (by decide) (rn_assign E rfl rfl) ?_; clear E a; intro a E
                refine wpList_nil ?_
                refine then_k hK ?_; clear hK; clear K
                refine wp_ret ?_
                refine ret1 E rfl rfl ?_
                have hS : SetC p (addS l x) (manyL (addS l x)) ([(p, cel [.slice ad5 (withL l x false).length c5, .int .i64 (manyL l + x.many)] 69)] ++ C5) := by
                  rw [addS_many hG.gd he2, he3]; exact ⟨_, _, rfl, hB5⟩
                exact ⟨_, rfl, by rw [he2], _, hS, (S.closeP (by repeat (first | exact pk1 | apply pick_tail)) (by repeat (first | exact pk1 | apply pick_tail)) rfl).back⟩
            · replace hb := Nrm.nrm hb
              have hf2 : ¬ ∃ h : k < l.length, l[k].at_ = (⟨x.at_, x.many⟩ : Sp).fin := (fun q => by rw [hbt2.2 q] at hb; cases hb)
              refine wp_skip ?_
              refine then_k hK ?_; clear hK; clear K
              refine wp_seq_k ?_; intro K hK
              refine wp_seq_k ?_; intro K hK
              have S := S.closeP (by repeat (first | exact pk1 | apply pick_tail)) (by repeat (first | exact pk1 | apply pick_tail)) hAe
              have hw := wN hG.gd hm hk h0 hnk hf2
              refine region_list ?_
              refine list_pure E rfl rfl (by decide) (rn_move E rfl rfl) ?_; clear E a; intro a E
              refine list_pure E rfl rfl (by decide) (rn_move E rfl rfl) ?_; clear E a; intro a E
              refine list_pure E rfl rfl (by decide) (rn_move E rfl rfl) ?_; clear E a; intro a E
              refine list_pure E rfl rfl (by decide) (rn_load_blk (vs := [_, _]) E rfl rfl rfl (S.get (by repeat (first | exact pk1 | apply pick_tail))) rfl rfl) ?_; clear E a; intro a E
              refine list_wp rfl (wp_bslice (cells := [_, _]) E S rfl rfl (by decide) rfl rfl rfl rfl rfl (by decide) rfl ?_); clear E S a; intro a w b100 E S
              refine list_call E rfl rfl (by decide) rfl Try.func38 rfl (by kernel_rfl) rfl (rgput_ret p l _ A (k) (k) [x] _ _ _ hA0 hlen (by omega) (by omega) (by simp) _ hw.symm (rd_cells rfl (by simp [Sp.lay, Value.oneCell']) (by simp) 1) (S.hp.sel (sel_cons (by repeat (first | exact pk1 | apply pick_tail)) (sel_cons (by repeat (first | exact pk1 | apply pick_tail)) (sel_nil _))))) ?_
              rintro v101 w hput; clear E a; intro a E
              obtain ⟨he0, he1⟩ := add_end hG hm hn
              rcases hput with ⟨h4, rfl, hT⟩ | ⟨h4, rfl, A', hA', hT⟩
              · skip
                have S := S.call2 (sel_cons (by repeat (first | exact pk1 | apply pick_tail)) (sel_cons (by repeat (first | exact pk1 | apply pick_tail)) (sel_nil _))) hT; obtain ⟨he2, he3⟩ := he0 h4
                refine list_pure E rfl rfl (by decide) (rn_assign E rfl rfl) ?_; clear E a; intro a E
                refine wpList_nil ?_
                refine then_k hK ?_; clear hK; clear K
                refine wp_seq_k ?_; intro K hK
                refine region_list ?_
                refine list_pure E rfl rfl (by decide) (rn_move E rfl rfl) ?_; clear E a; intro a E
                refine list_pure E rfl rfl (by decide) (by first | exact rn_neq E rfl rfl rfl | exact rn_neq_ptr_nil E rfl rfl rfl rfl | exact rn_neq_bool E rfl rfl rfl rfl | exact rn_neq_string E rfl rfl rfl) ?_; clear E a; intro a E
                refine wpList_nil ?_
                refine then_k hK ?_; clear hK; clear K
                refine if_true' E rfl (rfl) ?_
                refine wp_seq_k ?_; intro K hK
                refine region_list ?_
                refine list_pure E rfl rfl (by decide) (rn_move E rfl rfl) ?_; clear E a; intro a E
                refine list_pure E rfl rfl (by decide) (rn_assign E rfl rfl) ?_; clear E a; intro a E
                refine wpList_nil ?_
                refine then_k hK ?_; clear hK; clear K
                refine wp_ret ?_
                refine then_ret ?_; clear hK; clear K
                refine ret1 E rfl rfl ?_
                exact ⟨_, rfl, by rw [he2], A, by rw [he3]; exact hA0, (S.only (Bs := [A]) (sel_cons (by repeat (first | exact pk1 | apply pick_tail)) (sel_nil _))).tr⟩
              · skip
                have S := S.call2 (sel_cons (by repeat (first | exact pk1 | apply pick_tail)) (sel_cons (by repeat (first | exact pk1 | apply pick_tail)) (sel_nil _))) hT; obtain ⟨he2, he3⟩ := he1 h4
                refine list_pure E rfl rfl (by decide) (rn_assign E rfl rfl) ?_; clear E a; intro a E
                refine wpList_nil ?_
                refine then_k hK ?_; clear hK; clear K
                refine wp_seq_k ?_; intro K hK
                refine region_list ?_
                refine list_pure E rfl rfl (by decide) (rn_move E rfl rfl) ?_; clear E a; intro a E
                refine list_pure E rfl rfl (by decide) (by first | exact rn_neq E rfl rfl rfl | exact rn_neq_ptr_nil E rfl rfl rfl rfl | exact rn_neq_bool E rfl rfl rfl rfl | exact rn_neq_string E rfl rfl rfl) ?_; clear E a; intro a E
                refine wpList_nil ?_
                refine then_k hK ?_; clear hK; clear K
                refine if_false' E rfl (rfl) ?_
                refine wp_skip ?_
                refine then_k hK ?_; clear hK; clear K
                refine wp_seq_k ?_; intro K hK
                obtain ⟨ad5, c5, C5, hAe5, hB5⟩ := hA'.open
                have S := S.openP (by repeat (first | exact pk1 | apply pick_tail)) hAe5
                refine region_list ?_
                refine list_pure E rfl rfl (by decide) (rn_move E rfl rfl) ?_; clear E a; intro a E
                refine list_pure E rfl rfl (by decide) (rn_nilCheck E rfl rfl) ?_; clear E a; intro a E
                refine list_pure E rfl rfl (by decide) (by first | exact rn_fieldAddr0 (q := 1) E rfl rfl rfl | exact rn_fieldAddr (q := 1) E rfl rfl rfl) ?_; clear E a; intro a E
                refine list_pure E rfl rfl (by decide) (by first | exact rn_load E rfl rfl rfl (S.get (by repeat (first | exact pk1 | apply pick_tail))) rfl | exact rn_loadc E rfl rfl rfl (by assumption)) ?_; clear E a; intro a E
                refine list_pure E rfl rfl (by decide) (rn_move E rfl rfl) ?_; clear E a; intro a E
                refine list_pure E rfl rfl (by decide) (rn_add E rfl rfl rfl (by first | exact wa1 (by omega) | exact w_in (by omega) | exact w_inu (by omega) | exact rfl)) ?_; clear E a; intro a E
                refine list_pure E rfl rfl (by decide) (rn_nilCheck E rfl rfl) ?_; clear E a; intro a E
                refine list_pure E rfl rfl (by decide) (by first | exact rn_fieldAddr0 (q := 1) E rfl rfl rfl | exact rn_fieldAddr (q := 1) E rfl rfl rfl) ?_; clear E a; intro a E
                refine list_wp rfl (wp_store1 E S rfl rfl rfl rfl rfl rfl (by repeat (first | exact pk1 | apply pick_tail)) (by first | exact Nat.le_of_ble_eq_true rfl | (simp; done) | (simp; omega)) ?_); clear E S a; intro a w E S; try dsimp only [List.set] at S
                refine wpList_nil ?_
                refine then_k hK ?_; clear hK; clear K
                refine wp_seq_k ?_; intro K hK
                refine region_list ?_
                refine list_pure E rfl rfl (by decide) (rn_assign E rfl rfl) ?_; clear E a; intro a E
                refine wpList_nil ?_
                refine then_k hK ?_; clear hK; clear K
                refine wp_ret ?_
                refine ret1 E rfl rfl ?_
                have hS : SetC p (addS l x) (manyL (addS l x)) ([(p, cel [.slice ad5 (withL l x false).length c5, .int .i64 (manyL l + x.many)] 69)] ++ C5) := by
                  rw [addS_many hG.gd he2, he3]; exact ⟨_, _, rfl, hB5⟩
                exact ⟨_, rfl, by rw [he2], _, hS, (S.closeP (by repeat (first | exact pk1 | apply pick_tail)) (by repeat (first | exact pk1 | apply pick_tail)) rfl).back⟩

theorem rd1 (g : Nat) (a b : Int) (T : TypeId) : Rd [(g, cel [.int .i64 a, .int .i64 b] T)] 2 (.slice (some ⟨g, 0, none⟩) 1 1) 1 [.int .i64 a, .int .i64 b] := rd_cells rfl (by simp [Value.oneCell']) (by omega) 1

theorem rd2 (g : Nat) (a b c d : Int) (T : TypeId) : Rd [(g, cel [.int .i64 a, .int .i64 b, .int .i64 c, .int .i64 d] T)] 2 (.slice (some ⟨g, 0, none⟩) 2 2) 2 [.int .i64 a, .int .i64 b, .int .i64 c, .int .i64 d] := rd_cells rfl (by simp [Value.oneCell']) (by omega) 2

/-- What 'put' makes of a Remove. -/
theorem rem_end {l : List Sp} {x : Sp} (hh : hasL l x = true) :
    (4096 < (remL l x).length → remE l x = 2 ∧ remS l x = l) ∧ ((remL l x).length ≤ 4096 → remE l x = 0 ∧ remS l x = remL l x) := by
  refine ⟨fun h => ?_, fun h => ?_⟩
  · have : remE l x = 2 := by simp only [remE, hh, if_true, h]
    exact ⟨this, by simp [remS, this]⟩
  · have : remE l x = 0 := by simp only [remE, hh, if_true]; rw [if_neg (by omega)]
    exact ⟨this, remS_ok this⟩

theorem rem_ret (p : Nat) (l : List Sp) (x : Sp) (A : Chunk) (w0 : World) (hA : SetC p l (manyL l) A) (hG : Okl l) (H : Hp w0 [A]) :
    Ret Try.prog 23 #[ptr p, x.agg] w0 fun u w' => u = .int .i64 (remE l x) ∧ ∃ A', SetC p (remS l x) (manyL (remS l x)) A' ∧ Trs w0 w' [A] [A'] := by
  have S := St.begin H
  have hA0 := hA
  obtain ⟨ad, c, C, hAe, hB⟩ := hA.open
  have hlen := hG.len
  have hmb := many_bd hG.gd
  refine enter2 74 Try.func23 rfl rfl (by decide) ?_; intro a E
  refine wp_seq_k ?_; intro K hK
  refine region_list ?_
  refine list_wp rfl (wp_box E S rfl rfl (by decide) rfl rfl ?_); clear E S a; intro a w b3 E S
  refine list_pure E rfl rfl (by decide) (rn_assign E rfl rfl) ?_; clear E a; intro a E
  refine wpList_nil ?_
  refine then_k hK ?_; clear hK; clear K
  refine wp_seq_k ?_; intro K hK
  refine wp_seq_k ?_; intro K hK
  refine region_list ?_
  refine list_pure E rfl rfl (by decide) (rn_move E rfl rfl) ?_; clear E a; intro a E
  refine list_pure E rfl rfl (by decide) (rn_load_blk (vs := [_, _]) E rfl rfl rfl (S.get (by repeat (first | exact pk1 | apply pick_tail))) rfl rfl) ?_; clear E a; intro a E
  refine list_call E rfl rfl (by decide) rfl Try.func35 rfl (by kernel_rfl) rfl (has_ret p l _ x A _ hA0 hG (S.hp.sel (sel_cons (by repeat (first | exact pk1 | apply pick_tail)) (sel_nil _)))) ?_
  rintro v11 w ⟨rfl, hT⟩; clear E a; intro a E
  have S := S.call1 (sel_cons (by repeat (first | exact pk1 | apply pick_tail)) (sel_nil _)) hT
  refine list_pure E rfl rfl (by decide) (rn_not E rfl rfl) ?_; clear E a; intro a E
  refine wpList_nil ?_
  refine then_k hK ?_; clear hK; clear K
  refine if_bool E rfl (fun hb => ?_) (fun hb => ?_)
  · replace hb := Nrm.nrm hb
    have hh : hasL l x = false := (by simpa using hb)
    refine wp_seq_k ?_; intro K hK
    refine region_list ?_
    refine list_pure E rfl rfl (by decide) (rn_assign E rfl rfl) ?_; clear E a; intro a E
    refine wpList_nil ?_
    refine then_k hK ?_; clear hK; clear K
    refine wp_ret ?_
    refine then_ret ?_; clear hK; clear K
    refine ret1 E rfl rfl ?_
    have he : remE l x = 90 := by simp [remE, hh]
    exact ⟨_, rfl, by rw [he], A, by rw [show remS l x = l by simp [remS, he]]; exact hA0, (S.only (Bs := [A]) (sel_cons (by repeat (first | exact pk1 | apply pick_tail)) (sel_nil _))).tr⟩
  · replace hb := Nrm.nrm hb
    have hh : hasL l x = true := (by simpa using hb)
    refine wp_skip ?_
    refine then_k hK ?_; clear hK; clear K
    refine wp_seq_k ?_; intro K hK
    refine region_list ?_
    refine list_pure E rfl rfl (by decide) (rn_move E rfl rfl) ?_; clear E a; intro a E
    refine list_pure E rfl rfl (by decide) (by first | exact rn_fieldAddr0 (q := 0) E rfl rfl rfl | exact rn_fieldAddr (q := 0) E rfl rfl rfl) ?_; clear E a; intro a E
    refine list_pure E rfl rfl (by decide) (by first | exact rn_load E rfl rfl rfl (S.get (by repeat (first | exact pk1 | apply pick_tail))) rfl | exact rn_loadc E rfl rfl rfl (by assumption)) ?_; clear E a; intro a E
    refine list_call E rfl rfl (by decide) rfl Try.func36 rfl (by kernel_rfl) rfl (behind_ret p l _ x.at_ A _ hA0 hG (S.hp.sel (sel_cons (by repeat (first | exact pk1 | apply pick_tail)) (sel_nil _)))) ?_
    rintro v16 w ⟨k, rfl, hk, hT⟩; clear E a; intro a E
    have S := S.call1 (sel_cons (by repeat (first | exact pk1 | apply pick_tail)) (sel_nil _)) hT
    refine list_pure E rfl rfl (by decide) (rn_assign E rfl rfl) ?_; clear E a; intro a E
    refine wpList_nil ?_
    refine then_k hK ?_; clear hK; clear K
    refine wp_seq_k ?_; intro K hK
    have hm := has_may hh
    have hmx := Sp.may_iff.1 hm
    obtain ⟨hkl, hy1, hy2⟩ := (cut_has hG.gd hm hk).1 hh
    have hat := hG.at hkl
    have hcr := cut_rem hG.gd hm hk hkl hy1 hy2
    have hpi := pieces_in hm hy1 hy2
    obtain ⟨b, off, rfl⟩ := hB.rd.addr (by omega)
    have S := S.openE hAe
    refine region_list ?_
    refine list_pure E rfl rfl (by decide) (rn_move E rfl rfl) ?_; clear E a; intro a E
    refine list_pure E rfl rfl (by decide) (rn_nilCheck E rfl rfl) ?_; clear E a; intro a E
    refine list_pure E rfl rfl (by decide) (by first | exact rn_fieldAddr0 (q := 0) E rfl rfl rfl | exact rn_fieldAddr (q := 0) E rfl rfl rfl) ?_; clear E a; intro a E
    refine list_pure E rfl rfl (by decide) (by first | exact rn_load E rfl rfl rfl (S.get (by repeat (first | exact pk1 | apply pick_tail))) rfl | exact rn_loadc E rfl rfl rfl (by assumption)) ?_; clear E a; intro a E
    refine list_pure E rfl rfl (by decide) (rn_move E rfl rfl) ?_; clear E a; intro a E
    refine list_pure E rfl rfl (by decide) (by first | exact rn_indexAddr1 E rfl rfl rfl rfl rfl rfl (by omega) | exact rn_indexAddr E rfl rfl rfl rfl rfl rfl (by omega) | exact rn_indexAddr_array E rfl rfl rfl rfl rfl rfl (by omega)) ?_; clear E a; intro a E
    refine list_pure E rfl rfl (by decide) (rn_load_aggc (vs := [_, _]) E rfl rfl rfl rfl (hB.rd.elem (lay := Sp.lay) Sp.lay_len (S.stab.at (by repeat (first | exact mm1 | assumption | apply List.Mem.tail))) hkl)) ?_; clear E a; intro a E
    refine list_wp rfl (wp_alloc E S rfl rfl (by decide) rfl rfl rfl ?_); clear E S a; intro a w b6 E S
    refine list_wp rfl (wp_storeN E S rfl rfl rfl rfl (by simp [Value.oneCell']) rfl (by repeat (first | exact pk1 | apply pick_tail)) (by simp) ?_); clear E S a; intro a w E S; simp only [List.take_succ_cons, List.take_zero, List.drop_succ_cons, List.drop_zero, List.cons_append, List.nil_append, List.append_nil, List.length_cons, List.length_nil, Nat.zero_add, Nat.add_zero] at S
    refine wpList_nil ?_
    refine then_k hK ?_; clear hK; clear K
    refine wp_seq_k ?_; intro K hK
    refine region_list ?_
    refine list_pure E rfl rfl (by decide) (rn_assign E rfl rfl) ?_; clear E a; intro a E
    refine wpList_nil ?_
    refine then_k hK ?_; clear hK; clear K
    refine wp_seq_k ?_; intro K hK
    refine wp_seq_k ?_; intro K hK
    refine region_list ?_
    refine list_pure E rfl rfl (by decide) (by first | exact rn_fieldAddr0 (q := 0) E rfl rfl rfl | exact rn_fieldAddr (q := 0) E rfl rfl rfl) ?_; clear E a; intro a E
    refine list_pure E rfl rfl (by decide) (by first | exact rn_load E rfl rfl rfl (S.get (by repeat (first | exact pk1 | apply pick_tail))) rfl | exact rn_loadc E rfl rfl rfl (by assumption)) ?_; clear E a; intro a E
    refine list_pure E rfl rfl (by decide) (by first | exact rn_fieldAddr0 (q := 0) E rfl rfl rfl | exact rn_fieldAddr (q := 0) E rfl rfl rfl) ?_; clear E a; intro a E
    refine list_pure E rfl rfl (by decide) (by first | exact rn_load E rfl rfl rfl (S.get (by repeat (first | exact pk1 | apply pick_tail))) rfl | exact rn_loadc E rfl rfl rfl (by assumption)) ?_; clear E a; intro a E
    refine list_pure E rfl rfl (by decide) (rn_gtr E rfl rfl rfl) ?_; clear E a; intro a E
    refine wpList_nil ?_
    refine then_k hK ?_; clear hK; clear K
    refine if_bool E rfl (fun hb => ?_) (fun hb => ?_)
    · replace hb := Nrm.nrm hb
      have hby : l[k].at_ < x.at_ := hb
      replace E := E.keep (e' := [(0, _), (3, _), (4, _), (5, _), (6, _), (7, _)]) (keep_cons rfl (keep_cons rfl (keep_cons rfl (keep_cons rfl (keep_cons rfl (keep_cons rfl (keep_nil)))))))
      have S := S.addNil
      refine region_list ?_
      refine list_pure E rfl rfl (by decide) (rn_move E rfl rfl) ?_; clear E a; intro a E
      refine list_pure E rfl rfl (by decide) (by first | exact rn_fieldAddr0 (q := 0) E rfl rfl rfl | exact rn_fieldAddr (q := 0) E rfl rfl rfl) ?_; clear E a; intro a E
      refine list_pure E rfl rfl (by decide) (by first | exact rn_load E rfl rfl rfl (S.get (by repeat (first | exact pk1 | apply pick_tail))) rfl | exact rn_loadc E rfl rfl rfl (by assumption)) ?_; clear E a; intro a E
      refine list_pure E rfl rfl (by decide) (by first | exact rn_fieldAddr0 (q := 0) E rfl rfl rfl | exact rn_fieldAddr (q := 0) E rfl rfl rfl) ?_; clear E a; intro a E
      refine list_pure E rfl rfl (by decide) (by first | exact rn_load E rfl rfl rfl (S.get (by repeat (first | exact pk1 | apply pick_tail))) rfl | exact rn_loadc E rfl rfl rfl (by assumption)) ?_; clear E a; intro a E
      refine list_pure E rfl rfl (by decide) (by first | exact rn_fieldAddr0 (q := 0) E rfl rfl rfl | exact rn_fieldAddr (q := 0) E rfl rfl rfl) ?_; clear E a; intro a E
      refine list_pure E rfl rfl (by decide) (by first | exact rn_load E rfl rfl rfl (S.get (by repeat (first | exact pk1 | apply pick_tail))) rfl | exact rn_loadc E rfl rfl rfl (by assumption)) ?_; clear E a; intro a E
      refine list_pure E rfl rfl (by decide) (rn_sub E rfl rfl rfl (by first | exact ws1 (by omega) (by omega) | exact w_in (by omega) | exact w_inu (by omega) | exact rfl)) ?_; clear E a; intro a E
      refine list_pure E rfl rfl (by decide) (rn_build (cells := [_, _]) E rfl rfl rfl) ?_; clear E a; intro a E
      refine list_wp rfl (wp_bslice (cells := [_, _]) E S rfl rfl (by decide) rfl rfl rfl rfl rfl (by decide) rfl ?_); clear E S a; intro a w b38 E S
      refine list_wp rfl (wp_append (by' := 16) E S rfl rfl (by decide) rfl rfl (Buf.nil _ _) (by repeat (first | exact pk1 | apply pick_tail)) ((rd1 _ _ _ _).src (S.stab.at (by repeat (first | exact mm1 | assumption | apply List.Mem.tail))) rfl) rfl rfl rfl rfl rfl rfl (by simp only [maxLen]; omega) (by omega) ?_); clear E S a; intro a w v39 C39 E S hB39
      refine list_pure E rfl rfl (by decide) (rn_assign E rfl rfl) ?_; clear E a; intro a E
      refine wpList_nil ?_
      refine then_k hK ?_; clear hK; clear K
      refine wp_seq_k ?_; intro K hK
      refine wp_seq_k ?_; intro K hK
      refine region_mix0 S (.ofL [(0, 0), (2, 0), (1, 1), (3, 3), (4, 2)]) (by kernel_rfl) (by kernel_rfl) ?_
      clear S; intro w S
      refine mix_pure E rfl rfl rfl (by decide) (fun w h => rn_load_blk (vs := [_, _]) E rfl rfl rfl (h.one (by repeat (first | exact mm1 | assumption | apply List.Mem.tail))) rfl rfl) ?_; clear E a; intro a E
      refine mix_pure E rfl rfl rfl (by decide) (fun w h => rn_load_blk (vs := [_, _]) E rfl rfl rfl (h.one (by repeat (first | exact mm1 | assumption | apply List.Mem.tail))) rfl rfl) ?_; clear E a; intro a E
      refine mix_call E rfl rfl rfl (by decide) rfl Try.func37 rfl (by kernel_rfl) rfl (end_ret (l[k]'hkl) (by omega) _) ?_
      rintro v41 w ⟨rfl, hT⟩; clear E a; intro a E
      have S := S.quiet hT
      refine ⟨S.stab.sub (by first | (simp; done) | (simp +contextual; done) | (simp [*]; done)), ?_⟩
      refine mix_call3 E rfl rfl rfl (by decide) rfl Try.func37 rfl (by kernel_rfl) rfl (end_ret x (by omega) _) ?_
      rintro v43 w ⟨rfl, hT⟩; clear E a; intro a E
      have S := S.quiet hT
      refine mix_free E rfl rfl rfl (by decide) (fun w => rn_gtr E rfl rfl rfl) ?_; clear E a; intro a E
      refine mix_nil ?_
      refine then_k hK ?_; clear hK; clear K
      refine if_bool E rfl (fun hb => ?_) (fun hb => ?_)
      · replace hb := Nrm.nrm hb
        have hbx : x.fin < (l[k]'hkl).fin := hb
        skip
        refine region_mix0 S (.ofL [(0, 0), (1, 0), (3, 0), (5, 0), (2, 1), (4, 1), (6, 1), (7, 0), (8, 0), (9, 1), (10, 3), (11, 2)]) (by kernel_rfl) (by kernel_rfl) ?_
        clear S; intro w S
        refine mix_pure E rfl rfl rfl (by decide) (fun w h => rn_move E rfl rfl) ?_; clear E a; intro a E
        refine mix_pure E rfl rfl rfl (by decide) (fun w h => rn_load_blk (vs := [_, _]) E rfl rfl rfl (h.one (by repeat (first | exact mm1 | assumption | apply List.Mem.tail))) rfl rfl) ?_; clear E a; intro a E
        refine mix_pure E rfl rfl rfl (by decide) (fun w h => rn_load_blk (vs := [_, _]) E rfl rfl rfl (h.one (by repeat (first | exact mm1 | assumption | apply List.Mem.tail))) rfl rfl) ?_; clear E a; intro a E
        refine mix_pure E rfl rfl rfl (by decide) (fun w h => rn_load_blk (vs := [_, _]) E rfl rfl rfl (h.one (by repeat (first | exact mm1 | assumption | apply List.Mem.tail))) rfl rfl) ?_; clear E a; intro a E
        refine mix_call E rfl rfl rfl (by decide) rfl Try.func37 rfl (by kernel_rfl) rfl (end_ret x (by omega) _) ?_
        rintro v47 w ⟨rfl, hT⟩; clear E a; intro a E
        have S := S.quiet hT
        refine ⟨S.stab.sub (by first | (simp; done) | (simp +contextual; done) | (simp [*]; done)), ?_⟩
        refine mix_call E rfl rfl rfl (by decide) rfl Try.func37 rfl (by kernel_rfl) rfl (end_ret (l[k]'hkl) (by omega) _) ?_
        rintro v49 w ⟨rfl, hT⟩; clear E a; intro a E
        have S := S.quiet hT
        refine ⟨S.stab.sub (by first | (simp; done) | (simp +contextual; done) | (simp [*]; done)), ?_⟩
        refine mix_call E rfl rfl rfl (by decide) rfl Try.func37 rfl (by kernel_rfl) rfl (end_ret x (by omega) _) ?_
        rintro v51 w ⟨rfl, hT⟩; clear E a; intro a E
        have S := S.quiet hT
        refine ⟨S.stab.sub (by first | (simp; done) | (simp +contextual; done) | (simp [*]; done)), ?_⟩
        refine mix_pure E rfl rfl rfl (by decide) (fun w h => rn_sub E rfl rfl rfl (w_in (by simp only [Sp.fin] at *; omega))) ?_; clear E a; intro a E
        refine mix_pure E rfl rfl rfl (by decide) (fun w h => rn_build (cells := [_, _]) E rfl rfl rfl) ?_; clear E a; intro a E
        refine mix_act rfl rfl (wp_bslice (cells := [_, _]) E S rfl rfl (by decide) rfl rfl rfl rfl rfl (by decide) rfl ?_); clear E S a; intro a w b54 E S; refine ⟨S.stab.sub (by first | (simp; done) | (simp +contextual; done) | (simp [*]; done)), ?_⟩
        refine mix_last rfl rfl (wp_append (by' := 16) E S rfl rfl (by decide) rfl rfl hB39 (by repeat (first | exact pk1 | apply pick_tail)) ((rd1 _ _ _ _).src (S.stab.at (by repeat (first | exact mm1 | assumption | apply List.Mem.tail))) rfl) rfl rfl rfl rfl rfl rfl (by simp only [maxLen]; omega) (by omega) ?_); clear E S a; intro a w v55 C55 E S hB55
        refine mix_free E rfl rfl rfl (by decide) (fun w => rn_assign E rfl rfl) ?_; clear E a; intro a E
        refine mix_nil ?_
        refine then_k hK ?_; clear hK; clear K
        refine wp_seq_k ?_; intro K hK
        refine wp_seq_k ?_; intro K hK
        replace E := E.keep (e' := [(0, _), (3, _), (4, _), (5, _), (7, _)]) (keep_cons rfl (keep_cons rfl (keep_cons rfl (keep_cons rfl (keep_cons rfl (keep_nil))))))
        have S := S.closeP (by repeat (first | exact pk1 | apply pick_tail)) (by repeat (first | exact pk1 | apply pick_tail)) hAe
        have hM := hB55.rd
        have hw : l.take k ++ [⟨(l[k]'hkl).at_, x.at_ - (l[k]'hkl).at_⟩, ⟨x.fin, (l[k]'hkl).fin - x.fin⟩] ++ l.drop (k + 1) = remL l x := by rw [hcr, hpi]; simp [hby, hbx]
        refine region_list ?_
        refine list_pure E rfl rfl (by decide) (rn_move E rfl rfl) ?_; clear E a; intro a E
        refine list_pure E rfl rfl (by decide) (rn_move E rfl rfl) ?_; clear E a; intro a E
        refine list_pure E rfl rfl (by decide) (rn_move E rfl rfl) ?_; clear E a; intro a E
        refine list_pure E rfl rfl (by decide) (rn_add E rfl rfl rfl (by first | exact wa_lit (y := 1) (by omega) | exact w_in (by omega) | exact w_inu (by omega) | exact rfl)) ?_; clear E a; intro a E
        refine list_pure E rfl rfl (by decide) (rn_move E rfl rfl) ?_; clear E a; intro a E
        refine list_call E rfl rfl (by decide) rfl Try.func38 rfl (by kernel_rfl) rfl (rgput_ret p l _ A k (k + 1) [⟨(l[k]'hkl).at_, x.at_ - (l[k]'hkl).at_⟩, ⟨x.fin, (l[k]'hkl).fin - x.fin⟩] _ _ _ hA0 hlen (by omega) (by omega) (by simp) _ hw.symm hM (S.hp.sel (sel_cons (by repeat (first | exact pk1 | apply pick_tail)) (sel_cons (by repeat (first | exact pk1 | apply pick_tail)) (sel_nil _))))) ?_
        rintro v61 w hput; clear E a; intro a E
        obtain ⟨he0, he1⟩ := rem_end hh
        rcases hput with ⟨h4, rfl, hT⟩ | ⟨h4, rfl, A', hA', hT⟩
        · skip
          have S := S.call2 (sel_cons (by repeat (first | exact pk1 | apply pick_tail)) (sel_cons (by repeat (first | exact pk1 | apply pick_tail)) (sel_nil _))) hT; obtain ⟨he2, he3⟩ := he0 h4
          refine list_pure E rfl rfl (by decide) (rn_assign E rfl rfl) ?_; clear E a; intro a E
          refine wpList_nil ?_
          refine then_k hK ?_; clear hK; clear K
          refine wp_seq_k ?_; intro K hK
          refine region_list ?_
          refine list_pure E rfl rfl (by decide) (rn_move E rfl rfl) ?_; clear E a; intro a E
          refine list_pure E rfl rfl (by decide) (by first | exact rn_neq E rfl rfl rfl | exact rn_neq_ptr_nil E rfl rfl rfl rfl | exact rn_neq_bool E rfl rfl rfl rfl | exact rn_neq_string E rfl rfl rfl) ?_; clear E a; intro a E
          refine wpList_nil ?_
          refine then_k hK ?_; clear hK; clear K
          refine if_true' E rfl (rfl) ?_
          refine wp_seq_k ?_; intro K hK
          refine region_list ?_
          refine list_pure E rfl rfl (by decide) (rn_move E rfl rfl) ?_; clear E a; intro a E
          refine list_pure E rfl rfl (by decide) (rn_assign E rfl rfl) ?_; clear E a; intro a E
          refine wpList_nil ?_
          refine then_k hK ?_; clear hK; clear K
          refine wp_ret ?_
          refine then_ret ?_; clear hK; clear K
          refine ret1 E rfl rfl ?_
          exact ⟨_, rfl, by rw [he2], A, by rw [he3]; exact hA0, (S.only (Bs := [A]) (sel_cons (by repeat (first | exact pk1 | apply pick_tail)) (sel_nil _))).tr⟩
        · skip
          have S := S.call2 (sel_cons (by repeat (first | exact pk1 | apply pick_tail)) (sel_cons (by repeat (first | exact pk1 | apply pick_tail)) (sel_nil _))) hT; obtain ⟨he2, he3⟩ := he1 h4
          refine list_pure E rfl rfl (by decide) (rn_assign E rfl rfl) ?_; clear E a; intro a E
          refine wpList_nil ?_
          refine then_k hK ?_; clear hK; clear K
          refine wp_seq_k ?_; intro K hK
          refine region_list ?_
          refine list_pure E rfl rfl (by decide) (rn_move E rfl rfl) ?_; clear E a; intro a E
          refine list_pure E rfl rfl (by decide) (by first | exact rn_neq E rfl rfl rfl | exact rn_neq_ptr_nil E rfl rfl rfl rfl | exact rn_neq_bool E rfl rfl rfl rfl | exact rn_neq_string E rfl rfl rfl) ?_; clear E a; intro a E
          refine wpList_nil ?_
          refine then_k hK ?_; clear hK; clear K
          refine if_false' E rfl (rfl) ?_
          refine wp_skip ?_
          refine then_k hK ?_; clear hK; clear K
          refine wp_seq_k ?_; intro K hK
          obtain ⟨ad5, c5, C5, hAe5, hB5⟩ := hA'.open
          have S := S.openP (by repeat (first | exact pk1 | apply pick_tail)) hAe5
          refine region_mix0 S (.ofL [(0, 0), (1, 0), (2, 0), (3, 0), (4, 0), (5, 0), (6, 0), (7, 0), (8, 0), (9, 3)]) (by kernel_rfl) (by kernel_rfl) ?_
          clear S; intro w S
          refine mix_pure E rfl rfl rfl (by decide) (fun w h => rn_move E rfl rfl) ?_; clear E a; intro a E
          refine mix_pure E rfl rfl rfl (by decide) (fun w h => rn_nilCheck E rfl rfl) ?_; clear E a; intro a E
          refine mix_pure E rfl rfl rfl (by decide) (fun w h => by first | exact rn_fieldAddr0 (q := 1) E rfl rfl rfl | exact rn_fieldAddr (q := 1) E rfl rfl rfl) ?_; clear E a; intro a E
          refine mix_pure E rfl rfl rfl (by decide) (fun w h => by first | exact rn_load E rfl rfl rfl (h.one (by repeat (first | exact mm1 | assumption | apply List.Mem.tail))) rfl | exact rn_loadc E rfl rfl rfl (by assumption)) ?_; clear E a; intro a E
          refine mix_pure E rfl rfl rfl (by decide) (fun w h => by first | exact rn_fieldAddr0 (q := 1) E rfl rfl rfl | exact rn_fieldAddr (q := 1) E rfl rfl rfl) ?_; clear E a; intro a E
          refine mix_pure E rfl rfl rfl (by decide) (fun w h => by first | exact rn_load E rfl rfl rfl (h.one (by repeat (first | exact mm1 | assumption | apply List.Mem.tail))) rfl | exact rn_loadc E rfl rfl rfl (by assumption)) ?_; clear E a; intro a E
          refine mix_pure E rfl rfl rfl (by decide) (fun w h => rn_sub E rfl rfl rfl (by first | exact ws1 (by omega) (by omega) | exact w_in (by omega) | exact w_inu (by omega) | exact rfl)) ?_; clear E a; intro a E
          refine mix_pure E rfl rfl rfl (by decide) (fun w h => rn_nilCheck E rfl rfl) ?_; clear E a; intro a E
          refine mix_pure E rfl rfl rfl (by decide) (fun w h => by first | exact rn_fieldAddr0 (q := 1) E rfl rfl rfl | exact rn_fieldAddr (q := 1) E rfl rfl rfl) ?_; clear E a; intro a E
          refine mix_last rfl rfl (wp_store1 E S rfl rfl rfl rfl rfl rfl (by repeat (first | exact pk1 | apply pick_tail)) (by first | exact Nat.le_of_ble_eq_true rfl | (simp; done) | (simp; omega)) ?_); clear E S a; intro a w E S; try dsimp only [List.set] at S
          refine mix_nil ?_
          refine then_k hK ?_; clear hK; clear K
          refine wp_seq_k ?_; intro K hK
          refine region_list ?_
          refine list_pure E rfl rfl (by decide) (rn_assign E rfl rfl) ?_; clear E a; intro a E
          refine wpList_nil ?_
          refine then_k hK ?_; clear hK; clear K
          refine wp_ret ?_
          refine ret1 E rfl rfl ?_
          have hS : SetC p (remS l x) (manyL (remS l x)) ([(p, cel [.slice ad5 (remL l x).length c5, .int .i64 (manyL l - x.many)] 69)] ++ C5) := by
            rw [remS_many hG.gd he2, he3]; exact ⟨_, _, rfl, hB5⟩
          exact ⟨_, rfl, by rw [he2], _, hS, (S.closeP (by repeat (first | exact pk1 | apply pick_tail)) (by repeat (first | exact pk1 | apply pick_tail)) rfl).back⟩
      · replace hb := Nrm.nrm hb
        have hbx : ¬ x.fin < (l[k]'hkl).fin := hb
        refine wp_skip ?_
        refine then_k hK ?_; clear hK; clear K
        refine wp_seq_k ?_; intro K hK
        refine wp_seq_k ?_; intro K hK
        have S := S.closeP (by repeat (first | exact pk1 | apply pick_tail)) (by repeat (first | exact pk1 | apply pick_tail)) hAe
        have hM := hB39.rd
        have hw : l.take k ++ [⟨(l[k]'hkl).at_, x.at_ - (l[k]'hkl).at_⟩] ++ l.drop (k + 1) = remL l x := by rw [hcr, hpi]; simp [hby, hbx]
        refine region_list ?_
        refine list_pure E rfl rfl (by decide) (rn_move E rfl rfl) ?_; clear E a; intro a E
        refine list_pure E rfl rfl (by decide) (rn_move E rfl rfl) ?_; clear E a; intro a E
        refine list_pure E rfl rfl (by decide) (rn_move E rfl rfl) ?_; clear E a; intro a E
        refine list_pure E rfl rfl (by decide) (rn_add E rfl rfl rfl (by first | exact wa_lit (y := 1) (by omega) | exact w_in (by omega) | exact w_inu (by omega) | exact rfl)) ?_; clear E a; intro a E
        refine list_pure E rfl rfl (by decide) (rn_move E rfl rfl) ?_; clear E a; intro a E
        refine list_call E rfl rfl (by decide) rfl Try.func38 rfl (by kernel_rfl) rfl (rgput_ret p l _ A k (k + 1) [⟨(l[k]'hkl).at_, x.at_ - (l[k]'hkl).at_⟩] _ _ _ hA0 hlen (by omega) (by omega) (by simp) _ hw.symm hM (S.hp.sel (sel_cons (by repeat (first | exact pk1 | apply pick_tail)) (sel_cons (by repeat (first | exact pk1 | apply pick_tail)) (sel_nil _))))) ?_
        rintro v61 w hput; clear E a; intro a E
        obtain ⟨he0, he1⟩ := rem_end hh
        rcases hput with ⟨h4, rfl, hT⟩ | ⟨h4, rfl, A', hA', hT⟩
        · skip
          have S := S.call2 (sel_cons (by repeat (first | exact pk1 | apply pick_tail)) (sel_cons (by repeat (first | exact pk1 | apply pick_tail)) (sel_nil _))) hT; obtain ⟨he2, he3⟩ := he0 h4
          refine list_pure E rfl rfl (by decide) (rn_assign E rfl rfl) ?_; clear E a; intro a E
          refine wpList_nil ?_
          refine then_k hK ?_; clear hK; clear K
          refine wp_seq_k ?_; intro K hK
          replace E := E.keep (e' := [(0, _), (3, _), (4, _), (8, _)]) (keep_cons rfl (keep_cons rfl (keep_cons rfl (keep_cons rfl (keep_nil)))))
          refine region_list ?_
          refine list_pure E rfl rfl (by decide) (rn_move E rfl rfl) ?_; clear E a; intro a E
          refine list_pure E rfl rfl (by decide) (by first | exact rn_neq E rfl rfl rfl | exact rn_neq_ptr_nil E rfl rfl rfl rfl | exact rn_neq_bool E rfl rfl rfl rfl | exact rn_neq_string E rfl rfl rfl) ?_; clear E a; intro a E
          refine wpList_nil ?_
          refine then_k hK ?_; clear hK; clear K
          refine if_true' E rfl (rfl) ?_
          refine wp_seq_k ?_; intro K hK
          refine region_list ?_
          refine list_pure E rfl rfl (by decide) (rn_move E rfl rfl) ?_; clear E a; intro a E
          refine list_pure E rfl rfl (by decide) (rn_assign E rfl rfl) ?_; clear E a; intro a E
          refine wpList_nil ?_
          refine then_k hK ?_; clear hK; clear K
          refine wp_ret ?_
          refine then_ret ?_; clear hK; clear K
          refine ret1 E rfl rfl ?_
          exact ⟨_, rfl, by rw [he2], A, by rw [he3]; exact hA0, (S.only (Bs := [A]) (sel_cons (by repeat (first | exact pk1 | apply pick_tail)) (sel_nil _))).tr⟩
        · skip
          have S := S.call2 (sel_cons (by repeat (first | exact pk1 | apply pick_tail)) (sel_cons (by repeat (first | exact pk1 | apply pick_tail)) (sel_nil _))) hT; obtain ⟨he2, he3⟩ := he1 h4
          refine list_pure E rfl rfl (by decide) (rn_assign E rfl rfl) ?_; clear E a; intro a E
          refine wpList_nil ?_
          refine then_k hK ?_; clear hK; clear K
          refine wp_seq_k ?_; intro K hK
          replace E := E.keep (e' := [(0, _), (3, _), (4, _), (8, _)]) (keep_cons rfl (keep_cons rfl (keep_cons rfl (keep_cons rfl (keep_nil)))))
          refine region_list ?_
          refine list_pure E rfl rfl (by decide) (rn_move E rfl rfl) ?_; clear E a; intro a E
          refine list_pure E rfl rfl (by decide) (by first | exact rn_neq E rfl rfl rfl | exact rn_neq_ptr_nil E rfl rfl rfl rfl | exact rn_neq_bool E rfl rfl rfl rfl | exact rn_neq_string E rfl rfl rfl) ?_; clear E a; intro a E
          refine wpList_nil ?_
          refine then_k hK ?_; clear hK; clear K
          refine if_false' E rfl (rfl) ?_
          refine wp_skip ?_
          refine then_k hK ?_; clear hK; clear K
          refine wp_seq_k ?_; intro K hK
          obtain ⟨ad5, c5, C5, hAe5, hB5⟩ := hA'.open
          have S := S.openP (by repeat (first | exact pk1 | apply pick_tail)) hAe5
          refine region_mix0 S (.ofL [(0, 0), (1, 0), (2, 0), (3, 0), (4, 0), (5, 0), (6, 0), (7, 0), (8, 0), (9, 3)]) (by kernel_rfl) (by kernel_rfl) ?_
          clear S; intro w S
          refine mix_pure E rfl rfl rfl (by decide) (fun w h => rn_move E rfl rfl) ?_; clear E a; intro a E
          refine mix_pure E rfl rfl rfl (by decide) (fun w h => rn_nilCheck E rfl rfl) ?_; clear E a; intro a E
          refine mix_pure E rfl rfl rfl (by decide) (fun w h => by first | exact rn_fieldAddr0 (q := 1) E rfl rfl rfl | exact rn_fieldAddr (q := 1) E rfl rfl rfl) ?_; clear E a; intro a E
          refine mix_pure E rfl rfl rfl (by decide) (fun w h => by first | exact rn_load E rfl rfl rfl (h.one (by repeat (first | exact mm1 | assumption | apply List.Mem.tail))) rfl | exact rn_loadc E rfl rfl rfl (by assumption)) ?_; clear E a; intro a E
          refine mix_pure E rfl rfl rfl (by decide) (fun w h => by first | exact rn_fieldAddr0 (q := 1) E rfl rfl rfl | exact rn_fieldAddr (q := 1) E rfl rfl rfl) ?_; clear E a; intro a E
          refine mix_pure E rfl rfl rfl (by decide) (fun w h => by first | exact rn_load E rfl rfl rfl (h.one (by repeat (first | exact mm1 | assumption | apply List.Mem.tail))) rfl | exact rn_loadc E rfl rfl rfl (by assumption)) ?_; clear E a; intro a E
          refine mix_pure E rfl rfl rfl (by decide) (fun w h => rn_sub E rfl rfl rfl (by first | exact ws1 (by omega) (by omega) | exact w_in (by omega) | exact w_inu (by omega) | exact rfl)) ?_; clear E a; intro a E
          refine mix_pure E rfl rfl rfl (by decide) (fun w h => rn_nilCheck E rfl rfl) ?_; clear E a; intro a E
          refine mix_pure E rfl rfl rfl (by decide) (fun w h => by first | exact rn_fieldAddr0 (q := 1) E rfl rfl rfl | exact rn_fieldAddr (q := 1) E rfl rfl rfl) ?_; clear E a; intro a E
          refine mix_last rfl rfl (wp_store1 E S rfl rfl rfl rfl rfl rfl (by repeat (first | exact pk1 | apply pick_tail)) (by first | exact Nat.le_of_ble_eq_true rfl | (simp; done) | (simp; omega)) ?_); clear E S a; intro a w E S; try dsimp only [List.set] at S
          refine mix_nil ?_
          refine then_k hK ?_; clear hK; clear K
          refine wp_seq_k ?_; intro K hK
          refine region_list ?_
          refine list_pure E rfl rfl (by decide) (rn_assign E rfl rfl) ?_; clear E a; intro a E
          refine wpList_nil ?_
          refine then_k hK ?_; clear hK; clear K
          refine wp_ret ?_
          refine ret1 E rfl rfl ?_
          have hS : SetC p (remS l x) (manyL (remS l x)) ([(p, cel [.slice ad5 (remL l x).length c5, .int .i64 (manyL l - x.many)] 69)] ++ C5) := by
            rw [remS_many hG.gd he2, he3]; exact ⟨_, _, rfl, hB5⟩
          exact ⟨_, rfl, by rw [he2], _, hS, (S.closeP (by repeat (first | exact pk1 | apply pick_tail)) (by repeat (first | exact pk1 | apply pick_tail)) rfl).back⟩
    · replace hb := Nrm.nrm hb
      have hby : ¬ l[k].at_ < x.at_ := hb
      refine wp_skip ?_
      refine then_k hK ?_; clear hK; clear K
      refine wp_seq_k ?_; intro K hK
      refine wp_seq_k ?_; intro K hK
      replace E := E.keep (e' := [(0, _), (3, _), (4, _), (5, _), (6, _), (7, _)]) (keep_cons rfl (keep_cons rfl (keep_cons rfl (keep_cons rfl (keep_cons rfl (keep_cons rfl (keep_nil)))))))
      refine region_mix0 S (.ofL [(0, 0), (2, 0), (1, 1), (3, 3), (4, 2)]) (by kernel_rfl) (by kernel_rfl) ?_
      clear S; intro w S
      refine mix_pure E rfl rfl rfl (by decide) (fun w h => rn_load_blk (vs := [_, _]) E rfl rfl rfl (h.one (by repeat (first | exact mm1 | assumption | apply List.Mem.tail))) rfl rfl) ?_; clear E a; intro a E
      refine mix_pure E rfl rfl rfl (by decide) (fun w h => rn_load_blk (vs := [_, _]) E rfl rfl rfl (h.one (by repeat (first | exact mm1 | assumption | apply List.Mem.tail))) rfl rfl) ?_; clear E a; intro a E
      refine mix_call E rfl rfl rfl (by decide) rfl Try.func37 rfl (by kernel_rfl) rfl (end_ret (l[k]'hkl) (by omega) _) ?_
      rintro v41 w ⟨rfl, hT⟩; clear E a; intro a E
      have S := S.quiet hT
      refine ⟨S.stab.sub (by first | (simp; done) | (simp +contextual; done) | (simp [*]; done)), ?_⟩
      refine mix_call3 E rfl rfl rfl (by decide) rfl Try.func37 rfl (by kernel_rfl) rfl (end_ret x (by omega) _) ?_
      rintro v43 w ⟨rfl, hT⟩; clear E a; intro a E
      have S := S.quiet hT
      refine mix_free E rfl rfl rfl (by decide) (fun w => rn_gtr E rfl rfl rfl) ?_; clear E a; intro a E
      refine mix_nil ?_
      refine then_k hK ?_; clear hK; clear K
      refine if_bool E rfl (fun hb => ?_) (fun hb => ?_)
      · replace hb := Nrm.nrm hb
        have hbx : x.fin < (l[k]'hkl).fin := hb
        have S := S.addNil
        refine region_mix0 S (.ofL [(0, 0), (1, 0), (3, 0), (5, 0), (2, 1), (4, 1), (6, 1), (7, 0), (8, 0), (9, 1), (10, 3), (11, 2)]) (by kernel_rfl) (by kernel_rfl) ?_
        clear S; intro w S
        refine mix_pure E rfl rfl rfl (by decide) (fun w h => rn_move E rfl rfl) ?_; clear E a; intro a E
        refine mix_pure E rfl rfl rfl (by decide) (fun w h => rn_load_blk (vs := [_, _]) E rfl rfl rfl (h.one (by repeat (first | exact mm1 | assumption | apply List.Mem.tail))) rfl rfl) ?_; clear E a; intro a E
        refine mix_pure E rfl rfl rfl (by decide) (fun w h => rn_load_blk (vs := [_, _]) E rfl rfl rfl (h.one (by repeat (first | exact mm1 | assumption | apply List.Mem.tail))) rfl rfl) ?_; clear E a; intro a E
        refine mix_pure E rfl rfl rfl (by decide) (fun w h => rn_load_blk (vs := [_, _]) E rfl rfl rfl (h.one (by repeat (first | exact mm1 | assumption | apply List.Mem.tail))) rfl rfl) ?_; clear E a; intro a E
        refine mix_call E rfl rfl rfl (by decide) rfl Try.func37 rfl (by kernel_rfl) rfl (end_ret x (by omega) _) ?_
        rintro v47 w ⟨rfl, hT⟩; clear E a; intro a E
        have S := S.quiet hT
        refine ⟨S.stab.sub (by first | (simp; done) | (simp +contextual; done) | (simp [*]; done)), ?_⟩
        refine mix_call E rfl rfl rfl (by decide) rfl Try.func37 rfl (by kernel_rfl) rfl (end_ret (l[k]'hkl) (by omega) _) ?_
        rintro v49 w ⟨rfl, hT⟩; clear E a; intro a E
        have S := S.quiet hT
        refine ⟨S.stab.sub (by first | (simp; done) | (simp +contextual; done) | (simp [*]; done)), ?_⟩
        refine mix_call E rfl rfl rfl (by decide) rfl Try.func37 rfl (by kernel_rfl) rfl (end_ret x (by omega) _) ?_
        rintro v51 w ⟨rfl, hT⟩; clear E a; intro a E
        have S := S.quiet hT
        refine ⟨S.stab.sub (by first | (simp; done) | (simp +contextual; done) | (simp [*]; done)), ?_⟩
        refine mix_pure E rfl rfl rfl (by decide) (fun w h => rn_sub E rfl rfl rfl (w_in (by simp only [Sp.fin] at *; omega))) ?_; clear E a; intro a E
        refine mix_pure E rfl rfl rfl (by decide) (fun w h => rn_build (cells := [_, _]) E rfl rfl rfl) ?_; clear E a; intro a E
        refine mix_act rfl rfl (wp_bslice (cells := [_, _]) E S rfl rfl (by decide) rfl rfl rfl rfl rfl (by decide) rfl ?_); clear E S a; intro a w b54 E S; refine ⟨S.stab.sub (by first | (simp; done) | (simp +contextual; done) | (simp [*]; done)), ?_⟩
        refine mix_last rfl rfl (wp_append (by' := 16) E S rfl rfl (by decide) rfl rfl (Buf.nil _ _) (by repeat (first | exact pk1 | apply pick_tail)) ((rd1 _ _ _ _).src (S.stab.at (by repeat (first | exact mm1 | assumption | apply List.Mem.tail))) rfl) rfl rfl rfl rfl rfl rfl (by simp only [maxLen]; omega) (by omega) ?_); clear E S a; intro a w v55 C55 E S hB55
        refine mix_free E rfl rfl rfl (by decide) (fun w => rn_assign E rfl rfl) ?_; clear E a; intro a E
        refine mix_nil ?_
        refine then_k hK ?_; clear hK; clear K
        refine wp_seq_k ?_; intro K hK
        refine wp_seq_k ?_; intro K hK
        have S := S.closeP (by repeat (first | exact pk1 | apply pick_tail)) (by repeat (first | exact pk1 | apply pick_tail)) hAe
        have hM := hB55.rd
        have hw : l.take k ++ [⟨x.fin, (l[k]'hkl).fin - x.fin⟩] ++ l.drop (k + 1) = remL l x := by rw [hcr, hpi]; simp [hby, hbx]
        refine region_list ?_
        refine list_pure E rfl rfl (by decide) (rn_move E rfl rfl) ?_; clear E a; intro a E
        refine list_pure E rfl rfl (by decide) (rn_move E rfl rfl) ?_; clear E a; intro a E
        refine list_pure E rfl rfl (by decide) (rn_move E rfl rfl) ?_; clear E a; intro a E
        refine list_pure E rfl rfl (by decide) (rn_add E rfl rfl rfl (by first | exact wa_lit (y := 1) (by omega) | exact w_in (by omega) | exact w_inu (by omega) | exact rfl)) ?_; clear E a; intro a E
        refine list_pure E rfl rfl (by decide) (rn_move E rfl rfl) ?_; clear E a; intro a E
        refine list_call E rfl rfl (by decide) rfl Try.func38 rfl (by kernel_rfl) rfl (rgput_ret p l _ A k (k + 1) [⟨x.fin, (l[k]'hkl).fin - x.fin⟩] _ _ _ hA0 hlen (by omega) (by omega) (by simp) _ hw.symm hM (S.hp.sel (sel_cons (by repeat (first | exact pk1 | apply pick_tail)) (sel_cons (by repeat (first | exact pk1 | apply pick_tail)) (sel_nil _))))) ?_
        rintro v61 w hput; clear E a; intro a E
        obtain ⟨he0, he1⟩ := rem_end hh
        rcases hput with ⟨h4, rfl, hT⟩ | ⟨h4, rfl, A', hA', hT⟩
        · skip
          have S := S.call2 (sel_cons (by repeat (first | exact pk1 | apply pick_tail)) (sel_cons (by repeat (first | exact pk1 | apply pick_tail)) (sel_nil _))) hT; obtain ⟨he2, he3⟩ := he0 h4
          refine list_pure E rfl rfl (by decide) (rn_assign E rfl rfl) ?_; clear E a; intro a E
          refine wpList_nil ?_
          refine then_k hK ?_; clear hK; clear K
          refine wp_seq_k ?_; intro K hK
          replace E := E.keep (e' := [(0, _), (3, _), (4, _), (8, _)]) (keep_cons rfl (keep_cons rfl (keep_cons rfl (keep_cons rfl (keep_nil)))))
          refine region_list ?_
          refine list_pure E rfl rfl (by decide) (rn_move E rfl rfl) ?_; clear E a; intro a E
          refine list_pure E rfl rfl (by decide) (by first | exact rn_neq E rfl rfl rfl | exact rn_neq_ptr_nil E rfl rfl rfl rfl | exact rn_neq_bool E rfl rfl rfl rfl | exact rn_neq_string E rfl rfl rfl) ?_; clear E a; intro a E
          refine wpList_nil ?_
          refine then_k hK ?_; clear hK; clear K
          refine if_true' E rfl (rfl) ?_
          refine wp_seq_k ?_; intro K hK
          refine region_list ?_
          refine list_pure E rfl rfl (by decide) (rn_move E rfl rfl) ?_; clear E a; intro a E
          refine list_pure E rfl rfl (by decide) (rn_assign E rfl rfl) ?_; clear E a; intro a E
          refine wpList_nil ?_
          refine then_k hK ?_; clear hK; clear K
          refine wp_ret ?_
          refine then_ret ?_; clear hK; clear K
          refine ret1 E rfl rfl ?_
          exact ⟨_, rfl, by rw [he2], A, by rw [he3]; exact hA0, (S.only (Bs := [A]) (sel_cons (by repeat (first | exact pk1 | apply pick_tail)) (sel_nil _))).tr⟩
        · skip
          have S := S.call2 (sel_cons (by repeat (first | exact pk1 | apply pick_tail)) (sel_cons (by repeat (first | exact pk1 | apply pick_tail)) (sel_nil _))) hT; obtain ⟨he2, he3⟩ := he1 h4
          refine list_pure E rfl rfl (by decide) (rn_assign E rfl rfl) ?_; clear E a; intro a E
          refine wpList_nil ?_
          refine then_k hK ?_; clear hK; clear K
          refine wp_seq_k ?_; intro K hK
          replace E := E.keep (e' := [(0, _), (3, _), (4, _), (8, _)]) (keep_cons rfl (keep_cons rfl (keep_cons rfl (keep_cons rfl (keep_nil)))))
          refine region_list ?_
          refine list_pure E rfl rfl (by decide) (rn_move E rfl rfl) ?_; clear E a; intro a E
          refine list_pure E rfl rfl (by decide) (by first | exact rn_neq E rfl rfl rfl | exact rn_neq_ptr_nil E rfl rfl rfl rfl | exact rn_neq_bool E rfl rfl rfl rfl | exact rn_neq_string E rfl rfl rfl) ?_; clear E a; intro a E
          refine wpList_nil ?_
          refine then_k hK ?_; clear hK; clear K
          refine if_false' E rfl (rfl) ?_
          refine wp_skip ?_
          refine then_k hK ?_; clear hK; clear K
          refine wp_seq_k ?_; intro K hK
          obtain ⟨ad5, c5, C5, hAe5, hB5⟩ := hA'.open
          have S := S.openP (by repeat (first | exact pk1 | apply pick_tail)) hAe5
          refine region_mix0 S (.ofL [(0, 0), (1, 0), (2, 0), (3, 0), (4, 0), (5, 0), (6, 0), (7, 0), (8, 0), (9, 3)]) (by kernel_rfl) (by kernel_rfl) ?_
          clear S; intro w S
          refine mix_pure E rfl rfl rfl (by decide) (fun w h => rn_move E rfl rfl) ?_; clear E a; intro a E
          refine mix_pure E rfl rfl rfl (by decide) (fun w h => rn_nilCheck E rfl rfl) ?_; clear E a; intro a E
          refine mix_pure E rfl rfl rfl (by decide) (fun w h => by first | exact rn_fieldAddr0 (q := 1) E rfl rfl rfl | exact rn_fieldAddr (q := 1) E rfl rfl rfl) ?_; clear E a; intro a E
          refine mix_pure E rfl rfl rfl (by decide) (fun w h => by first | exact rn_load E rfl rfl rfl (h.one (by repeat (first | exact mm1 | assumption | apply List.Mem.tail))) rfl | exact rn_loadc E rfl rfl rfl (by assumption)) ?_; clear E a; intro a E
          refine mix_pure E rfl rfl rfl (by decide) (fun w h => by first | exact rn_fieldAddr0 (q := 1) E rfl rfl rfl | exact rn_fieldAddr (q := 1) E rfl rfl rfl) ?_; clear E a; intro a E
          refine mix_pure E rfl rfl rfl (by decide) (fun w h => by first | exact rn_load E rfl rfl rfl (h.one (by repeat (first | exact mm1 | assumption | apply List.Mem.tail))) rfl | exact rn_loadc E rfl rfl rfl (by assumption)) ?_; clear E a; intro a E
          refine mix_pure E rfl rfl rfl (by decide) (fun w h => rn_sub E rfl rfl rfl (by first | exact ws1 (by omega) (by omega) | exact w_in (by omega) | exact w_inu (by omega) | exact rfl)) ?_; clear E a; intro a E
          refine mix_pure E rfl rfl rfl (by decide) (fun w h => rn_nilCheck E rfl rfl) ?_; clear E a; intro a E
          refine mix_pure E rfl rfl rfl (by decide) (fun w h => by first | exact rn_fieldAddr0 (q := 1) E rfl rfl rfl | exact rn_fieldAddr (q := 1) E rfl rfl rfl) ?_; clear E a; intro a E
          refine mix_last rfl rfl (wp_store1 E S rfl rfl rfl rfl rfl rfl (by repeat (first | exact pk1 | apply pick_tail)) (by first | exact Nat.le_of_ble_eq_true rfl | (simp; done) | (simp; omega)) ?_); clear E S a; intro a w E S; try dsimp only [List.set] at S
          refine mix_nil ?_
          refine then_k hK ?_; clear hK; clear K
          refine wp_seq_k ?_; intro K hK
          refine region_list ?_
          refine list_pure E rfl rfl (by decide) (rn_assign E rfl rfl) ?_; clear E a; intro a E
          refine wpList_nil ?_
          refine then_k hK ?_; clear hK; clear K
          refine wp_ret ?_
          refine ret1 E rfl rfl ?_
          have hS : SetC p (remS l x) (manyL (remS l x)) ([(p, cel [.slice ad5 (remL l x).length c5, .int .i64 (manyL l - x.many)] 69)] ++ C5) := by
            rw [remS_many hG.gd he2, he3]; exact ⟨_, _, rfl, hB5⟩
          exact ⟨_, rfl, by rw [he2], _, hS, (S.closeP (by repeat (first | exact pk1 | apply pick_tail)) (by repeat (first | exact pk1 | apply pick_tail)) rfl).back⟩
      · replace hb := Nrm.nrm hb
        have hbx : ¬ x.fin < (l[k]'hkl).fin := hb
        refine wp_skip ?_
        refine then_k hK ?_; clear hK; clear K
        refine wp_seq_k ?_; intro K hK
        refine wp_seq_k ?_; intro K hK
        have S := S.closeP (by repeat (first | exact pk1 | apply pick_tail)) (by repeat (first | exact pk1 | apply pick_tail)) hAe
        have hM := Rd.nil [] 2; have S := S.addNil
        have hw : l.take k ++ [] ++ l.drop (k + 1) = remL l x := by rw [hcr, hpi]; simp [hby, hbx]
        refine region_list ?_
        refine list_pure E rfl rfl (by decide) (rn_move E rfl rfl) ?_; clear E a; intro a E
        refine list_pure E rfl rfl (by decide) (rn_move E rfl rfl) ?_; clear E a; intro a E
        refine list_pure E rfl rfl (by decide) (rn_move E rfl rfl) ?_; clear E a; intro a E
        refine list_pure E rfl rfl (by decide) (rn_add E rfl rfl rfl (by first | exact wa_lit (y := 1) (by omega) | exact w_in (by omega) | exact w_inu (by omega) | exact rfl)) ?_; clear E a; intro a E
        refine list_pure E rfl rfl (by decide) (rn_move E rfl rfl) ?_; clear E a; intro a E
        refine list_call E rfl rfl (by decide) rfl Try.func38 rfl (by kernel_rfl) rfl (rgput_ret p l _ A k (k + 1) [] _ _ _ hA0 hlen (by omega) (by omega) (by simp) _ hw.symm hM (S.hp.sel (sel_cons (by repeat (first | exact pk1 | apply pick_tail)) (sel_cons (by repeat (first | exact pk1 | apply pick_tail)) (sel_nil _))))) ?_
        rintro v61 w hput; clear E a; intro a E
        obtain ⟨he0, he1⟩ := rem_end hh
        rcases hput with ⟨h4, rfl, hT⟩ | ⟨h4, rfl, A', hA', hT⟩
        · skip
          have S := S.call2 (sel_cons (by repeat (first | exact pk1 | apply pick_tail)) (sel_cons (by repeat (first | exact pk1 | apply pick_tail)) (sel_nil _))) hT; obtain ⟨he2, he3⟩ := he0 h4
          refine list_pure E rfl rfl (by decide) (rn_assign E rfl rfl) ?_; clear E a; intro a E
          refine wpList_nil ?_
          refine then_k hK ?_; clear hK; clear K
          refine wp_seq_k ?_; intro K hK
          refine region_list ?_
          refine list_pure E rfl rfl (by decide) (rn_move E rfl rfl) ?_; clear E a; intro a E
          refine list_pure E rfl rfl (by decide) (by first | exact rn_neq E rfl rfl rfl | exact rn_neq_ptr_nil E rfl rfl rfl rfl | exact rn_neq_bool E rfl rfl rfl rfl | exact rn_neq_string E rfl rfl rfl) ?_; clear E a; intro a E
          refine wpList_nil ?_
          refine then_k hK ?_; clear hK; clear K
          refine if_true' E rfl (rfl) ?_
          refine wp_seq_k ?_; intro K hK
          refine region_list ?_
          refine list_pure E rfl rfl (by decide) (rn_move E rfl rfl) ?_; clear E a; intro a E
          refine list_pure E rfl rfl (by decide) (rn_assign E rfl rfl) ?_; clear E a; intro a E
          refine wpList_nil ?_
          refine then_k hK ?_; clear hK; clear K
          refine wp_ret ?_
          refine then_ret ?_; clear hK; clear K
          refine ret1 E rfl rfl ?_
          exact ⟨_, rfl, by rw [he2], A, by rw [he3]; exact hA0, (S.only (Bs := [A]) (sel_cons (by repeat (first | exact pk1 | apply pick_tail)) (sel_nil _))).tr⟩
        · skip
          have S := S.call2 (sel_cons (by repeat (first | exact pk1 | apply pick_tail)) (sel_cons (by repeat (first | exact pk1 | apply pick_tail)) (sel_nil _))) hT; obtain ⟨he2, he3⟩ := he1 h4
          refine list_pure E rfl rfl (by decide) (rn_assign E rfl rfl) ?_; clear E a; intro a E
          refine wpList_nil ?_
          refine then_k hK ?_; clear hK; clear K
          refine wp_seq_k ?_; intro K hK
          refine region_list ?_
          refine list_pure E rfl rfl (by decide) (rn_move E rfl rfl) ?_; clear E a; intro a E
          refine list_pure E rfl rfl (by decide) (by first | exact rn_neq E rfl rfl rfl | exact rn_neq_ptr_nil E rfl rfl rfl rfl | exact rn_neq_bool E rfl rfl rfl rfl | exact rn_neq_string E rfl rfl rfl) ?_; clear E a; intro a E
          refine wpList_nil ?_
          refine then_k hK ?_; clear hK; clear K
          refine if_false' E rfl (rfl) ?_
          refine wp_skip ?_
          refine then_k hK ?_; clear hK; clear K
          refine wp_seq_k ?_; intro K hK
          obtain ⟨ad5, c5, C5, hAe5, hB5⟩ := hA'.open
          have S := S.openP (by repeat (first | exact pk1 | apply pick_tail)) hAe5
          refine region_mix0 S (.ofL [(0, 0), (1, 0), (2, 0), (3, 0), (4, 0), (5, 0), (6, 0), (7, 0), (8, 0), (9, 3)]) (by kernel_rfl) (by kernel_rfl) ?_
          clear S; intro w S
          refine mix_pure E rfl rfl rfl (by decide) (fun w h => rn_move E rfl rfl) ?_; clear E a; intro a E
          refine mix_pure E rfl rfl rfl (by decide) (fun w h => rn_nilCheck E rfl rfl) ?_; clear E a; intro a E
          refine mix_pure E rfl rfl rfl (by decide) (fun w h => by first | exact rn_fieldAddr0 (q := 1) E rfl rfl rfl | exact rn_fieldAddr (q := 1) E rfl rfl rfl) ?_; clear E a; intro a E
          refine mix_pure E rfl rfl rfl (by decide) (fun w h => by first | exact rn_load E rfl rfl rfl (h.one (by repeat (first | exact mm1 | assumption | apply List.Mem.tail))) rfl | exact rn_loadc E rfl rfl rfl (by assumption)) ?_; clear E a; intro a E
          refine mix_pure E rfl rfl rfl (by decide) (fun w h => by first | exact rn_fieldAddr0 (q := 1) E rfl rfl rfl | exact rn_fieldAddr (q := 1) E rfl rfl rfl) ?_; clear E a; intro a E
          refine mix_pure E rfl rfl rfl (by decide) (fun w h => by first | exact rn_load E rfl rfl rfl (h.one (by repeat (first | exact mm1 | assumption | apply List.Mem.tail))) rfl | exact rn_loadc E rfl rfl rfl (by assumption)) ?_; clear E a; intro a E
          refine mix_pure E rfl rfl rfl (by decide) (fun w h => rn_sub E rfl rfl rfl (by first | exact ws1 (by omega) (by omega) | exact w_in (by omega) | exact w_inu (by omega) | exact rfl)) ?_; clear E a; intro a E
          refine mix_pure E rfl rfl rfl (by decide) (fun w h => rn_nilCheck E rfl rfl) ?_; clear E a; intro a E
          refine mix_pure E rfl rfl rfl (by decide) (fun w h => by first | exact rn_fieldAddr0 (q := 1) E rfl rfl rfl | exact rn_fieldAddr (q := 1) E rfl rfl rfl) ?_; clear E a; intro a E
          refine mix_last rfl rfl (wp_store1 E S rfl rfl rfl rfl rfl rfl (by repeat (first | exact pk1 | apply pick_tail)) (by first | exact Nat.le_of_ble_eq_true rfl | (simp; done) | (simp; omega)) ?_); clear E S a; intro a w E S; try dsimp only [List.set] at S
          refine mix_nil ?_
          refine then_k hK ?_; clear hK; clear K
          refine wp_seq_k ?_; intro K hK
          replace E := E.keep (e' := [(4, _)]) (keep_cons rfl (keep_nil))
          refine region_list ?_
          refine list_pure E rfl rfl (by decide) (rn_assign E rfl rfl) ?_; clear E a; intro a E
          refine wpList_nil ?_
          refine then_k hK ?_; clear hK; clear K
          refine wp_ret ?_
          refine ret1 E rfl rfl ?_
          have hS : SetC p (remS l x) (manyL (remS l x)) ([(p, cel [.slice ad5 (remL l x).length c5, .int .i64 (manyL l - x.many)] 69)] ++ C5) := by
            rw [remS_many hG.gd he2, he3]; exact ⟨_, _, rfl, hB5⟩
          exact ⟨_, rfl, by rw [he2], _, hS, (S.closeP (by repeat (first | exact pk1 | apply pick_tail)) (by repeat (first | exact pk1 | apply pick_tail)) rfl).back⟩

theorem find_ret (p : Nat) (l : List Sp) (mn n f : Int) (A : Chunk) (w0 : World) (hA : SetC p l mn A) (hG : Okl l) (hn : n ≤ 9223372036854775807) (hf : f ≤ 9223372036854775807) (H : Hp w0 [A]) :
    Ret Try.prog 30 #[ptr p, .int .i64 n, .int .i64 f] w0 fun u w' => u = .tuple #[.int .i64 (findL l n f).1, .bool (findL l n f).2] ∧ Trs w0 w' [A] [A] := by
  have S := St.begin H
  have hA0 := hA
  obtain ⟨ad, c, C, hAe, hB⟩ := hA.open
  have hlen := hG.len
  refine enter3 42 Try.func30 rfl rfl (by decide) ?_; intro a E
  refine wp_seq_k ?_; intro K hK
  refine region_list ?_
  refine list_pure E rfl rfl (by decide) (rn_assign E rfl rfl) ?_; clear E a; intro a E
  refine list_pure E rfl rfl (by decide) (rn_assign E rfl rfl) ?_; clear E a; intro a E
  refine wpList_nil ?_
  refine then_k hK ?_; clear hK; clear K
  refine wp_seq_k ?_; intro K hK
  refine wp_seq_k ?_; intro K hK
  refine region_list ?_
  refine list_pure E rfl rfl (by decide) (rn_move E rfl rfl) ?_; clear E a; intro a E
  refine list_pure E rfl rfl (by decide) (rn_lss E rfl rfl rfl) ?_; clear E a; intro a E
  refine list_pure E rfl rfl (by decide) (rn_move E rfl rfl) ?_; clear E a; intro a E
  refine guard_split E (t := 13) rfl (fun hb13 => ?_) (fun hb13 => ?_)
  · have hb13n := hb13; replace hb13n := Nrm.nrm hb13n
    skip
    refine list_guard_no E rfl rfl rfl rfl hb13 rfl (by decide) ?_; clear E a; intro a E
    refine list_guard_no E rfl rfl rfl rfl hb13 rfl (by decide) ?_; clear E a; intro a E
    refine list_pure E rfl rfl (by decide) (rn_pick_yes' E rfl rfl hb13 rfl) ?_; clear E a; intro a E
    refine wpList_nil ?_
    refine then_k hK ?_; clear hK; clear K
    refine if_true' E rfl rfl ?_
    refine wp_seq_k ?_; intro K hK
    refine region_list ?_
    refine list_pure E rfl rfl (by decide) (rn_assign E rfl rfl) ?_; clear E a; intro a E
    refine list_pure E rfl rfl (by decide) (rn_assign E rfl rfl) ?_; clear E a; intro a E
    refine wpList_nil ?_
    refine then_k hK ?_; clear hK; clear K
    refine wp_ret ?_
    refine then_ret ?_; clear hK; clear K
    refine ret2 E rfl rfl rfl ?_
    exact ⟨_, rfl, by simp [findL, hb13n], (S.only (Bs := [A]) (sel_cons (by repeat (first | exact pk1 | apply pick_tail)) (sel_nil _))).tr⟩
  · have hb13n := hb13; replace hb13n := Nrm.nrm hb13n
    skip
    refine list_guard_yes E rfl rfl rfl rfl hb13 rfl (by decide) (rn_move E rfl rfl) ?_; clear E a; intro a E
    refine list_guard_yes E rfl rfl rfl rfl hb13 rfl (by decide) (rn_lss E rfl rfl rfl) ?_; clear E a; intro a E
    refine list_pure E rfl rfl (by decide) (rn_pick_no' E rfl rfl hb13 rfl) ?_; clear E a; intro a E
    refine wpList_nil ?_
    refine then_k hK ?_; clear hK; clear K
    refine if_bool E rfl (fun hb => ?_) (fun hb => ?_)
    · replace hb := Nrm.nrm hb
      refine wp_seq_k ?_; intro K hK
      refine region_list ?_
      refine list_pure E rfl rfl (by decide) (rn_assign E rfl rfl) ?_; clear E a; intro a E
      refine list_pure E rfl rfl (by decide) (rn_assign E rfl rfl) ?_; clear E a; intro a E
      refine wpList_nil ?_
      refine then_k hK ?_; clear hK; clear K
      refine wp_ret ?_
      refine then_ret ?_; clear hK; clear K
      refine ret2 E rfl rfl rfl ?_
      exact ⟨_, rfl, by simp [findL, hb], (S.only (Bs := [A]) (sel_cons (by repeat (first | exact pk1 | apply pick_tail)) (sel_nil _))).tr⟩
    · replace hb := Nrm.nrm hb
      refine wp_skip ?_
      refine then_k hK ?_; clear hK; clear K
      refine wp_seq_k ?_; intro K hK
      refine wp_seq_k ?_; intro K hK
      have S := S.openE hAe
      refine region_mix0 S (.ofL [(0, 0), (1, 0), (2, 0), (3, 0), (4, 0), (5, 0), (9, 0), (6, 1), (7, 0), (8, 0)]) (by kernel_rfl) (by kernel_rfl) ?_
      clear S; intro w S
      refine mix_pure E rfl rfl rfl (by decide) (fun w h => rn_move E rfl rfl) ?_; clear E a; intro a E
      refine mix_pure E rfl rfl rfl (by decide) (fun w h => rn_nilCheck E rfl rfl) ?_; clear E a; intro a E
      refine mix_pure E rfl rfl rfl (by decide) (fun w h => by first | exact rn_fieldAddr0 (q := 0) E rfl rfl rfl | exact rn_fieldAddr (q := 0) E rfl rfl rfl) ?_; clear E a; intro a E
      refine mix_pure E rfl rfl rfl (by decide) (fun w h => by first | exact rn_load E rfl rfl rfl (h.one (by repeat (first | exact mm1 | assumption | apply List.Mem.tail))) rfl | exact rn_loadc E rfl rfl rfl (by assumption)) ?_; clear E a; intro a E
      refine mix_pure E rfl rfl rfl (by decide) (fun w h => rn_move E rfl rfl) ?_; clear E a; intro a E
      refine mix_pure E rfl rfl rfl (by decide) (fun w h => rn_move E rfl rfl) ?_; clear E a; intro a E
      refine mix_pure E rfl rfl rfl (by decide) (fun w h => rn_move E rfl rfl) ?_; clear E a; intro a E
      have S := S.closeE hAe
      refine mix_call E rfl rfl rfl (by decide) rfl Try.func36 rfl (by kernel_rfl) rfl (behind_ret p l _ f A _ hA0 hG (S.hp.sel (sel_cons (by repeat (first | exact pk1 | apply pick_tail)) (sel_nil _)))) ?_
      rintro v23 w ⟨k, rfl, hk, hT⟩; clear E a; intro a E
      have S := (S.call1 (sel_cons (by repeat (first | exact pk1 | apply pick_tail)) (sel_nil _)) hT).openE hAe; have hkl := hk.1
      refine ⟨S.stab.sub (by first | (simp; done) | (simp +contextual; done) | (simp [*]; done)), ?_⟩
      refine mix_pure E rfl rfl rfl (by decide) (fun w h => rn_slice_l (s := 2) E rfl rfl rfl rfl rfl rfl (by omega)) ?_; clear E a; intro a E
      obtain ⟨ad2, c2, hs2⟩ : ∃ ad2 c2, sliced ad k l.length c 2 = .slice ad2 (l.length - k) c2 := ⟨_, _, rfl⟩
      have hR2 := hB.rd.sp (lo := k) (hi := l.length) (mx := c) (by omega) (by omega) hB.cap_le
      rw [List.take_of_length_le (by rw [List.length_drop]; omega), hs2] at hR2
      rw [hs2] at E
      have hdl : (l.drop k).length = l.length - k := List.length_drop
      rw [← hdl] at E hR2
      have hgd := hG.gd.drop k
      refine mix_pure E rfl rfl rfl (by decide) (fun w h => by first | exact rn_len E rfl rfl rfl | exact rn_len_str E rfl rfl rfl | exact rn_len_string E rfl rfl rfl) ?_; clear E a; intro a E
      refine mix_nil ?_
      refine then_k hK ?_; clear hK; clear K
      refine wp_block ?_
      refine wp_loop_ghost (fun (m : Nat) (a : Act) (w' : World) => ∃ i : Nat, m = (l.drop k).length - i ∧ i ≤ (l.drop k).length ∧ findA (l.drop k) n f = findA ((l.drop k).drop i) n f ∧ (∃ Ls, St w0 [A] w' ([(p, cel [.slice ad l.length c, .int .i64 mn] 69)] :: C :: Ls)) ∧ Fr a 42 [(0, ptr p), (1, .int .i64 n), (2, .int .i64 f), (24, .slice ad2 (l.drop k).length c2), (25, .int .i64 (l.drop k).length), (26, .int .i64 i)]) ((l.drop k).length - 0) ?_ ?_
      · exact ⟨0, rfl, by omega, rfl, ⟨_, S⟩, E.keep (keep_cons rfl (keep_cons rfl (keep_cons rfl (keep_cons rfl (keep_cons rfl (keep_cons rfl keep_nil))))))⟩
      clear E; clear a; (try clear S); rintro m a w ⟨i, rfl, hi, hfi, ⟨Ls, S⟩, E⟩
      refine wp_seq_k ?_; intro K hK
      refine region_list ?_
      refine list_pure E rfl rfl (by decide) (rn_lss E rfl rfl rfl) ?_; clear E a; intro a E
      refine wpList_nil ?_
      refine then_k hK ?_; clear hK; clear K
      refine wp_seq_k ?_; intro K hK
      refine if_bool E rfl (fun hb => ?_) (fun hb => ?_)
      · replace hb := Nrm.nrm hb
        refine wp_skip ?_
        refine then_k hK ?_; clear hK; clear K
        refine wp_seq_k ?_; intro K hK
        refine wp_block ?_
        refine wp_seq_k ?_; intro K hK
        have hil : i < (l.drop k).length := by omega
        obtain ⟨b, off, rfl⟩ := hR2.addr (by omega)
        have hat := Sp.may_iff.1 (hgd.may _ (List.getElem_mem hil))
        have hcell := hR2.elem (lay := Sp.lay) Sp.lay_len (S.stab.at (by repeat (first | exact mm1 | assumption | apply List.Mem.tail))) hil
        rw [List.drop_eq_getElem_cons hil, findA] at hfi
        have hff : f < ((l.drop k)[i]'hil).fin := by
          have h2 := hk.2.2 (k + i) (by omega) (by omega)
          rw [List.getElem_drop]; exact h2
        refine region_list ?_
        refine list_pure E rfl rfl (by decide) (by first | exact rn_indexAddr1 E rfl rfl rfl rfl rfl rfl (by omega) | exact rn_indexAddr E rfl rfl rfl rfl rfl rfl (by omega) | exact rn_indexAddr_array E rfl rfl rfl rfl rfl rfl (by omega)) ?_; clear E a; intro a E
        refine list_pure E rfl rfl (by decide) (rn_load_aggc (vs := [_, _]) E rfl rfl rfl rfl (hcell)) ?_; clear E a; intro a E
        refine list_wp rfl (wp_alloc E S rfl rfl (by decide) rfl rfl rfl ?_); clear E S a; intro a w b9 E S
        refine list_wp rfl (wp_storeN E S rfl rfl rfl rfl (by simp [Value.oneCell']) rfl (by repeat (first | exact pk1 | apply pick_tail)) (by simp) ?_); clear E S a; intro a w E S; simp only [List.take_succ_cons, List.take_zero, List.drop_succ_cons, List.drop_zero, List.cons_append, List.nil_append, List.append_nil, List.length_cons, List.length_nil, Nat.zero_add, Nat.add_zero] at S
        refine wpList_nil ?_
        refine then_k hK ?_; clear hK; clear K
        refine wp_seq_k ?_; intro K hK
        refine region_list ?_
        refine list_pure E rfl rfl (by decide) (by first | exact rn_fieldAddr0 (q := 0) E rfl rfl rfl | exact rn_fieldAddr (q := 0) E rfl rfl rfl) ?_; clear E a; intro a E
        refine list_pure E rfl rfl (by decide) (by first | exact rn_load E rfl rfl rfl (S.get (by repeat (first | exact pk1 | apply pick_tail))) rfl | exact rn_loadc E rfl rfl rfl (by assumption)) ?_; clear E a; intro a E
        refine list_pure E rfl rfl (by decide) (rn_move E rfl rfl) ?_; clear E a; intro a E
        refine list_pure E rfl rfl (by decide) (rn_max E rfl rfl rfl) ?_; clear E a; intro a E
        refine list_pure E rfl rfl (by decide) (rn_assign E rfl rfl) ?_; clear E a; intro a E
        refine wpList_nil ?_
        refine then_k hK ?_; clear hK; clear K
        refine wp_seq_k ?_; intro K hK
        refine region_list ?_
        refine list_pure E rfl rfl (by decide) (rn_move E rfl rfl) ?_; clear E a; intro a E
        refine list_pure E rfl rfl (by decide) (rn_load_blk (vs := [_, _]) E rfl rfl rfl (S.get (by repeat (first | exact pk1 | apply pick_tail))) rfl rfl) ?_; clear E a; intro a E
        refine list_call E rfl rfl (by decide) rfl Try.func37 rfl (by kernel_rfl) rfl (end_ret ((l.drop k)[i]'hil) (by omega) _) ?_
        rintro v36 w ⟨rfl, hT⟩; clear E a; intro a E
        have S := S.quiet hT
        refine list_pure E rfl rfl (by decide) (rn_move E rfl rfl) ?_; clear E a; intro a E
        refine list_pure E rfl rfl (by decide) (rn_sub E rfl rfl rfl (w_in (by simp only [Sp.fin] at *; omega))) ?_; clear E a; intro a E
        refine list_pure E rfl rfl (by decide) (rn_leq E rfl rfl rfl) ?_; clear E a; intro a E
        refine wpList_nil ?_
        refine then_k hK ?_; clear hK; clear K
        refine if_bool E rfl (fun hb => ?_) (fun hb => ?_)
        · replace hb := Nrm.nrm hb
          refine wp_seq_k ?_; intro K hK
          refine region_list ?_
          refine list_pure E rfl rfl (by decide) (rn_move E rfl rfl) ?_; clear E a; intro a E
          refine list_pure E rfl rfl (by decide) (rn_assign E rfl rfl) ?_; clear E a; intro a E
          refine list_pure E rfl rfl (by decide) (rn_assign E rfl rfl) ?_; clear E a; intro a E
          refine wpList_nil ?_
          refine then_k hK ?_; clear hK; clear K
          refine wp_ret ?_
          refine in_ret ?_
          refine then_ret ?_; clear hK; clear K
          refine then_ret ?_
          refine in_ret ?_
          refine then_ret ?_; clear hK; clear K
          refine ret2 E rfl rfl rfl ?_
          rw [if_pos (by simp only [Sp.fin] at *; omega)] at hfi
          have hfl : findL l n f = (max ((l.drop k)[i]'hil).at_ f, true) := by
            unfold findL; rw [if_neg (by omega), findA_cut (by omega) hk, hfi]
          exact ⟨_, rfl, by rw [hfl], ((S.closeP (by repeat (first | exact pk1 | apply pick_tail)) (by repeat (first | exact pk1 | apply pick_tail)) hAe).only (Bs := [A]) (sel_cons (by repeat (first | exact pk1 | apply pick_tail)) (sel_nil _))).tr⟩
        · replace hb := Nrm.nrm hb
          refine wp_skip ?_
          refine in_normal ?_
          refine then_k hK ?_; clear hK; clear K
          refine region_list ?_
          refine list_pure E rfl rfl (by decide) (rn_add E rfl rfl rfl (by first | exact wa_lit (y := 1) (by omega) | exact w_in (by omega) | exact w_inu (by omega) | exact rfl)) ?_; clear E a; intro a E
          refine list_pure E rfl rfl (by decide) (rn_move E rfl rfl) ?_; clear E a; intro a E
          refine wpList_nil ?_
          refine then_normal ?_
          rw [if_neg (by simp only [Sp.fin] at *; omega)] at hfi
          exact ⟨_, by omega, i + 1, rfl, by omega, hfi, ⟨_, S.perm ((pick_tail (pick_head _ _)).trans ((pick_tail (pick_head _ _)).cons _))⟩, E.keep (keep_cons rfl (keep_cons rfl (keep_cons rfl (keep_cons rfl (keep_cons rfl (keep_cons rfl keep_nil))))))⟩
      · replace hb := Nrm.nrm hb
        refine wp_exit ?_
        refine then_exit ?_; clear hK; clear K
        refine then_exit ?_
        refine in_exit ?_
        refine then_k hK ?_; clear hK; clear K
        refine wp_seq_k ?_; intro K hK
        refine region_list ?_
        refine list_pure E rfl rfl (by decide) (rn_assign E rfl rfl) ?_; clear E a; intro a E
        refine list_pure E rfl rfl (by decide) (rn_assign E rfl rfl) ?_; clear E a; intro a E
        refine wpList_nil ?_
        refine then_k hK ?_; clear hK; clear K
        refine wp_ret ?_
        refine ret2 E rfl rfl rfl ?_
        obtain rfl : i = (l.drop k).length := by omega
        rw [List.drop_length, findA] at hfi
        have hfl : findL l n f = (0, false) := by
          unfold findL; rw [if_neg (by omega), findA_cut (by omega) hk, hfi]
        exact ⟨_, rfl, by rw [hfl], ((S.closeP (by repeat (first | exact pk1 | apply pick_tail)) (by repeat (first | exact pk1 | apply pick_tail)) hAe).only (Bs := [A]) (sel_cons (by repeat (first | exact pk1 | apply pick_tail)) (sel_nil _))).tr⟩
  -- unused annotation: if r1@x

theorem all_ret (p : Nat) (l : List Sp) (mn : Int) (A : Chunk) (w0 : World) (hA : SetC p l mn A) (hl : l.length ≤ 4096) (H : Hp w0 [A]) :
    Ret Try.prog 33 #[ptr p] w0 fun u w' => ∃ C, Buf C 31 2 u l.length (l.flatMap Sp.lay) ∧ Trs w0 w' [A] [A, C] := by
  have S := St.begin H
  obtain ⟨ad, c, C, hAe, hB⟩ := hA.open
  have hcap := hB.cap_le
  refine enter1 19 Try.func33 rfl rfl (by decide) ?_; intro a E
  refine wp_seq_k ?_; intro K hK
  refine region_list ?_
  refine list_pure E rfl rfl (by decide) (rn_assign E rfl rfl) ?_; clear E a; intro a E
  refine wpList_nil ?_
  refine then_k hK ?_; clear hK; clear K
  refine wp_seq_k ?_; intro K hK
  have S := S.openE hAe
  have hR2 := hB.rd.sp (lo := 0) (hi := l.length) (mx := l.length) (by omega) (by omega) (by omega)
  rw [List.drop_zero, Nat.sub_zero, List.take_length] at hR2
  refine region_mix0 S (.ofL [(0, 0), (1, 0), (2, 0), (3, 0), (4, 0), (5, 0), (6, 0), (7, 0), (8, 0), (9, 0), (10, 0), (11, 0), (12, 0), (13, 0), (14, 0), (15, 3), (16, 2)]) (by kernel_rfl) (by kernel_rfl) ?_
  clear S; intro w S
  refine mix_pure E rfl rfl rfl (by decide) (fun w h => rn_move E rfl rfl) ?_; clear E a; intro a E
  refine mix_pure E rfl rfl rfl (by decide) (fun w h => rn_nilCheck E rfl rfl) ?_; clear E a; intro a E
  refine mix_pure E rfl rfl rfl (by decide) (fun w h => by first | exact rn_fieldAddr0 (q := 0) E rfl rfl rfl | exact rn_fieldAddr (q := 0) E rfl rfl rfl) ?_; clear E a; intro a E
  refine mix_pure E rfl rfl rfl (by decide) (fun w h => by first | exact rn_load E rfl rfl rfl (h.one (by repeat (first | exact mm1 | assumption | apply List.Mem.tail))) rfl | exact rn_loadc E rfl rfl rfl (by assumption)) ?_; clear E a; intro a E
  refine mix_pure E rfl rfl rfl (by decide) (fun w h => rn_move E rfl rfl) ?_; clear E a; intro a E
  refine mix_pure E rfl rfl rfl (by decide) (fun w h => rn_nilCheck E rfl rfl) ?_; clear E a; intro a E
  refine mix_pure E rfl rfl rfl (by decide) (fun w h => by first | exact rn_fieldAddr0 (q := 0) E rfl rfl rfl | exact rn_fieldAddr (q := 0) E rfl rfl rfl) ?_; clear E a; intro a E
  refine mix_pure E rfl rfl rfl (by decide) (fun w h => by first | exact rn_load E rfl rfl rfl (h.one (by repeat (first | exact mm1 | assumption | apply List.Mem.tail))) rfl | exact rn_loadc E rfl rfl rfl (by assumption)) ?_; clear E a; intro a E
  refine mix_pure E rfl rfl rfl (by decide) (fun w h => by first | exact rn_len E rfl rfl rfl | exact rn_len_str E rfl rfl rfl | exact rn_len_string E rfl rfl rfl) ?_; clear E a; intro a E
  refine mix_pure E rfl rfl rfl (by decide) (fun w h => rn_move E rfl rfl) ?_; clear E a; intro a E
  refine mix_pure E rfl rfl rfl (by decide) (fun w h => rn_nilCheck E rfl rfl) ?_; clear E a; intro a E
  refine mix_pure E rfl rfl rfl (by decide) (fun w h => by first | exact rn_fieldAddr0 (q := 0) E rfl rfl rfl | exact rn_fieldAddr (q := 0) E rfl rfl rfl) ?_; clear E a; intro a E
  refine mix_pure E rfl rfl rfl (by decide) (fun w h => by first | exact rn_load E rfl rfl rfl (h.one (by repeat (first | exact mm1 | assumption | apply List.Mem.tail))) rfl | exact rn_loadc E rfl rfl rfl (by assumption)) ?_; clear E a; intro a E
  refine mix_pure E rfl rfl rfl (by decide) (fun w h => by first | exact rn_len E rfl rfl rfl | exact rn_len_str E rfl rfl rfl | exact rn_len_string E rfl rfl rfl) ?_; clear E a; intro a E
  refine mix_pure E rfl rfl rfl (by decide) (fun w h => rn_slice_hm (s := 2) E rfl rfl rfl rfl rfl rfl rfl rfl (by omega) (by omega)) ?_; clear E a; intro a E
  refine mix_call3 E rfl rfl rfl (by decide) rfl Try.func43 rfl (by kernel_rfl) rfl (clone_ret C _ l (by omega) hR2 _ (S.hp.sel (sel_cons (by repeat (first | exact pk1 | apply pick_tail)) (sel_nil _)))) ?_
  rintro v18 w ⟨C2, hB2, hT⟩; clear E a; intro a E
  have S := (S.call2 (sel_cons (by repeat (first | exact pk1 | apply pick_tail)) (sel_nil _)) hT)
  refine mix_free E rfl rfl rfl (by decide) (fun w => rn_assign E rfl rfl) ?_; clear E a; intro a E
  refine mix_nil ?_
  refine then_k hK ?_; clear hK; clear K
  refine wp_ret ?_
  refine ret1 E rfl rfl ?_
  exact ⟨_, rfl, C2, hB2, ((S.closeP (by repeat (first | exact pk1 | apply pick_tail)) (by repeat (first | exact pk1 | apply pick_tail)) hAe).only (Bs := [A, C2]) (sel_cons (by repeat (first | exact pk1 | apply pick_tail)) (sel_cons (by repeat (first | exact pk1 | apply pick_tail)) (sel_nil _)))).tr⟩

end Go.Proofs.Ytenhebjhoicpjaa
