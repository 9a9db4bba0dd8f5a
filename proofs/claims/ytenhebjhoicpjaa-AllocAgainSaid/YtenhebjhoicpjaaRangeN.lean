/-
  The program's set of ranges: asked, copied, put together.
-/
import Derived.Test.YtenhebjhoicpjaaRangeQ
import Derived.Test.YtenhebjhoicpjaaMore3
namespace Go.Sl
theorem slices_one (l : List Value) (h : ∀ v ∈ l, ∃ ad n c, v = .slice ad n c) : ∀ u ∈ l, u.oneCell' = true := fun u hu => by obtain ⟨_, _, _, rfl⟩ := h u hu; rfl
theorem spans_one (l : List Sp) : ∀ u ∈ l.flatMap Sp.lay, u.oneCell' = true := fun u hu => by
  obtain ⟨y, _, hu⟩ := List.mem_flatMap.1 hu
  simp only [Sp.lay, List.mem_cons, List.not_mem_nil, or_false] at hu
  rcases hu with rfl | rfl <;> rfl
end Go.Sl

namespace Go.Proofs.Ytenhebjhoicpjaa
open Go.Sl
set_option maxRecDepth 10000

theorem SetC.open {p : Nat} {l : List Sp} {mn : Int} {A : Chunk} (h : SetC p l mn A) : ∃ ad c C, A = [(p, cel [.slice ad l.length c, .int .i64 mn] 69)] ++ C ∧ Buf C 31 2 (.slice ad l.length c) l.length (l.flatMap Sp.lay) := by
  obtain ⟨v, C, hA, hB⟩ := h
  obtain ⟨ad, c, rfl⟩ := hB.slice
  exact ⟨ad, c, C, hA, hB⟩

theorem meets_ret (p : Nat) (l : List Sp) (mn : Int) (x : Sp) (A : Chunk) (w0 : World) (hA : SetC p l mn A) (hG : Okl l) (H : Hp w0 [A]) :
    Ret Try.prog 41 #[ptr p, x.agg] w0 fun u w' => u = .bool (meetsL l x) ∧ Trs w0 w' [A] [A] := by
  have S := St.begin H
  have hA0 := hA
  obtain ⟨ad, c, C, hAe, hB⟩ := hA.open
  have hlen := hG.len
  refine enter2 33 Try.func41 rfl rfl (by decide) ?_; intro a E
  refine wp_seq_k ?_; intro K hK
  refine region_list ?_
  refine list_wp rfl (wp_box E S rfl rfl (by decide) rfl rfl ?_); clear E S a; intro a w b3 E S
  refine list_pure E rfl rfl (by decide) (rn_assign E rfl rfl) ?_; clear E a; intro a E
  refine wpList_nil ?_
  refine then_k hK ?_; clear hK; clear K
  refine wp_seq_k ?_; intro K hK
  refine wp_seq_k ?_; intro K hK
  refine region_list ?_
  refine list_pure E rfl rfl (by decide) (rn_load_blk (vs := [_, _]) E rfl rfl rfl (S.get (by repeat (first | exact pk1 | apply pick_tail))) rfl rfl) ?_; clear E a; intro a E
  refine list_call E rfl rfl (by decide) rfl Try.func42 rfl (by kernel_rfl) rfl (may_ret x _) ?_
  rintro v7 w ⟨rfl, hT⟩; clear E a; intro a E
  have S := S.quiet hT
  refine list_pure E rfl rfl (by decide) (rn_not E rfl rfl) ?_; clear E a; intro a E
  refine wpList_nil ?_
  refine then_k hK ?_; clear hK; clear K
  refine if_bool E rfl (fun hb => ?_) (fun hb => ?_)
  · replace hb := Nrm.nrm hb
    have hm : x.may = false := by simpa using hb
    refine wp_seq_k ?_; intro K hK
    refine region_list ?_
    refine list_pure E rfl rfl (by decide) (rn_assign E rfl rfl) ?_; clear E a; intro a E
    refine wpList_nil ?_
    refine then_k hK ?_; clear hK; clear K
    refine wp_ret ?_
    refine then_ret ?_; clear hK; clear K
    refine ret1 E rfl rfl ?_
    exact ⟨_, rfl, by simp [meetsL, hm], (S.only (Bs := [A]) (sel_cons (by repeat (first | exact pk1 | apply pick_tail)) (sel_nil _))).tr⟩
  · replace hb := Nrm.nrm hb
    have hm : x.may = true := by simpa using hb
    refine wp_skip ?_
    refine then_k hK ?_; clear hK; clear K
    refine wp_seq_k ?_; intro K hK
    refine region_list ?_
    refine list_pure E rfl rfl (by decide) (rn_move E rfl rfl) ?_; clear E a; intro a E
    refine list_pure E rfl rfl (by decide) (by first | exact rn_fieldAddr0 (q := 0) E rfl rfl rfl | exact rn_fieldAddr (q := 0) E rfl rfl rfl) ?_; clear E a; intro a E
    refine list_pure E rfl rfl (by decide) (by first | exact rn_load E rfl rfl rfl (S.get (by repeat (first | exact pk1 | apply pick_tail))) rfl | exact rn_loadc E rfl rfl rfl (by assumption)) ?_; clear E a; intro a E
    refine list_call E rfl rfl (by decide) rfl Try.func36 rfl (by kernel_rfl) rfl (behind_ret p l mn x.at_ A _ hA0 hG (S.hp.sel (sel_cons (by repeat (first | exact pk1 | apply pick_tail)) (sel_nil _)))) ?_
    rintro v12 w ⟨k, rfl, hk, hT⟩; clear E a; intro a E
    have S := S.call1 (sel_cons (by repeat (first | exact pk1 | apply pick_tail)) (sel_nil _)) hT
    refine list_pure E rfl rfl (by decide) (rn_assign E rfl rfl) ?_; clear E a; intro a E
    refine wpList_nil ?_
    refine then_k hK ?_; clear hK; clear K
    refine wp_seq_k ?_; intro K hK
    have hmx := Sp.may_iff.1 hm
    have S := S.openE hAe
    refine region_mix0 S (.ofL [(0, 0), (1, 0), (2, 0), (3, 0), (4, 0), (5, 0), (6, 0), (7, 0), (8, 0), (9, 0), (10, 0), (11, 0), (12, 0), (13, 0), (14, 0), (15, 0), (16, 0), (17, 1), (18, 0), (19, 0), (20, 0)]) (by kernel_rfl) (by kernel_rfl) ?_
    clear S; intro w S
    refine mix_pure E rfl rfl rfl (by decide) (fun w h => rn_move E rfl rfl) ?_; clear E a; intro a E
    refine mix_pure E rfl rfl rfl (by decide) (fun w h => rn_move E rfl rfl) ?_; clear E a; intro a E
    refine mix_pure E rfl rfl rfl (by decide) (fun w h => rn_nilCheck E rfl rfl) ?_; clear E a; intro a E
    refine mix_pure E rfl rfl rfl (by decide) (fun w h => by first | exact rn_fieldAddr0 (q := 0) E rfl rfl rfl | exact rn_fieldAddr (q := 0) E rfl rfl rfl) ?_; clear E a; intro a E
    refine mix_pure E rfl rfl rfl (by decide) (fun w h => by first | exact rn_load E rfl rfl rfl (h.one (by repeat (first | exact mm1 | assumption | apply List.Mem.tail))) rfl | exact rn_loadc E rfl rfl rfl (by assumption)) ?_; clear E a; intro a E
    refine mix_pure E rfl rfl rfl (by decide) (fun w h => by first | exact rn_len E rfl rfl rfl | exact rn_len_str E rfl rfl rfl | exact rn_len_string E rfl rfl rfl) ?_; clear E a; intro a E
    refine mix_pure E rfl rfl rfl (by decide) (fun w h => rn_lss E rfl rfl rfl) ?_; clear E a; intro a E
    refine mix_pure E rfl rfl rfl (by decide) (fun w h => rn_move E rfl rfl) ?_; clear E a; intro a E
    refine guard_split E (t := 20) rfl (fun hb20 => ?_) (fun hb20 => ?_)
    · have hb20n := hb20; replace hb20n := Nrm.nrm hb20n
      obtain ⟨b, off, rfl⟩ := hB.rd.addr (by omega); have hkl : k < l.length := by omega
      refine mix_guard_yes E rfl rfl rfl rfl rfl hb20 rfl (by decide) (fun w h => rn_move E rfl rfl) ?_; clear E a; intro a E
      refine mix_guard_yes E rfl rfl rfl rfl rfl hb20 rfl (by decide) (fun w h => rn_nilCheck E rfl rfl) ?_; clear E a; intro a E
      refine mix_guard_yes E rfl rfl rfl rfl rfl hb20 rfl (by decide) (fun w h => by first | exact rn_fieldAddr0 (q := 0) E rfl rfl rfl | exact rn_fieldAddr (q := 0) E rfl rfl rfl) ?_; clear E a; intro a E
      refine mix_guard_yes E rfl rfl rfl rfl rfl hb20 rfl (by decide) (fun w h => by first | exact rn_load E rfl rfl rfl (h.one (by repeat (first | exact mm1 | assumption | apply List.Mem.tail))) rfl | exact rn_loadc E rfl rfl rfl (by assumption)) ?_; clear E a; intro a E
      refine mix_guard_yes E rfl rfl rfl rfl rfl hb20 rfl (by decide) (fun w h => rn_move E rfl rfl) ?_; clear E a; intro a E
      refine mix_guard_yes E rfl rfl rfl rfl rfl hb20 rfl (by decide) (fun w h => by first | exact rn_indexAddr1 E rfl rfl rfl rfl rfl rfl (by omega) | exact rn_indexAddr E rfl rfl rfl rfl rfl rfl (by omega) | exact rn_indexAddr_array E rfl rfl rfl rfl rfl rfl (by omega)) ?_; clear E a; intro a E
      refine mix_guard_yes E rfl rfl rfl rfl rfl hb20 rfl (by decide) (fun w h => by first | exact rn_fieldAddr0 (q := 0) E rfl rfl rfl | exact rn_fieldAddr (q := 0) E rfl rfl rfl) ?_; clear E a; intro a E
      refine mix_guard_yes E rfl rfl rfl rfl rfl hb20 rfl (by decide) (fun w h => rn_loadc E rfl rfl rfl (hB.rd.elem (lay := Sp.lay) Sp.lay_len (h.at (by repeat (first | exact mm1 | assumption | apply List.Mem.tail))) hkl 0 _ rfl)) ?_; clear E a; intro a E
      refine mix_guard_yes E rfl rfl rfl rfl rfl hb20 rfl (by decide) (fun w h => rn_load_blk (vs := [_, _]) E rfl rfl rfl (h.one (by repeat (first | exact mm1 | assumption | apply List.Mem.tail))) rfl rfl) ?_; clear E a; intro a E
      refine mix_guard_act E rfl rfl rfl rfl rfl hb20 ?_; refine wp_call' E rfl (by decide) rfl Try.func37 rfl (by kernel_rfl) rfl (end_ret x (by omega) _) ?_
      rintro v30 w ⟨rfl, hT⟩; clear E a; intro a E
      have S := S.quiet hT
      refine ⟨S.stab.sub (by first | (simp; done) | (simp +contextual; done) | (simp [*]; done)), ?_⟩
      refine mix_guard_yes E rfl rfl rfl rfl rfl hb20 rfl (by decide) (fun w h => rn_lss E rfl rfl rfl) ?_; clear E a; intro a E
      refine mix_pure E rfl rfl rfl (by decide) (fun w h => rn_pick_yes' E rfl rfl hb20 rfl) ?_; clear E a; intro a E
      refine mix_pure E rfl rfl rfl (by decide) (fun w h => rn_assign E rfl rfl) ?_; clear E a; intro a E
      refine mix_nil ?_
      refine then_k hK ?_; clear hK; clear K
      refine wp_ret ?_
      refine ret1 E rfl rfl ?_
      exact ⟨_, rfl, by rw [Value.bool.injEq, Bool.eq_iff_iff, cut_meets hG.gd hm hk]; simp [hkl], (S.closeE hAe).back⟩
    · have hb20n := hb20; replace hb20n := Nrm.nrm hb20n
      refine mix_guard_no E rfl rfl rfl rfl rfl hb20 rfl (by decide) ?_; clear E a; intro a E
      refine mix_guard_no E rfl rfl rfl rfl rfl hb20 rfl (by decide) ?_; clear E a; intro a E
      refine mix_guard_no E rfl rfl rfl rfl rfl hb20 rfl (by decide) ?_; clear E a; intro a E
      refine mix_guard_no E rfl rfl rfl rfl rfl hb20 rfl (by decide) ?_; clear E a; intro a E
      refine mix_guard_no E rfl rfl rfl rfl rfl hb20 rfl (by decide) ?_; clear E a; intro a E
      refine mix_guard_no E rfl rfl rfl rfl rfl hb20 rfl (by decide) ?_; clear E a; intro a E
      refine mix_guard_no E rfl rfl rfl rfl rfl hb20 rfl (by decide) ?_; clear E a; intro a E
      refine mix_guard_no E rfl rfl rfl rfl rfl hb20 rfl (by decide) ?_; clear E a; intro a E
      refine mix_guard_no E rfl rfl rfl rfl rfl hb20 rfl (by decide) ?_; clear E a; intro a E
      refine mix_guard_no_act E rfl rfl rfl rfl rfl hb20 rfl (by decide) (S.stab.sub (by first | (simp; done) | (simp +contextual; done) | (simp [*]; done))) ?_; clear E a; intro a E
      refine mix_guard_no E rfl rfl rfl rfl rfl hb20 rfl (by decide) ?_; clear E a; intro a E
      refine mix_pure E rfl rfl rfl (by decide) (fun w h => rn_pick_no' E rfl rfl hb20 rfl) ?_; clear E a; intro a E
      refine mix_pure E rfl rfl rfl (by decide) (fun w h => rn_assign E rfl rfl) ?_; clear E a; intro a E
      refine mix_nil ?_
      refine then_k hK ?_; clear hK; clear K
      refine wp_ret ?_
      refine ret1 E rfl rfl ?_
      exact ⟨_, rfl, by rw [Value.bool.injEq, Bool.eq_iff_iff, cut_meets hG.gd hm hk]; simp; exact fun h => absurd h (by omega), (S.closeE hAe).back⟩

theorem has_ret (p : Nat) (l : List Sp) (mn : Int) (x : Sp) (A : Chunk) (w0 : World) (hA : SetC p l mn A) (hG : Okl l) (H : Hp w0 [A]) :
    Ret Try.prog 35 #[ptr p, x.agg] w0 fun u w' => u = .bool (hasL l x) ∧ Trs w0 w' [A] [A] := by
  have S := St.begin H
  have hA0 := hA
  obtain ⟨ad, c, C, hAe, hB⟩ := hA.open
  have hlen := hG.len
  refine enter2 46 Try.func35 rfl rfl (by decide) ?_; intro a E
  refine wp_seq_k ?_; intro K hK
  refine region_list ?_
  refine list_wp rfl (wp_box E S rfl rfl (by decide) rfl rfl ?_); clear E S a; intro a w b3 E S
  refine list_pure E rfl rfl (by decide) (rn_assign E rfl rfl) ?_; clear E a; intro a E
  refine wpList_nil ?_
  refine then_k hK ?_; clear hK; clear K
  refine wp_seq_k ?_; intro K hK
  refine wp_seq_k ?_; intro K hK
  refine region_list ?_
  refine list_pure E rfl rfl (by decide) (rn_load_blk (vs := [_, _]) E rfl rfl rfl (S.get (by repeat (first | exact pk1 | apply pick_tail))) rfl rfl) ?_; clear E a; intro a E
  refine list_call E rfl rfl (by decide) rfl Try.func42 rfl (by kernel_rfl) rfl (may_ret x _) ?_
  rintro v7 w ⟨rfl, hT⟩; clear E a; intro a E
  have S := S.quiet hT
  refine list_pure E rfl rfl (by decide) (rn_not E rfl rfl) ?_; clear E a; intro a E
  refine wpList_nil ?_
  refine then_k hK ?_; clear hK; clear K
  refine if_bool E rfl (fun hb => ?_) (fun hb => ?_)
  · replace hb := Nrm.nrm hb
    have hm : x.may = false := by simpa using hb
    refine wp_seq_k ?_; intro K hK
    refine region_list ?_
    refine list_pure E rfl rfl (by decide) (rn_assign E rfl rfl) ?_; clear E a; intro a E
    refine wpList_nil ?_
    refine then_k hK ?_; clear hK; clear K
    refine wp_ret ?_
    refine then_ret ?_; clear hK; clear K
    refine ret1 E rfl rfl ?_
    exact ⟨_, rfl, by simp [hasL, hm], (S.only (Bs := [A]) (sel_cons (by repeat (first | exact pk1 | apply pick_tail)) (sel_nil _))).tr⟩
  · replace hb := Nrm.nrm hb
    have hm : x.may = true := by simpa using hb
    refine wp_skip ?_
    refine then_k hK ?_; clear hK; clear K
    refine wp_seq_k ?_; intro K hK
    refine region_list ?_
    refine list_pure E rfl rfl (by decide) (rn_move E rfl rfl) ?_; clear E a; intro a E
    refine list_pure E rfl rfl (by decide) (by first | exact rn_fieldAddr0 (q := 0) E rfl rfl rfl | exact rn_fieldAddr (q := 0) E rfl rfl rfl) ?_; clear E a; intro a E
    refine list_pure E rfl rfl (by decide) (by first | exact rn_load E rfl rfl rfl (S.get (by repeat (first | exact pk1 | apply pick_tail))) rfl | exact rn_loadc E rfl rfl rfl (by assumption)) ?_; clear E a; intro a E
    refine list_call E rfl rfl (by decide) rfl Try.func36 rfl (by kernel_rfl) rfl (behind_ret p l mn x.at_ A _ hA0 hG (S.hp.sel (sel_cons (by repeat (first | exact pk1 | apply pick_tail)) (sel_nil _)))) ?_
    rintro v12 w ⟨k, rfl, hk, hT⟩; clear E a; intro a E
    have S := S.call1 (sel_cons (by repeat (first | exact pk1 | apply pick_tail)) (sel_nil _)) hT
    refine list_pure E rfl rfl (by decide) (rn_assign E rfl rfl) ?_; clear E a; intro a E
    refine wpList_nil ?_
    refine then_k hK ?_; clear hK; clear K
    refine wp_seq_k ?_; intro K hK
    have hmx := Sp.may_iff.1 hm
    have S := S.openE hAe
    refine region_mix0 S (.ofL [(0, 0), (1, 0), (2, 0), (3, 0), (4, 0), (5, 0), (6, 0), (7, 0), (8, 0), (9, 0), (10, 0), (11, 0), (12, 0), (13, 0), (14, 0), (15, 0), (16, 0), (17, 0), (18, 0), (19, 0), (20, 0), (21, 0), (22, 0), (23, 0), (24, 0), (25, 0), (26, 0), (27, 0), (29, 0), (28, 1), (30, 3), (31, 2), (32, 2), (33, 2)]) (by kernel_rfl) (by kernel_rfl) ?_
    clear S; intro w S
    refine mix_pure E rfl rfl rfl (by decide) (fun w h => rn_move E rfl rfl) ?_; clear E a; intro a E
    refine mix_pure E rfl rfl rfl (by decide) (fun w h => rn_move E rfl rfl) ?_; clear E a; intro a E
    refine mix_pure E rfl rfl rfl (by decide) (fun w h => rn_nilCheck E rfl rfl) ?_; clear E a; intro a E
    refine mix_pure E rfl rfl rfl (by decide) (fun w h => by first | exact rn_fieldAddr0 (q := 0) E rfl rfl rfl | exact rn_fieldAddr (q := 0) E rfl rfl rfl) ?_; clear E a; intro a E
    refine mix_pure E rfl rfl rfl (by decide) (fun w h => by first | exact rn_load E rfl rfl rfl (h.one (by repeat (first | exact mm1 | assumption | apply List.Mem.tail))) rfl | exact rn_loadc E rfl rfl rfl (by assumption)) ?_; clear E a; intro a E
    refine mix_pure E rfl rfl rfl (by decide) (fun w h => by first | exact rn_len E rfl rfl rfl | exact rn_len_str E rfl rfl rfl | exact rn_len_string E rfl rfl rfl) ?_; clear E a; intro a E
    refine mix_pure E rfl rfl rfl (by decide) (fun w h => rn_lss E rfl rfl rfl) ?_; clear E a; intro a E
    refine mix_pure E rfl rfl rfl (by decide) (fun w h => rn_move E rfl rfl) ?_; clear E a; intro a E
    refine guard_split E (t := 20) rfl (fun hb20 => ?_) (fun hb20 => ?_)
    · have hb20n := hb20; replace hb20n := Nrm.nrm hb20n
      obtain ⟨b, off, rfl⟩ := hB.rd.addr (by omega); have hkl : k < l.length := (by omega); have hat := hG.at hkl
      refine mix_guard_yes E rfl rfl rfl rfl rfl hb20 rfl (by decide) (fun w h => rn_move E rfl rfl) ?_; clear E a; intro a E
      refine mix_guard_yes E rfl rfl rfl rfl rfl hb20 rfl (by decide) (fun w h => rn_nilCheck E rfl rfl) ?_; clear E a; intro a E
      refine mix_guard_yes E rfl rfl rfl rfl rfl hb20 rfl (by decide) (fun w h => by first | exact rn_fieldAddr0 (q := 0) E rfl rfl rfl | exact rn_fieldAddr (q := 0) E rfl rfl rfl) ?_; clear E a; intro a E
      refine mix_guard_yes E rfl rfl rfl rfl rfl hb20 rfl (by decide) (fun w h => by first | exact rn_load E rfl rfl rfl (h.one (by repeat (first | exact mm1 | assumption | apply List.Mem.tail))) rfl | exact rn_loadc E rfl rfl rfl (by assumption)) ?_; clear E a; intro a E
      refine mix_guard_yes E rfl rfl rfl rfl rfl hb20 rfl (by decide) (fun w h => rn_move E rfl rfl) ?_; clear E a; intro a E
      refine mix_guard_yes E rfl rfl rfl rfl rfl hb20 rfl (by decide) (fun w h => by first | exact rn_indexAddr1 E rfl rfl rfl rfl rfl rfl (by omega) | exact rn_indexAddr E rfl rfl rfl rfl rfl rfl (by omega) | exact rn_indexAddr_array E rfl rfl rfl rfl rfl rfl (by omega)) ?_; clear E a; intro a E
      refine mix_guard_yes E rfl rfl rfl rfl rfl hb20 rfl (by decide) (fun w h => by first | exact rn_fieldAddr0 (q := 0) E rfl rfl rfl | exact rn_fieldAddr (q := 0) E rfl rfl rfl) ?_; clear E a; intro a E
      refine mix_guard_yes E rfl rfl rfl rfl rfl hb20 rfl (by decide) (fun w h => rn_loadc E rfl rfl rfl (hB.rd.elem (lay := Sp.lay) Sp.lay_len (h.at (by repeat (first | exact mm1 | assumption | apply List.Mem.tail))) hkl 0 _ rfl)) ?_; clear E a; intro a E
      refine mix_guard_yes E rfl rfl rfl rfl rfl hb20 rfl (by decide) (fun w h => by first | exact rn_fieldAddr0 (q := 0) E rfl rfl rfl | exact rn_fieldAddr (q := 0) E rfl rfl rfl) ?_; clear E a; intro a E
      refine mix_guard_yes E rfl rfl rfl rfl rfl hb20 rfl (by decide) (fun w h => by first | exact rn_load E rfl rfl rfl (h.one (by repeat (first | exact mm1 | assumption | apply List.Mem.tail))) rfl | exact rn_loadc E rfl rfl rfl (by assumption)) ?_; clear E a; intro a E
      refine mix_guard_yes E rfl rfl rfl rfl rfl hb20 rfl (by decide) (fun w h => rn_leq E rfl rfl rfl) ?_; clear E a; intro a E
      refine mix_pure E rfl rfl rfl (by decide) (fun w h => rn_pick_yes' E rfl rfl hb20 rfl) ?_; clear E a; intro a E
      refine mix_pure E rfl rfl rfl (by decide) (fun w h => rn_move E rfl rfl) ?_; clear E a; intro a E
      refine guard_split E (t := 33) rfl (fun hb33 => ?_) (fun hb33 => ?_)
      · have hb33n := hb33; replace hb33n := Nrm.nrm hb33n
        refine mix_guard_yes E rfl rfl rfl rfl rfl hb33 rfl (by decide) (fun w h => rn_move E rfl rfl) ?_; clear E a; intro a E
        refine mix_guard_yes E rfl rfl rfl rfl rfl hb33 rfl (by decide) (fun w h => rn_nilCheck E rfl rfl) ?_; clear E a; intro a E
        refine mix_guard_yes E rfl rfl rfl rfl rfl hb33 rfl (by decide) (fun w h => by first | exact rn_fieldAddr0 (q := 0) E rfl rfl rfl | exact rn_fieldAddr (q := 0) E rfl rfl rfl) ?_; clear E a; intro a E
        refine mix_guard_yes E rfl rfl rfl rfl rfl hb33 rfl (by decide) (fun w h => by first | exact rn_load E rfl rfl rfl (h.one (by repeat (first | exact mm1 | assumption | apply List.Mem.tail))) rfl | exact rn_loadc E rfl rfl rfl (by assumption)) ?_; clear E a; intro a E
        refine mix_guard_yes E rfl rfl rfl rfl rfl hb33 rfl (by decide) (fun w h => rn_move E rfl rfl) ?_; clear E a; intro a E
        refine mix_guard_yes E rfl rfl rfl rfl rfl hb33 rfl (by decide) (fun w h => by first | exact rn_indexAddr1 E rfl rfl rfl rfl rfl rfl (by omega) | exact rn_indexAddr E rfl rfl rfl rfl rfl rfl (by omega) | exact rn_indexAddr_array E rfl rfl rfl rfl rfl rfl (by omega)) ?_; clear E a; intro a E
        refine mix_guard_yes E rfl rfl rfl rfl rfl hb33 rfl (by decide) (fun w h => rn_load_aggc (vs := [_, _]) E rfl rfl rfl rfl (hB.rd.elem (lay := Sp.lay) Sp.lay_len (h.at (by repeat (first | exact mm1 | assumption | apply List.Mem.tail))) hkl)) ?_; clear E a; intro a E
        refine mix_guard_yes E rfl rfl rfl rfl rfl hb33 rfl (by decide) (fun w h => rn_load_blk (vs := [_, _]) E rfl rfl rfl (h.one (by repeat (first | exact mm1 | assumption | apply List.Mem.tail))) rfl rfl) ?_; clear E a; intro a E
        refine mix_guard_act E rfl rfl rfl rfl rfl hb33 ?_; refine wp_call' E rfl (by decide) rfl Try.func37 rfl (by kernel_rfl) rfl (end_ret (l[k]'hkl) (by omega) _) ?_
        rintro v41 w ⟨rfl, hT⟩; clear E a; intro a E
        have S := S.quiet hT
        refine ⟨S.stab.sub (by first | (simp; done) | (simp +contextual; done) | (simp [*]; done)), ?_⟩
        refine mix_guard_last E rfl rfl rfl rfl rfl hb33 ?_; refine wp_call' E rfl (by decide) rfl Try.func37 rfl (by kernel_rfl) rfl (end_ret x ⟨by omega, by omega⟩ _) ?_
        rintro v43 w ⟨rfl, hT⟩; clear E a; intro a E
        have S := S.quiet hT
        refine mix_guard_free E rfl rfl rfl rfl rfl hb33 rfl (by decide) (fun w => rn_geq E rfl rfl rfl) ?_; clear E a; intro a E
        refine mix_free E rfl rfl rfl (by decide) (fun w => rn_pick_yes' E rfl rfl hb33 rfl) ?_; clear E a; intro a E
        refine mix_free E rfl rfl rfl (by decide) (fun w => rn_assign E rfl rfl) ?_; clear E a; intro a E
        refine mix_nil ?_
        refine then_k hK ?_; clear hK; clear K
        refine wp_ret ?_
        refine ret1 E rfl rfl ?_
        exact ⟨_, rfl, by rw [Value.bool.injEq, Bool.eq_iff_iff, cut_has hG.gd hm hk]; simp [hkl, hb33n], (S.closeE hAe).back⟩
      · have hb33n := hb33; replace hb33n := Nrm.nrm hb33n
        refine mix_guard_no E rfl rfl rfl rfl rfl hb33 rfl (by decide) ?_; clear E a; intro a E
        refine mix_guard_no E rfl rfl rfl rfl rfl hb33 rfl (by decide) ?_; clear E a; intro a E
        refine mix_guard_no E rfl rfl rfl rfl rfl hb33 rfl (by decide) ?_; clear E a; intro a E
        refine mix_guard_no E rfl rfl rfl rfl rfl hb33 rfl (by decide) ?_; clear E a; intro a E
        refine mix_guard_no E rfl rfl rfl rfl rfl hb33 rfl (by decide) ?_; clear E a; intro a E
        refine mix_guard_no E rfl rfl rfl rfl rfl hb33 rfl (by decide) ?_; clear E a; intro a E
        refine mix_guard_no E rfl rfl rfl rfl rfl hb33 rfl (by decide) ?_; clear E a; intro a E
        refine mix_guard_no E rfl rfl rfl rfl rfl hb33 rfl (by decide) ?_; clear E a; intro a E
        refine mix_guard_no_act E rfl rfl rfl rfl rfl hb33 rfl (by decide) (S.stab.sub (by first | (simp; done) | (simp +contextual; done) | (simp [*]; done))) ?_; clear E a; intro a E
        refine mix_guard_no_last E rfl rfl rfl rfl rfl hb33 rfl (by decide) ?_; clear E a; intro a E
        refine mix_guard_no2 E rfl rfl rfl rfl rfl hb33 rfl (by decide) ?_; clear E a; intro a E
        refine mix_free E rfl rfl rfl (by decide) (fun w => rn_pick_no' E rfl rfl hb33 rfl) ?_; clear E a; intro a E
        refine mix_free E rfl rfl rfl (by decide) (fun w => rn_assign E rfl rfl) ?_; clear E a; intro a E
        refine mix_nil ?_
        refine then_k hK ?_; clear hK; clear K
        refine wp_ret ?_
        refine ret1 E rfl rfl ?_
        exact ⟨_, rfl, by rw [Value.bool.injEq, Bool.eq_iff_iff, cut_has hG.gd hm hk]; simp [hkl, hb33n], (S.closeE hAe).back⟩
    · have hb20n := hb20; replace hb20n := Nrm.nrm hb20n
      refine mix_guard_no E rfl rfl rfl rfl rfl hb20 rfl (by decide) ?_; clear E a; intro a E
      refine mix_guard_no E rfl rfl rfl rfl rfl hb20 rfl (by decide) ?_; clear E a; intro a E
      refine mix_guard_no E rfl rfl rfl rfl rfl hb20 rfl (by decide) ?_; clear E a; intro a E
      refine mix_guard_no E rfl rfl rfl rfl rfl hb20 rfl (by decide) ?_; clear E a; intro a E
      refine mix_guard_no E rfl rfl rfl rfl rfl hb20 rfl (by decide) ?_; clear E a; intro a E
      refine mix_guard_no E rfl rfl rfl rfl rfl hb20 rfl (by decide) ?_; clear E a; intro a E
      refine mix_guard_no E rfl rfl rfl rfl rfl hb20 rfl (by decide) ?_; clear E a; intro a E
      refine mix_guard_no E rfl rfl rfl rfl rfl hb20 rfl (by decide) ?_; clear E a; intro a E
      refine mix_guard_no E rfl rfl rfl rfl rfl hb20 rfl (by decide) ?_; clear E a; intro a E
      refine mix_guard_no E rfl rfl rfl rfl rfl hb20 rfl (by decide) ?_; clear E a; intro a E
      refine mix_guard_no E rfl rfl rfl rfl rfl hb20 rfl (by decide) ?_; clear E a; intro a E
      refine mix_pure E rfl rfl rfl (by decide) (fun w h => rn_pick_no' E rfl rfl hb20 rfl) ?_; clear E a; intro a E
      refine mix_pure E rfl rfl rfl (by decide) (fun w h => rn_move E rfl rfl) ?_; clear E a; intro a E
      refine mix_guard_no E rfl rfl rfl rfl rfl rfl rfl (by decide) ?_; clear E a; intro a E
      refine mix_guard_no E rfl rfl rfl rfl rfl rfl rfl (by decide) ?_; clear E a; intro a E
      refine mix_guard_no E rfl rfl rfl rfl rfl rfl rfl (by decide) ?_; clear E a; intro a E
      refine mix_guard_no E rfl rfl rfl rfl rfl rfl rfl (by decide) ?_; clear E a; intro a E
      refine mix_guard_no E rfl rfl rfl rfl rfl rfl rfl (by decide) ?_; clear E a; intro a E
      refine mix_guard_no E rfl rfl rfl rfl rfl rfl rfl (by decide) ?_; clear E a; intro a E
      refine mix_guard_no E rfl rfl rfl rfl rfl rfl rfl (by decide) ?_; clear E a; intro a E
      refine mix_guard_no E rfl rfl rfl rfl rfl rfl rfl (by decide) ?_; clear E a; intro a E
      refine mix_guard_no_act E rfl rfl rfl rfl rfl rfl rfl (by decide) (S.stab.sub (by first | (simp; done) | (simp +contextual; done) | (simp [*]; done))) ?_; clear E a; intro a E
      refine mix_guard_no_last E rfl rfl rfl rfl rfl rfl rfl (by decide) ?_; clear E a; intro a E
      refine mix_guard_no2 E rfl rfl rfl rfl rfl rfl rfl (by decide) ?_; clear E a; intro a E
      refine mix_free E rfl rfl rfl (by decide) (fun w => rn_pick_no' E rfl rfl rfl rfl) ?_; clear E a; intro a E
      refine mix_free E rfl rfl rfl (by decide) (fun w => rn_assign E rfl rfl) ?_; clear E a; intro a E
      refine mix_nil ?_
      refine then_k hK ?_; clear hK; clear K
      refine wp_ret ?_
      refine ret1 E rfl rfl ?_
      exact ⟨_, rfl, by rw [Value.bool.injEq, Bool.eq_iff_iff, cut_has hG.gd hm hk]; simp; omega, (S.closeE hAe).back⟩

/-! ### slices.Grow, slices.Concat, slices.Clone -/

theorem grow_ret (m : Nat) (hm : m ≤ 1000000) (w0 : World) : Ret Try.prog 47 #[.slice none 0 0, .int .i64 m] w0 fun u w' => ∃ C, Buf C 31 2 u 0 [] ∧ Trs w0 w' [] [C] := by
  have S := St.begin (hp_nil w0)
  refine enter2 27 Try.func47 rfl rfl (by decide) ?_; intro a E
  refine wp_seq_k ?_; intro K hK
  refine region_list ?_
  refine list_pure E rfl rfl (by decide) (rn_assign E rfl rfl) ?_; clear E a; intro a E
  refine wpList_nil ?_
  refine then_k hK ?_; clear hK; clear K
  refine wp_seq_k ?_; intro K hK
  refine wp_seq_k ?_; intro K hK
  refine region_list ?_
  refine list_pure E rfl rfl (by decide) (rn_move E rfl rfl) ?_; clear E a; intro a E
  refine list_pure E rfl rfl (by decide) (rn_lss E rfl rfl rfl) ?_; clear E a; intro a E
  refine wpList_nil ?_
  refine then_k hK ?_; clear hK; clear K
  refine if_bool E rfl (fun hb => ?_) (fun hb => ?_)
  · replace hb := Nrm.nrm hb
    exfalso; omega
  · replace hb := Nrm.nrm hb
    refine wp_skip ?_
    refine then_k hK ?_; clear hK; clear K
    refine wp_seq_k ?_; intro K hK
    refine wp_seq_k ?_; intro K hK
    refine region_list ?_
    refine list_pure E rfl rfl (by decide) (rn_move E rfl rfl) ?_; clear E a; intro a E
    refine list_pure E rfl rfl (by decide) (rn_move E rfl rfl) ?_; clear E a; intro a E
    refine list_pure E rfl rfl (by decide) (rn_cap E rfl rfl rfl) ?_; clear E a; intro a E
    refine list_pure E rfl rfl (by decide) (rn_move E rfl rfl) ?_; clear E a; intro a E
    refine list_pure E rfl rfl (by decide) (by first | exact rn_len E rfl rfl rfl | exact rn_len_str E rfl rfl rfl | exact rn_len_string E rfl rfl rfl) ?_; clear E a; intro a E
    refine list_pure E rfl rfl (by decide) (rn_sub E rfl rfl rfl (by first | exact ws1 (by omega) (by omega) | exact w_in (by omega) | exact w_inu (by omega) | exact rfl)) ?_; clear E a; intro a E
    refine list_pure E rfl rfl (by decide) (rn_sub E rfl rfl rfl (by first | exact ws1 (by omega) (by omega) | exact w_in (by omega) | exact w_inu (by omega) | exact rfl)) ?_; clear E a; intro a E
    refine list_pure E rfl rfl (by decide) (rn_assign E rfl rfl) ?_; clear E a; intro a E
    refine wpList_nil ?_
    refine then_k hK ?_; clear hK; clear K
    refine wp_seq_k ?_; intro K hK
    refine region_list ?_
    refine list_pure E rfl rfl (by decide) (rn_move E rfl rfl) ?_; clear E a; intro a E
    refine list_pure E rfl rfl (by decide) (rn_gtr E rfl rfl rfl) ?_; clear E a; intro a E
    refine wpList_nil ?_
    refine then_k hK ?_; clear hK; clear K
    refine if_bool E rfl (fun hb => ?_) (fun hb => ?_)
    · replace hb := Nrm.nrm hb
      refine region_list ?_
      refine list_pure E rfl rfl (by decide) (rn_move E rfl rfl) ?_; clear E a; intro a E
      refine list_pure E rfl rfl (by decide) (rn_move E rfl rfl) ?_; clear E a; intro a E
      refine list_pure E rfl rfl (by decide) (rn_cap E rfl rfl rfl) ?_; clear E a; intro a E
      refine list_pure E rfl rfl (by decide) (rn_slice_h (s := 2) E rfl rfl rfl rfl rfl rfl (by omega)) ?_; clear E a; intro a E
      refine list_pure E rfl rfl (by decide) (rn_move E rfl rfl) ?_; clear E a; intro a E
      refine list_wp rfl (wp_appendz (by' := 16) E S rfl rfl (by decide) rfl rfl rfl rfl rfl rfl rfl rfl rfl rfl (by decide) (by omega) (by omega) (by omega) ?_); clear E S a; intro a w g22 c22 l22 E S hc22 hm22 hl22
      refine list_pure E rfl rfl (by decide) (rn_move E rfl rfl) ?_; clear E a; intro a E
      refine list_pure E rfl rfl (by decide) (by first | exact rn_len E rfl rfl rfl | exact rn_len_str E rfl rfl rfl | exact rn_len_string E rfl rfl rfl) ?_; clear E a; intro a E
      refine list_pure E rfl rfl (by decide) (rn_slice_h (s := 2) E rfl rfl rfl rfl rfl rfl (by omega)) ?_; clear E a; intro a E
      refine list_pure E rfl rfl (by decide) (rn_assign E rfl rfl) ?_; clear E a; intro a E
      refine wpList_nil ?_
      refine then_k hK ?_; clear hK; clear K
      refine wp_seq_k ?_; intro K hK
      replace E := E.keep (e' := [(0, _), (4, _)]) (keep_cons rfl (keep_cons rfl (keep_nil)))
      refine region_list ?_
      refine list_pure E rfl rfl (by decide) (rn_move E rfl rfl) ?_; clear E a; intro a E
      refine list_pure E rfl rfl (by decide) (rn_assign E rfl rfl) ?_; clear E a; intro a E
      refine wpList_nil ?_
      refine then_k hK ?_; clear hK; clear K
      refine wp_ret ?_
      refine ret1 E rfl rfl ?_
      exact ⟨_, rfl, _, by rw [sliced_head]; exact buf_room hm22 hl22, S.tr⟩
    · replace hb := Nrm.nrm hb
      refine wp_skip ?_
      refine then_k hK ?_; clear hK; clear K
      refine wp_seq_k ?_; intro K hK
      refine region_list ?_
      refine list_pure E rfl rfl (by decide) (rn_move E rfl rfl) ?_; clear E a; intro a E
      refine list_pure E rfl rfl (by decide) (rn_assign E rfl rfl) ?_; clear E a; intro a E
      refine wpList_nil ?_
      refine then_k hK ?_; clear hK; clear K
      refine wp_ret ?_
      refine ret1 E rfl rfl ?_
      exact ⟨_, rfl, _, Buf.nil _ _, S.addNil.tr⟩
  -- unused annotation: r5.post

def lens (ls : List (Value × List Sp)) : Nat := (ls.flatMap (·.2)).length
/-- What stands in a list of slices. -/
structure Sls (O : Chunk) (ls : List (Value × List Sp)) : Prop where
  rd : ∀ x ∈ ls, Rd O 2 x.1 x.2.length (x.2.flatMap Sp.lay)
  sl : ∀ x ∈ ls, ∃ ad c, x.1 = .slice ad x.2.length c
  few : ls.length ≤ 100
  sum : lens ls ≤ 100000

theorem flat_take_succ {α β : Type} (f : α → List β) (l : List α) {i : Nat} (hi : i < l.length) : (l.take (i + 1)).flatMap f = (l.take i).flatMap f ++ f l[i] := by
  rw [take_succ_at l hi, List.flatMap_append]; simp only [List.flatMap_cons, List.flatMap_nil, List.append_nil]
theorem lens_take_succ (l : List (Value × List Sp)) {i : Nat} (hi : i < l.length) : lens (l.take (i + 1)) = lens (l.take i) + l[i].2.length := by
  rw [take_succ_at l hi]; simp only [lens, List.flatMap_append, List.length_append, List.flatMap_cons, List.flatMap_nil, List.append_nil]
theorem lens_take_le (l : List (Value × List Sp)) (i : Nat) : lens (l.take i) ≤ lens l := by
  conv => rhs; rw [← List.take_append_drop i l]
  simp only [lens, List.flatMap_append, List.length_append]
  omega

theorem concat_ret (D O : Chunk) (vo : Value) (ls : List (Value × List Sp)) (hD : Rd D 1 vo ls.length (ls.map (·.1))) (hO : Sls O ls) (w0 : World) (H : Hp w0 [D, O]) :
    Ret Try.prog 44 #[vo] w0 fun u w' => ∃ C, Buf C 31 2 u (ls.flatMap (·.2)).length ((ls.flatMap (·.2)).flatMap Sp.lay) ∧ Trs w0 w' [D, O] [D, O, C] := by
  have S := St.begin H
  obtain ⟨ad, c, rfl⟩ := hD.slice
  have hfew := hO.few
  have hsum := hO.sum
  refine enter1 36 Try.func44 rfl rfl (by decide) ?_; intro a E
  refine wp_seq_k ?_; intro K hK
  refine region_list ?_
  refine list_pure E rfl rfl (by decide) (rn_assign E rfl rfl) ?_; clear E a; intro a E
  refine wpList_nil ?_
  refine then_k hK ?_; clear hK; clear K
  refine wp_seq_k ?_; intro K hK
  refine region_list ?_
  refine list_pure E rfl rfl (by decide) (rn_assign E rfl rfl) ?_; clear E a; intro a E
  refine wpList_nil ?_
  refine then_k hK ?_; clear hK; clear K
  refine wp_seq_k ?_; intro K hK
  refine wp_seq_k ?_; intro K hK
  refine region_list ?_
  refine list_pure E rfl rfl (by decide) (rn_move E rfl rfl) ?_; clear E a; intro a E
  refine list_pure E rfl rfl (by decide) (by first | exact rn_len E rfl rfl rfl | exact rn_len_str E rfl rfl rfl | exact rn_len_string E rfl rfl rfl) ?_; clear E a; intro a E
  refine list_pure E rfl rfl (by decide) (rn_move E rfl rfl) ?_; clear E a; intro a E
  refine wpList_nil ?_
  refine then_k hK ?_; clear hK; clear K
  refine wp_block ?_
  refine wp_loop_ghost (fun (m : Nat) (a : Act) (w' : World) => ∃ i : Nat, m = ls.length - i ∧ i ≤ ls.length ∧ St w0 [D, O] w' [D, O] ∧ Fr a 36 [(0, .slice ad ls.length c), (3, .int .i64 (lens (ls.take i) : Nat)), (9, .slice ad ls.length c), (10, .int .i64 ls.length), (11, .int .i64 i)]) (ls.length - 0) ?_ ?_
  · exact ⟨0, rfl, by omega, S, E.keep (keep_cons rfl (keep_cons rfl (keep_cons rfl (keep_cons rfl (keep_cons rfl keep_nil)))))⟩
  clear E; clear a; (try clear S); rintro m a w ⟨i, rfl, hi, S, E⟩
  refine wp_seq_k ?_; intro K hK
  refine region_list ?_
  refine list_pure E rfl rfl (by decide) (rn_lss E rfl rfl rfl) ?_; clear E a; intro a E
  refine wpList_nil ?_
  refine then_k hK ?_; clear hK; clear K
  refine wp_seq_k ?_; intro K hK
  refine if_bool E rfl (fun hb => ?_) (fun hb => ?_)
  · replace hb := Nrm.nrm hb
    refine wp_skip ?_
    refine then_k hK ?_; clear hK; clear K
    refine wp_seq_k ?_; intro K hK
    refine wp_block ?_
    refine wp_seq_k ?_; intro K hK
    obtain ⟨b, off, rfl⟩ := hD.addr (by omega)
    have hil : i < ls.length := by omega
    obtain ⟨ad2, c2, he2⟩ := hO.sl ls[i] (List.getElem_mem hil)
    have hst := lens_take_succ ls hil
    have hsl := lens_take_le ls (i + 1)
    refine region_list ?_
    refine list_pure E rfl rfl (by decide) (by first | exact rn_indexAddr1 E rfl rfl rfl rfl rfl rfl (by omega) | exact rn_indexAddr E rfl rfl rfl rfl rfl rfl (by omega) | exact rn_indexAddr_array E rfl rfl rfl rfl rfl rfl (by omega)) ?_; clear E a; intro a E
    refine list_pure E rfl rfl (by decide) (rn_loadc E rfl rfl rfl (hD.cells (S.stab.at (by repeat (first | exact mm1 | assumption | apply List.Mem.tail))) rfl i (.slice ad2 ls[i].2.length c2) (by simp [hil, he2]))) ?_; clear E a; intro a E
    refine list_pure E rfl rfl (by decide) (rn_assign E rfl rfl) ?_; clear E a; intro a E
    refine wpList_nil ?_
    refine then_k hK ?_; clear hK; clear K
    refine wp_seq_k ?_; intro K hK
    refine region_list ?_
    refine list_pure E rfl rfl (by decide) (rn_move E rfl rfl) ?_; clear E a; intro a E
    refine list_pure E rfl rfl (by decide) (rn_move E rfl rfl) ?_; clear E a; intro a E
    refine list_pure E rfl rfl (by decide) (by first | exact rn_len E rfl rfl rfl | exact rn_len_str E rfl rfl rfl | exact rn_len_string E rfl rfl rfl) ?_; clear E a; intro a E
    refine list_pure E rfl rfl (by decide) (rn_add E rfl rfl rfl (by first | exact wa1 (by omega) | exact w_in (by omega) | exact w_inu (by omega) | exact rfl)) ?_; clear E a; intro a E
    refine list_pure E rfl rfl (by decide) (rn_assign E rfl rfl) ?_; clear E a; intro a E
    refine wpList_nil ?_
    refine then_k hK ?_; clear hK; clear K
    refine wp_seq_k ?_; intro K hK
    refine region_list ?_
    refine list_pure E rfl rfl (by decide) (rn_move E rfl rfl) ?_; clear E a; intro a E
    refine list_pure E rfl rfl (by decide) (rn_lss E rfl rfl rfl) ?_; clear E a; intro a E
    refine wpList_nil ?_
    refine then_k hK ?_; clear hK; clear K
    refine if_bool E rfl (fun hb => ?_) (fun hb => ?_)
    · replace hb := Nrm.nrm hb
      exfalso; omega
    · replace hb := Nrm.nrm hb
      refine wp_skip ?_
      refine in_normal ?_
      refine then_k hK ?_; clear hK; clear K
      refine region_list ?_
      refine list_pure E rfl rfl (by decide) (rn_add E rfl rfl rfl (by first | exact wa_lit (y := 1) (by omega) | exact w_in (by omega) | exact w_inu (by omega) | exact rfl)) ?_; clear E a; intro a E
      refine list_pure E rfl rfl (by decide) (rn_move E rfl rfl) ?_; clear E a; intro a E
      refine wpList_nil ?_
      refine then_normal ?_
      rw [← hst] at E; exact ⟨_, by omega, i + 1, rfl, by omega, S, E.keep (keep_cons rfl (keep_cons rfl (keep_cons rfl (keep_cons rfl (keep_cons rfl keep_nil)))))⟩
  · replace hb := Nrm.nrm hb
    refine wp_exit ?_
    refine then_exit ?_; clear hK; clear K
    refine then_exit ?_
    refine in_exit ?_
    refine then_k hK ?_; clear hK; clear K
    refine wp_seq_k ?_; intro K hK
    have hlx := lens_take_le ls i
    refine region_list ?_
    refine list_pure E rfl rfl (by decide) (rn_move E rfl rfl) ?_; clear E a; intro a E
    refine list_call E rfl rfl (by decide) rfl Try.func47 rfl (by kernel_rfl) rfl (grow_ret _ (by omega) _) ?_
    rintro v24 w ⟨C, hB, hT⟩; clear E a; intro a E
    have S := S.fresh hT
    refine list_pure E rfl rfl (by decide) (rn_assign E rfl rfl) ?_; clear E a; intro a E
    refine wpList_nil ?_
    refine then_k hK ?_; clear hK; clear K
    refine wp_seq_k ?_; intro K hK
    refine wp_seq_k ?_; intro K hK
    refine region_list ?_
    refine list_pure E rfl rfl (by decide) (rn_move E rfl rfl) ?_; clear E a; intro a E
    refine list_pure E rfl rfl (by decide) (by first | exact rn_len E rfl rfl rfl | exact rn_len_str E rfl rfl rfl | exact rn_len_string E rfl rfl rfl) ?_; clear E a; intro a E
    refine list_pure E rfl rfl (by decide) (rn_move E rfl rfl) ?_; clear E a; intro a E
    refine wpList_nil ?_
    refine then_k hK ?_; clear hK; clear K
    refine wp_block ?_
    refine wp_loop_ghost (fun (m : Nat) (a : Act) (w' : World) => ∃ (i : Nat) (C : Chunk) (v : Value), m = ls.length - i ∧ i ≤ ls.length ∧ Buf C 31 2 v (lens (ls.take i)) ((ls.take i).flatMap fun x => x.2.flatMap Sp.lay) ∧ St w0 [D, O] w' [C, D, O] ∧ Fr a 36 [(0, .slice ad ls.length c), (6, v), (25, .slice ad ls.length c), (26, .int .i64 ls.length), (27, .int .i64 i)]) (ls.length - 0) ?_ ?_
    · exact ⟨0, C, v24, rfl, by omega, hB, S, E.keep (keep_cons rfl (keep_cons rfl (keep_cons rfl (keep_cons rfl (keep_cons rfl keep_nil)))))⟩
    clear E; clear a; (try clear S); rintro m a w ⟨i, C, v, rfl, hi, hB, S, E⟩
    refine wp_seq_k ?_; intro K hK
    refine region_list ?_
    refine list_pure E rfl rfl (by decide) (rn_lss E rfl rfl rfl) ?_; clear E a; intro a E
    refine wpList_nil ?_
    refine then_k hK ?_; clear hK; clear K
    refine wp_seq_k ?_; intro K hK
    refine if_bool E rfl (fun hb => ?_) (fun hb => ?_)
    · replace hb := Nrm.nrm hb
      refine wp_skip ?_
      refine then_k hK ?_; clear hK; clear K
      refine wp_seq_k ?_; intro K hK
      refine wp_block ?_
      refine wp_seq_k ?_; intro K hK
      obtain ⟨b, off, rfl⟩ := hD.addr (by omega)
      have hil : i < ls.length := by omega
      obtain ⟨ad2, c2, he2⟩ := hO.sl ls[i] (List.getElem_mem hil)
      have hst := lens_take_succ ls hil
      have hsl := lens_take_le ls (i + 1)
      have hft := flat_take_succ (fun x : Value × List Sp => x.2.flatMap Sp.lay) ls hil
      have hrd := hO.rd ls[i] (List.getElem_mem hil)
      rw [he2] at hrd
      refine region_list ?_
      refine list_pure E rfl rfl (by decide) (by first | exact rn_indexAddr1 E rfl rfl rfl rfl rfl rfl (by omega) | exact rn_indexAddr E rfl rfl rfl rfl rfl rfl (by omega) | exact rn_indexAddr_array E rfl rfl rfl rfl rfl rfl (by omega)) ?_; clear E a; intro a E
      refine list_pure E rfl rfl (by decide) (rn_loadc E rfl rfl rfl (hD.cells (S.stab.at (by repeat (first | exact mm1 | assumption | apply List.Mem.tail))) rfl i (.slice ad2 ls[i].2.length c2) (by simp [hil, he2]))) ?_; clear E a; intro a E
      refine list_pure E rfl rfl (by decide) (rn_assign E rfl rfl) ?_; clear E a; intro a E
      refine wpList_nil ?_
      refine then_k hK ?_; clear hK; clear K
      refine region_list ?_
      refine list_pure E rfl rfl (by decide) (rn_move E rfl rfl) ?_; clear E a; intro a E
      refine list_pure E rfl rfl (by decide) (rn_move E rfl rfl) ?_; clear E a; intro a E
      refine list_wp rfl (wp_append (by' := 16) E S rfl rfl (by decide) rfl rfl hB (by repeat (first | exact pk1 | apply pick_tail)) (hrd.src (S.stab.at (by repeat (first | exact mm1 | assumption | apply List.Mem.tail))) rfl) rfl rfl rfl rfl rfl rfl (by simp only [maxLen]; omega) (by omega) ?_); clear E S a; intro a w v33 C33 E S hB33
      refine list_pure E rfl rfl (by decide) (rn_assign E rfl rfl) ?_; clear E a; intro a E
      refine wpList_nil ?_
      refine in_normal ?_
      refine then_k hK ?_; clear hK; clear K
      refine region_list ?_
      refine list_pure E rfl rfl (by decide) (rn_add E rfl rfl rfl (by first | exact wa_lit (y := 1) (by omega) | exact w_in (by omega) | exact w_inu (by omega) | exact rfl)) ?_; clear E a; intro a E
      refine list_pure E rfl rfl (by decide) (rn_move E rfl rfl) ?_; clear E a; intro a E
      refine wpList_nil ?_
      refine then_normal ?_
      exact ⟨_, by omega, i + 1, C33, v33, rfl, by omega, by rw [hst, hft]; exact hB33, S, E.keep (keep_cons rfl (keep_cons rfl (keep_cons rfl (keep_cons rfl (keep_cons rfl keep_nil)))))⟩
    · replace hb := Nrm.nrm hb
      refine wp_exit ?_
      refine then_exit ?_; clear hK; clear K
      refine then_exit ?_
      refine in_exit ?_
      refine then_k hK ?_; clear hK; clear K
      refine wp_seq_k ?_; intro K hK
      refine region_list ?_
      refine list_pure E rfl rfl (by decide) (rn_move E rfl rfl) ?_; clear E a; intro a E
      refine list_pure E rfl rfl (by decide) (rn_assign E rfl rfl) ?_; clear E a; intro a E
      refine wpList_nil ?_
      refine then_k hK ?_; clear hK; clear K
      refine wp_ret ?_
      refine ret1 E rfl rfl ?_
      obtain rfl : i = ls.length := by omega
      refine ⟨_, rfl, C, ?_, (S.perm (Bs := [D, O, C]) ?_).tr⟩
      · rw [List.flatMap_assoc]; rw [List.take_length] at hB; exact hB
      · exact (List.Perm.swap _ _ _).trans ((List.Perm.swap _ _ _).cons _)

theorem clone_ret (O : Chunk) (v : Value) (l : List Sp) (hl : l.length ≤ 100000) (hO : Rd O 2 v l.length (l.flatMap Sp.lay)) (w0 : World) (H : Hp w0 [O]) :
    Ret Try.prog 43 #[v] w0 fun u w' => ∃ C, Buf C 31 2 u l.length (l.flatMap Sp.lay) ∧ Trs w0 w' [O] [O, C] := by
  have S := St.begin H
  obtain ⟨ad, c, rfl⟩ := hO.slice
  refine enter1 8 Try.func43 rfl rfl (by decide) ?_; intro a E
  refine wp_seq_k ?_; intro K hK
  refine region_list ?_
  refine list_pure E rfl rfl (by decide) (rn_assign E rfl rfl) ?_; clear E a; intro a E
  refine wpList_nil ?_
  refine then_k hK ?_; clear hK; clear K
  refine wp_seq_k ?_; intro K hK
  refine wp_seq_k ?_; intro K hK
  refine region_list ?_
  refine list_pure E rfl rfl (by decide) (rn_move E rfl rfl) ?_; clear E a; intro a E
  refine list_pure E rfl rfl (by decide) (rn_eql_slice_nil E rfl rfl rfl rfl) ?_; clear E a; intro a E
  refine wpList_nil ?_
  refine then_k hK ?_; clear hK; clear K
  refine if_bool E rfl (fun hb => ?_) (fun hb => ?_)
  · replace hb := Nrm.nrm hb
    refine wp_seq_k ?_; intro K hK
    refine region_list ?_
    refine list_pure E rfl rfl (by decide) (rn_assign E rfl rfl) ?_; clear E a; intro a E
    refine wpList_nil ?_
    refine then_k hK ?_; clear hK; clear K
    refine wp_ret ?_
    refine then_ret ?_; clear hK; clear K
    refine ret1 E rfl rfl ?_
    obtain rfl : ad = none := by cases ad <;> simp_all
    have h0 : l.length = 0 := by
      rcases hO.2.2.2 with ⟨h, _⟩ | ⟨b, off, c', l', T, fr, h, _⟩
      · exact h
      · cases h
    obtain rfl := List.eq_nil_of_length_eq_zero h0
    exact ⟨_, rfl, _, Buf.nil _ _, (S.perm (Bs := [O]) (List.Perm.refl _)).addNil.perm2.tr⟩
  · replace hb := Nrm.nrm hb
    refine wp_skip ?_
    refine then_k hK ?_; clear hK; clear K
    refine wp_seq_k ?_; intro K hK
    refine region_list ?_
    refine list_wp rfl (wp_bslice0 E S rfl rfl (by decide) rfl rfl ?_); clear E S a; intro a w b5 E S
    refine list_pure E rfl rfl (by decide) (rn_move E rfl rfl) ?_; clear E a; intro a E
    refine list_wp rfl (wp_append (by' := 16) E S rfl rfl (by decide) rfl rfl (buf_room (by decide) rfl) (by repeat (first | exact pk1 | apply pick_tail)) (hO.src (S.stab.at (by repeat (first | exact mm1 | assumption | apply List.Mem.tail))) rfl) rfl rfl rfl rfl rfl rfl (by simp only [maxLen]; omega) (by omega) ?_); clear E S a; intro a w v7 C7 E S hB7
    refine list_pure E rfl rfl (by decide) (rn_assign E rfl rfl) ?_; clear E a; intro a E
    refine wpList_nil ?_
    refine then_k hK ?_; clear hK; clear K
    refine wp_ret ?_
    refine ret1 E rfl rfl ?_
    exact ⟨_, rfl, C7, by simpa using hB7, S.perm2.tr⟩
end Go.Proofs.Ytenhebjhoicpjaa
