/-
  Replies as frames: the document's; FrameAnswers.
-/
import Derived.Test.YtjhmjdgdgpgcdaaDoorRepS
import Derived.Test.YtjhmjdgdgpgcdaaDoorFrameZ
namespace Go.Proofs.YtjhmjdgdgpgcdaaDoor
open Go.Sl
set_option maxRecDepth 10000

theorem danswers_ret (r : Rp) (L : Chunk) (v : Value) (ad : Option Addr) (c : Nat) (hL : Rd L 1 v r.list.length (sts r.list)) (hl : r.list.length ≤ 140737488355328) (w0 : World) (H : Hp w0 [L]) : Ret Tryd.prog 43 #[rpagg r v (.slice ad r.data.length c)] w0 fun u w' => u = .bool (decide r.may) ∧ Trs w0 w' [L] [L] := by
  have S := St.begin H
  have hL0 := hL
  obtain ⟨adl, cl, rfl⟩ := hL.slice
  refine enter1 72 Tryd.func43 rfl rfl (by decide) ?_; intro a E
  refine wp_seq_k ?_; intro K hK
  refine region_list ?_
  refine list_wp rfl (wp_box E S rfl rfl (by decide) rfl rfl ?_); clear E S a; intro a w b1 E S
  refine list_pure E rfl rfl (by decide) (rn_assign E rfl rfl) ?_; clear E a; intro a E
  refine wpList_nil ?_
  refine then_k hK ?_; clear hK; clear K
  refine wp_seq_k ?_; intro K hK
  refine wp_seq_k ?_; intro K hK
  refine region_list ?_
  refine list_pure E rfl rfl (by decide) (by first | exact rn_fieldAddr0 (q := 0) E rfl rfl rfl | exact rn_fieldAddr (q := 0) E rfl rfl rfl) ?_; clear E a; intro a E
  refine list_pure E rfl rfl (by decide) (by first | exact rn_load E rfl rfl rfl (S.get (by repeat (first | exact pk1 | apply pick_tail))) rfl | exact rn_loadc E rfl rfl rfl (by assumption)) ?_; clear E a; intro a E
  refine list_pure E rfl rfl (by decide) (rn_lss E rfl rfl rfl) ?_; clear E a; intro a E
  refine list_pure E rfl rfl (by decide) (rn_move E rfl rfl) ?_; clear E a; intro a E
  refine guard_split E (t := 7) rfl (fun hb7 => ?_) (fun hb7 => ?_)
  · have hb7n := hb7; replace hb7n := Nrm.nrm hb7n
    refine list_guard_no E rfl rfl rfl rfl hb7 rfl (by decide) ?_; clear E a; intro a E
    refine list_guard_no E rfl rfl rfl rfl hb7 rfl (by decide) ?_; clear E a; intro a E
    refine list_guard_no E rfl rfl rfl rfl hb7 rfl (by decide) ?_; clear E a; intro a E
    refine list_pure E rfl rfl (by decide) (rn_pick_yes' E rfl rfl hb7 rfl) ?_; clear E a; intro a E
    refine list_pure E rfl rfl (by decide) (rn_move E rfl rfl) ?_; clear E a; intro a E
    refine list_guard_no E rfl rfl rfl rfl rfl rfl (by decide) ?_; clear E a; intro a E
    refine list_guard_no E rfl rfl rfl rfl rfl rfl (by decide) ?_; clear E a; intro a E
    refine list_guard_no E rfl rfl rfl rfl rfl rfl (by decide) ?_; clear E a; intro a E
    refine list_pure E rfl rfl (by decide) (rn_pick_yes' E rfl rfl rfl rfl) ?_; clear E a; intro a E
    refine list_pure E rfl rfl (by decide) (rn_move E rfl rfl) ?_; clear E a; intro a E
    refine list_guard_no E rfl rfl rfl rfl rfl rfl (by decide) ?_; clear E a; intro a E
    refine list_guard_no E rfl rfl rfl rfl rfl rfl (by decide) ?_; clear E a; intro a E
    refine list_guard_no E rfl rfl rfl rfl rfl rfl (by decide) ?_; clear E a; intro a E
    refine list_pure E rfl rfl (by decide) (rn_pick_yes' E rfl rfl rfl rfl) ?_; clear E a; intro a E
    refine list_pure E rfl rfl (by decide) (rn_move E rfl rfl) ?_; clear E a; intro a E
    refine list_guard_no E rfl rfl rfl rfl rfl rfl (by decide) ?_; clear E a; intro a E
    refine list_guard_no E rfl rfl rfl rfl rfl rfl (by decide) ?_; clear E a; intro a E
    refine list_guard_no E rfl rfl rfl rfl rfl rfl (by decide) ?_; clear E a; intro a E
    refine list_pure E rfl rfl (by decide) (rn_pick_yes' E rfl rfl rfl rfl) ?_; clear E a; intro a E
    refine list_pure E rfl rfl (by decide) (rn_move E rfl rfl) ?_; clear E a; intro a E
    refine list_guard_no E rfl rfl rfl rfl rfl rfl (by decide) ?_; clear E a; intro a E
    refine list_guard_no E rfl rfl rfl rfl rfl rfl (by decide) ?_; clear E a; intro a E
    refine list_guard_no E rfl rfl rfl rfl rfl rfl (by decide) ?_; clear E a; intro a E
    refine list_pure E rfl rfl (by decide) (rn_pick_yes' E rfl rfl rfl rfl) ?_; clear E a; intro a E
    refine list_pure E rfl rfl (by decide) (rn_move E rfl rfl) ?_; clear E a; intro a E
    refine list_guard_no E rfl rfl rfl rfl rfl rfl (by decide) ?_; clear E a; intro a E
    refine list_guard_no E rfl rfl rfl rfl rfl rfl (by decide) ?_; clear E a; intro a E
    refine list_guard_no E rfl rfl rfl rfl rfl rfl (by decide) ?_; clear E a; intro a E
    refine list_pure E rfl rfl (by decide) (rn_pick_yes' E rfl rfl rfl rfl) ?_; clear E a; intro a E
    refine list_pure E rfl rfl (by decide) (rn_move E rfl rfl) ?_; clear E a; intro a E
    refine list_guard_no E rfl rfl rfl rfl rfl rfl (by decide) ?_; clear E a; intro a E
    refine list_guard_no E rfl rfl rfl rfl rfl rfl (by decide) ?_; clear E a; intro a E
    refine list_guard_no E rfl rfl rfl rfl rfl rfl (by decide) ?_; clear E a; intro a E
    refine list_pure E rfl rfl (by decide) (rn_pick_yes' E rfl rfl rfl rfl) ?_; clear E a; intro a E
    refine wpList_nil ?_
    refine then_k hK ?_; clear hK; clear K
    refine if_true' E rfl rfl ?_
    refine wp_seq_k ?_; intro K hK
    replace E := E.keep (e' := [(1, _), (2, _)]) (keep_cons rfl (keep_cons rfl (keep_nil)))
    refine region_list ?_
    refine list_pure E rfl rfl (by decide) (rn_assign E rfl rfl) ?_; clear E a; intro a E
    refine wpList_nil ?_
    refine then_k hK ?_; clear hK; clear K
    refine wp_ret ?_
    refine then_ret ?_; clear hK; clear K
    refine ret1 E rfl rfl ?_
    exact ⟨_, rfl, by congr 1; symm; rw [decide_eq_false_iff_not]; unfold Rp.may; omega, (S.only (Bs := [L]) (sel_cons (by repeat (first | exact pk1 | apply pick_tail)) (sel_nil _))).tr⟩
  · have hb7n := hb7; replace hb7n := Nrm.nrm hb7n
    refine list_guard_yes E rfl rfl rfl rfl hb7 rfl (by decide) (by first | exact rn_fieldAddr0 (q := 0) E rfl rfl rfl | exact rn_fieldAddr (q := 0) E rfl rfl rfl) ?_; clear E a; intro a E
    refine list_guard_yes E rfl rfl rfl rfl hb7 rfl (by decide) (by first | exact rn_load E rfl rfl rfl (S.get (by repeat (first | exact pk1 | apply pick_tail))) rfl | exact rn_loadc E rfl rfl rfl (by assumption)) ?_; clear E a; intro a E
    refine list_guard_yes E rfl rfl rfl rfl hb7 rfl (by decide) (rn_gtr E rfl rfl rfl) ?_; clear E a; intro a E
    refine list_pure E rfl rfl (by decide) (rn_pick_no' E rfl rfl hb7 rfl) ?_; clear E a; intro a E
    refine list_pure E rfl rfl (by decide) (rn_move E rfl rfl) ?_; clear E a; intro a E
    refine guard_split E (t := 12) rfl (fun hb12 => ?_) (fun hb12 => ?_)
    · have hb12n := hb12; replace hb12n := Nrm.nrm hb12n
      refine list_guard_no E rfl rfl rfl rfl hb12 rfl (by decide) ?_; clear E a; intro a E
      refine list_guard_no E rfl rfl rfl rfl hb12 rfl (by decide) ?_; clear E a; intro a E
      refine list_guard_no E rfl rfl rfl rfl hb12 rfl (by decide) ?_; clear E a; intro a E
      refine list_pure E rfl rfl (by decide) (rn_pick_yes' E rfl rfl hb12 rfl) ?_; clear E a; intro a E
      refine list_pure E rfl rfl (by decide) (rn_move E rfl rfl) ?_; clear E a; intro a E
      refine list_guard_no E rfl rfl rfl rfl rfl rfl (by decide) ?_; clear E a; intro a E
      refine list_guard_no E rfl rfl rfl rfl rfl rfl (by decide) ?_; clear E a; intro a E
      refine list_guard_no E rfl rfl rfl rfl rfl rfl (by decide) ?_; clear E a; intro a E
      refine list_pure E rfl rfl (by decide) (rn_pick_yes' E rfl rfl rfl rfl) ?_; clear E a; intro a E
      refine list_pure E rfl rfl (by decide) (rn_move E rfl rfl) ?_; clear E a; intro a E
      refine list_guard_no E rfl rfl rfl rfl rfl rfl (by decide) ?_; clear E a; intro a E
      refine list_guard_no E rfl rfl rfl rfl rfl rfl (by decide) ?_; clear E a; intro a E
      refine list_guard_no E rfl rfl rfl rfl rfl rfl (by decide) ?_; clear E a; intro a E
      refine list_pure E rfl rfl (by decide) (rn_pick_yes' E rfl rfl rfl rfl) ?_; clear E a; intro a E
      refine list_pure E rfl rfl (by decide) (rn_move E rfl rfl) ?_; clear E a; intro a E
      refine list_guard_no E rfl rfl rfl rfl rfl rfl (by decide) ?_; clear E a; intro a E
      refine list_guard_no E rfl rfl rfl rfl rfl rfl (by decide) ?_; clear E a; intro a E
      refine list_guard_no E rfl rfl rfl rfl rfl rfl (by decide) ?_; clear E a; intro a E
      refine list_pure E rfl rfl (by decide) (rn_pick_yes' E rfl rfl rfl rfl) ?_; clear E a; intro a E
      refine list_pure E rfl rfl (by decide) (rn_move E rfl rfl) ?_; clear E a; intro a E
      refine list_guard_no E rfl rfl rfl rfl rfl rfl (by decide) ?_; clear E a; intro a E
      refine list_guard_no E rfl rfl rfl rfl rfl rfl (by decide) ?_; clear E a; intro a E
      refine list_guard_no E rfl rfl rfl rfl rfl rfl (by decide) ?_; clear E a; intro a E
      refine list_pure E rfl rfl (by decide) (rn_pick_yes' E rfl rfl rfl rfl) ?_; clear E a; intro a E
      refine list_pure E rfl rfl (by decide) (rn_move E rfl rfl) ?_; clear E a; intro a E
      refine list_guard_no E rfl rfl rfl rfl rfl rfl (by decide) ?_; clear E a; intro a E
      refine list_guard_no E rfl rfl rfl rfl rfl rfl (by decide) ?_; clear E a; intro a E
      refine list_guard_no E rfl rfl rfl rfl rfl rfl (by decide) ?_; clear E a; intro a E
      refine list_pure E rfl rfl (by decide) (rn_pick_yes' E rfl rfl rfl rfl) ?_; clear E a; intro a E
      refine wpList_nil ?_
      refine then_k hK ?_; clear hK; clear K
      refine if_true' E rfl rfl ?_
      refine wp_seq_k ?_; intro K hK
      replace E := E.keep (e' := [(1, _), (2, _)]) (keep_cons rfl (keep_cons rfl (keep_nil)))
      refine region_list ?_
      refine list_pure E rfl rfl (by decide) (rn_assign E rfl rfl) ?_; clear E a; intro a E
      refine wpList_nil ?_
      refine then_k hK ?_; clear hK; clear K
      refine wp_ret ?_
      refine then_ret ?_; clear hK; clear K
      refine ret1 E rfl rfl ?_
      exact ⟨_, rfl, by congr 1; symm; rw [decide_eq_false_iff_not]; unfold Rp.may; omega, (S.only (Bs := [L]) (sel_cons (by repeat (first | exact pk1 | apply pick_tail)) (sel_nil _))).tr⟩
    · have hb12n := hb12; replace hb12n := Nrm.nrm hb12n
      refine list_guard_yes E rfl rfl rfl rfl hb12 rfl (by decide) (by first | exact rn_fieldAddr0 (q := 1) E rfl rfl rfl | exact rn_fieldAddr (q := 1) E rfl rfl rfl) ?_; clear E a; intro a E
      refine list_guard_yes E rfl rfl rfl rfl hb12 rfl (by decide) (by first | exact rn_load E rfl rfl rfl (S.get (by repeat (first | exact pk1 | apply pick_tail))) rfl | exact rn_loadc E rfl rfl rfl (by assumption)) ?_; clear E a; intro a E
      refine list_guard_yes E rfl rfl rfl rfl hb12 rfl (by decide) (rn_lss E rfl rfl rfl) ?_; clear E a; intro a E
      refine list_pure E rfl rfl (by decide) (rn_pick_no' E rfl rfl hb12 rfl) ?_; clear E a; intro a E
      refine list_pure E rfl rfl (by decide) (rn_move E rfl rfl) ?_; clear E a; intro a E
      refine guard_split E (t := 17) rfl (fun hb17 => ?_) (fun hb17 => ?_)
      · have hb17n := hb17; replace hb17n := Nrm.nrm hb17n
        refine list_guard_no E rfl rfl rfl rfl hb17 rfl (by decide) ?_; clear E a; intro a E
        refine list_guard_no E rfl rfl rfl rfl hb17 rfl (by decide) ?_; clear E a; intro a E
        refine list_guard_no E rfl rfl rfl rfl hb17 rfl (by decide) ?_; clear E a; intro a E
        refine list_pure E rfl rfl (by decide) (rn_pick_yes' E rfl rfl hb17 rfl) ?_; clear E a; intro a E
        refine list_pure E rfl rfl (by decide) (rn_move E rfl rfl) ?_; clear E a; intro a E
        refine list_guard_no E rfl rfl rfl rfl rfl rfl (by decide) ?_; clear E a; intro a E
        refine list_guard_no E rfl rfl rfl rfl rfl rfl (by decide) ?_; clear E a; intro a E
        refine list_guard_no E rfl rfl rfl rfl rfl rfl (by decide) ?_; clear E a; intro a E
        refine list_pure E rfl rfl (by decide) (rn_pick_yes' E rfl rfl rfl rfl) ?_; clear E a; intro a E
        refine list_pure E rfl rfl (by decide) (rn_move E rfl rfl) ?_; clear E a; intro a E
        refine list_guard_no E rfl rfl rfl rfl rfl rfl (by decide) ?_; clear E a; intro a E
        refine list_guard_no E rfl rfl rfl rfl rfl rfl (by decide) ?_; clear E a; intro a E
        refine list_guard_no E rfl rfl rfl rfl rfl rfl (by decide) ?_; clear E a; intro a E
        refine list_pure E rfl rfl (by decide) (rn_pick_yes' E rfl rfl rfl rfl) ?_; clear E a; intro a E
        refine list_pure E rfl rfl (by decide) (rn_move E rfl rfl) ?_; clear E a; intro a E
        refine list_guard_no E rfl rfl rfl rfl rfl rfl (by decide) ?_; clear E a; intro a E
        refine list_guard_no E rfl rfl rfl rfl rfl rfl (by decide) ?_; clear E a; intro a E
        refine list_guard_no E rfl rfl rfl rfl rfl rfl (by decide) ?_; clear E a; intro a E
        refine list_pure E rfl rfl (by decide) (rn_pick_yes' E rfl rfl rfl rfl) ?_; clear E a; intro a E
        refine list_pure E rfl rfl (by decide) (rn_move E rfl rfl) ?_; clear E a; intro a E
        refine list_guard_no E rfl rfl rfl rfl rfl rfl (by decide) ?_; clear E a; intro a E
        refine list_guard_no E rfl rfl rfl rfl rfl rfl (by decide) ?_; clear E a; intro a E
        refine list_guard_no E rfl rfl rfl rfl rfl rfl (by decide) ?_; clear E a; intro a E
        refine list_pure E rfl rfl (by decide) (rn_pick_yes' E rfl rfl rfl rfl) ?_; clear E a; intro a E
        refine wpList_nil ?_
        refine then_k hK ?_; clear hK; clear K
        refine if_true' E rfl rfl ?_
        refine wp_seq_k ?_; intro K hK
        replace E := E.keep (e' := [(1, _), (2, _)]) (keep_cons rfl (keep_cons rfl (keep_nil)))
        refine region_list ?_
        refine list_pure E rfl rfl (by decide) (rn_assign E rfl rfl) ?_; clear E a; intro a E
        refine wpList_nil ?_
        refine then_k hK ?_; clear hK; clear K
        refine wp_ret ?_
        refine then_ret ?_; clear hK; clear K
        refine ret1 E rfl rfl ?_
        exact ⟨_, rfl, by congr 1; symm; rw [decide_eq_false_iff_not]; unfold Rp.may; omega, (S.only (Bs := [L]) (sel_cons (by repeat (first | exact pk1 | apply pick_tail)) (sel_nil _))).tr⟩
      · have hb17n := hb17; replace hb17n := Nrm.nrm hb17n
        refine list_guard_yes E rfl rfl rfl rfl hb17 rfl (by decide) (by first | exact rn_fieldAddr0 (q := 1) E rfl rfl rfl | exact rn_fieldAddr (q := 1) E rfl rfl rfl) ?_; clear E a; intro a E
        refine list_guard_yes E rfl rfl rfl rfl hb17 rfl (by decide) (by first | exact rn_load E rfl rfl rfl (S.get (by repeat (first | exact pk1 | apply pick_tail))) rfl | exact rn_loadc E rfl rfl rfl (by assumption)) ?_; clear E a; intro a E
        refine list_guard_yes E rfl rfl rfl rfl hb17 rfl (by decide) (rn_gtr E rfl rfl rfl) ?_; clear E a; intro a E
        refine list_pure E rfl rfl (by decide) (rn_pick_no' E rfl rfl hb17 rfl) ?_; clear E a; intro a E
        refine list_pure E rfl rfl (by decide) (rn_move E rfl rfl) ?_; clear E a; intro a E
        refine guard_split E (t := 22) rfl (fun hb22 => ?_) (fun hb22 => ?_)
        · have hb22n := hb22; replace hb22n := Nrm.nrm hb22n
          refine list_guard_no E rfl rfl rfl rfl hb22 rfl (by decide) ?_; clear E a; intro a E
          refine list_guard_no E rfl rfl rfl rfl hb22 rfl (by decide) ?_; clear E a; intro a E
          refine list_guard_no E rfl rfl rfl rfl hb22 rfl (by decide) ?_; clear E a; intro a E
          refine list_pure E rfl rfl (by decide) (rn_pick_yes' E rfl rfl hb22 rfl) ?_; clear E a; intro a E
          refine list_pure E rfl rfl (by decide) (rn_move E rfl rfl) ?_; clear E a; intro a E
          refine list_guard_no E rfl rfl rfl rfl rfl rfl (by decide) ?_; clear E a; intro a E
          refine list_guard_no E rfl rfl rfl rfl rfl rfl (by decide) ?_; clear E a; intro a E
          refine list_guard_no E rfl rfl rfl rfl rfl rfl (by decide) ?_; clear E a; intro a E
          refine list_pure E rfl rfl (by decide) (rn_pick_yes' E rfl rfl rfl rfl) ?_; clear E a; intro a E
          refine list_pure E rfl rfl (by decide) (rn_move E rfl rfl) ?_; clear E a; intro a E
          refine list_guard_no E rfl rfl rfl rfl rfl rfl (by decide) ?_; clear E a; intro a E
          refine list_guard_no E rfl rfl rfl rfl rfl rfl (by decide) ?_; clear E a; intro a E
          refine list_guard_no E rfl rfl rfl rfl rfl rfl (by decide) ?_; clear E a; intro a E
          refine list_pure E rfl rfl (by decide) (rn_pick_yes' E rfl rfl rfl rfl) ?_; clear E a; intro a E
          refine list_pure E rfl rfl (by decide) (rn_move E rfl rfl) ?_; clear E a; intro a E
          refine list_guard_no E rfl rfl rfl rfl rfl rfl (by decide) ?_; clear E a; intro a E
          refine list_guard_no E rfl rfl rfl rfl rfl rfl (by decide) ?_; clear E a; intro a E
          refine list_guard_no E rfl rfl rfl rfl rfl rfl (by decide) ?_; clear E a; intro a E
          refine list_pure E rfl rfl (by decide) (rn_pick_yes' E rfl rfl rfl rfl) ?_; clear E a; intro a E
          refine wpList_nil ?_
          refine then_k hK ?_; clear hK; clear K
          refine if_true' E rfl rfl ?_
          refine wp_seq_k ?_; intro K hK
          replace E := E.keep (e' := [(1, _), (2, _)]) (keep_cons rfl (keep_cons rfl (keep_nil)))
          refine region_list ?_
          refine list_pure E rfl rfl (by decide) (rn_assign E rfl rfl) ?_; clear E a; intro a E
          refine wpList_nil ?_
          refine then_k hK ?_; clear hK; clear K
          refine wp_ret ?_
          refine then_ret ?_; clear hK; clear K
          refine ret1 E rfl rfl ?_
          exact ⟨_, rfl, by congr 1; symm; rw [decide_eq_false_iff_not]; unfold Rp.may; omega, (S.only (Bs := [L]) (sel_cons (by repeat (first | exact pk1 | apply pick_tail)) (sel_nil _))).tr⟩
        · have hb22n := hb22; replace hb22n := Nrm.nrm hb22n
          refine list_guard_yes E rfl rfl rfl rfl hb22 rfl (by decide) (by first | exact rn_fieldAddr0 (q := 2) E rfl rfl rfl | exact rn_fieldAddr (q := 2) E rfl rfl rfl) ?_; clear E a; intro a E
          refine list_guard_yes E rfl rfl rfl rfl hb22 rfl (by decide) (by first | exact rn_load E rfl rfl rfl (S.get (by repeat (first | exact pk1 | apply pick_tail))) rfl | exact rn_loadc E rfl rfl rfl (by assumption)) ?_; clear E a; intro a E
          refine list_guard_yes E rfl rfl rfl rfl hb22 rfl (by decide) (rn_lss E rfl rfl rfl) ?_; clear E a; intro a E
          refine list_pure E rfl rfl (by decide) (rn_pick_no' E rfl rfl hb22 rfl) ?_; clear E a; intro a E
          refine list_pure E rfl rfl (by decide) (rn_move E rfl rfl) ?_; clear E a; intro a E
          refine guard_split E (t := 27) rfl (fun hb27 => ?_) (fun hb27 => ?_)
          · have hb27n := hb27; replace hb27n := Nrm.nrm hb27n
            refine list_guard_no E rfl rfl rfl rfl hb27 rfl (by decide) ?_; clear E a; intro a E
            refine list_guard_no E rfl rfl rfl rfl hb27 rfl (by decide) ?_; clear E a; intro a E
            refine list_guard_no E rfl rfl rfl rfl hb27 rfl (by decide) ?_; clear E a; intro a E
            refine list_pure E rfl rfl (by decide) (rn_pick_yes' E rfl rfl hb27 rfl) ?_; clear E a; intro a E
            refine list_pure E rfl rfl (by decide) (rn_move E rfl rfl) ?_; clear E a; intro a E
            refine list_guard_no E rfl rfl rfl rfl rfl rfl (by decide) ?_; clear E a; intro a E
            refine list_guard_no E rfl rfl rfl rfl rfl rfl (by decide) ?_; clear E a; intro a E
            refine list_guard_no E rfl rfl rfl rfl rfl rfl (by decide) ?_; clear E a; intro a E
            refine list_pure E rfl rfl (by decide) (rn_pick_yes' E rfl rfl rfl rfl) ?_; clear E a; intro a E
            refine list_pure E rfl rfl (by decide) (rn_move E rfl rfl) ?_; clear E a; intro a E
            refine list_guard_no E rfl rfl rfl rfl rfl rfl (by decide) ?_; clear E a; intro a E
            refine list_guard_no E rfl rfl rfl rfl rfl rfl (by decide) ?_; clear E a; intro a E
            refine list_guard_no E rfl rfl rfl rfl rfl rfl (by decide) ?_; clear E a; intro a E
            refine list_pure E rfl rfl (by decide) (rn_pick_yes' E rfl rfl rfl rfl) ?_; clear E a; intro a E
            refine wpList_nil ?_
            refine then_k hK ?_; clear hK; clear K
            refine if_true' E rfl rfl ?_
            refine wp_seq_k ?_; intro K hK
            replace E := E.keep (e' := [(1, _), (2, _)]) (keep_cons rfl (keep_cons rfl (keep_nil)))
            refine region_list ?_
            refine list_pure E rfl rfl (by decide) (rn_assign E rfl rfl) ?_; clear E a; intro a E
            refine wpList_nil ?_
            refine then_k hK ?_; clear hK; clear K
            refine wp_ret ?_
            refine then_ret ?_; clear hK; clear K
            refine ret1 E rfl rfl ?_
            exact ⟨_, rfl, by congr 1; symm; rw [decide_eq_false_iff_not]; unfold Rp.may; omega, (S.only (Bs := [L]) (sel_cons (by repeat (first | exact pk1 | apply pick_tail)) (sel_nil _))).tr⟩
          · have hb27n := hb27; replace hb27n := Nrm.nrm hb27n
            refine list_guard_yes E rfl rfl rfl rfl hb27 rfl (by decide) (by first | exact rn_fieldAddr0 (q := 2) E rfl rfl rfl | exact rn_fieldAddr (q := 2) E rfl rfl rfl) ?_; clear E a; intro a E
            refine list_guard_yes E rfl rfl rfl rfl hb27 rfl (by decide) (by first | exact rn_load E rfl rfl rfl (S.get (by repeat (first | exact pk1 | apply pick_tail))) rfl | exact rn_loadc E rfl rfl rfl (by assumption)) ?_; clear E a; intro a E
            refine list_guard_yes E rfl rfl rfl rfl hb27 rfl (by decide) (rn_gtr E rfl rfl rfl) ?_; clear E a; intro a E
            refine list_pure E rfl rfl (by decide) (rn_pick_no' E rfl rfl hb27 rfl) ?_; clear E a; intro a E
            refine list_pure E rfl rfl (by decide) (rn_move E rfl rfl) ?_; clear E a; intro a E
            refine guard_split E (t := 32) rfl (fun hb32 => ?_) (fun hb32 => ?_)
            · have hb32n := hb32; replace hb32n := Nrm.nrm hb32n
              refine list_guard_no E rfl rfl rfl rfl hb32 rfl (by decide) ?_; clear E a; intro a E
              refine list_guard_no E rfl rfl rfl rfl hb32 rfl (by decide) ?_; clear E a; intro a E
              refine list_guard_no E rfl rfl rfl rfl hb32 rfl (by decide) ?_; clear E a; intro a E
              refine list_pure E rfl rfl (by decide) (rn_pick_yes' E rfl rfl hb32 rfl) ?_; clear E a; intro a E
              refine list_pure E rfl rfl (by decide) (rn_move E rfl rfl) ?_; clear E a; intro a E
              refine list_guard_no E rfl rfl rfl rfl rfl rfl (by decide) ?_; clear E a; intro a E
              refine list_guard_no E rfl rfl rfl rfl rfl rfl (by decide) ?_; clear E a; intro a E
              refine list_guard_no E rfl rfl rfl rfl rfl rfl (by decide) ?_; clear E a; intro a E
              refine list_pure E rfl rfl (by decide) (rn_pick_yes' E rfl rfl rfl rfl) ?_; clear E a; intro a E
              refine wpList_nil ?_
              refine then_k hK ?_; clear hK; clear K
              refine if_true' E rfl rfl ?_
              refine wp_seq_k ?_; intro K hK
              replace E := E.keep (e' := [(1, _), (2, _)]) (keep_cons rfl (keep_cons rfl (keep_nil)))
              refine region_list ?_
              refine list_pure E rfl rfl (by decide) (rn_assign E rfl rfl) ?_; clear E a; intro a E
              refine wpList_nil ?_
              refine then_k hK ?_; clear hK; clear K
              refine wp_ret ?_
              refine then_ret ?_; clear hK; clear K
              refine ret1 E rfl rfl ?_
              exact ⟨_, rfl, by congr 1; symm; rw [decide_eq_false_iff_not]; unfold Rp.may; omega, (S.only (Bs := [L]) (sel_cons (by repeat (first | exact pk1 | apply pick_tail)) (sel_nil _))).tr⟩
            · have hb32n := hb32; replace hb32n := Nrm.nrm hb32n
              refine list_guard_yes E rfl rfl rfl rfl hb32 rfl (by decide) (by first | exact rn_fieldAddr0 (q := 3) E rfl rfl rfl | exact rn_fieldAddr (q := 3) E rfl rfl rfl) ?_; clear E a; intro a E
              refine list_guard_yes E rfl rfl rfl rfl hb32 rfl (by decide) (by first | exact rn_load E rfl rfl rfl (S.get (by repeat (first | exact pk1 | apply pick_tail))) rfl | exact rn_loadc E rfl rfl rfl (by assumption)) ?_; clear E a; intro a E
              refine list_guard_yes E rfl rfl rfl rfl hb32 rfl (by decide) (rn_lss E rfl rfl rfl) ?_; clear E a; intro a E
              refine list_pure E rfl rfl (by decide) (rn_pick_no' E rfl rfl hb32 rfl) ?_; clear E a; intro a E
              refine list_pure E rfl rfl (by decide) (rn_move E rfl rfl) ?_; clear E a; intro a E
              refine guard_split E (t := 37) rfl (fun hb37 => ?_) (fun hb37 => ?_)
              · have hb37n := hb37; replace hb37n := Nrm.nrm hb37n
                refine list_guard_no E rfl rfl rfl rfl hb37 rfl (by decide) ?_; clear E a; intro a E
                refine list_guard_no E rfl rfl rfl rfl hb37 rfl (by decide) ?_; clear E a; intro a E
                refine list_guard_no E rfl rfl rfl rfl hb37 rfl (by decide) ?_; clear E a; intro a E
                refine list_pure E rfl rfl (by decide) (rn_pick_yes' E rfl rfl hb37 rfl) ?_; clear E a; intro a E
                refine wpList_nil ?_
                refine then_k hK ?_; clear hK; clear K
                refine if_true' E rfl rfl ?_
                refine wp_seq_k ?_; intro K hK
                replace E := E.keep (e' := [(1, _), (2, _)]) (keep_cons rfl (keep_cons rfl (keep_nil)))
                refine region_list ?_
                refine list_pure E rfl rfl (by decide) (rn_assign E rfl rfl) ?_; clear E a; intro a E
                refine wpList_nil ?_
                refine then_k hK ?_; clear hK; clear K
                refine wp_ret ?_
                refine then_ret ?_; clear hK; clear K
                refine ret1 E rfl rfl ?_
                exact ⟨_, rfl, by congr 1; symm; rw [decide_eq_false_iff_not]; unfold Rp.may; omega, (S.only (Bs := [L]) (sel_cons (by repeat (first | exact pk1 | apply pick_tail)) (sel_nil _))).tr⟩
              · have hb37n := hb37; replace hb37n := Nrm.nrm hb37n
                refine list_guard_yes E rfl rfl rfl rfl hb37 rfl (by decide) (by first | exact rn_fieldAddr0 (q := 3) E rfl rfl rfl | exact rn_fieldAddr (q := 3) E rfl rfl rfl) ?_; clear E a; intro a E
                refine list_guard_yes E rfl rfl rfl rfl hb37 rfl (by decide) (by first | exact rn_load E rfl rfl rfl (S.get (by repeat (first | exact pk1 | apply pick_tail))) rfl | exact rn_loadc E rfl rfl rfl (by assumption)) ?_; clear E a; intro a E
                refine list_guard_yes E rfl rfl rfl rfl hb37 rfl (by decide) (rn_gtr E rfl rfl rfl) ?_; clear E a; intro a E
                refine list_pure E rfl rfl (by decide) (rn_pick_no' E rfl rfl hb37 rfl) ?_; clear E a; intro a E
                refine wpList_nil ?_
                refine then_k hK ?_; clear hK; clear K
                refine if_bool E rfl (fun hb => ?_) (fun hb => ?_)
                · replace hb := Nrm.nrm hb
                  refine wp_seq_k ?_; intro K hK
                  replace E := E.keep (e' := [(1, _), (2, _)]) (keep_cons rfl (keep_cons rfl (keep_nil)))
                  refine region_list ?_
                  refine list_pure E rfl rfl (by decide) (rn_assign E rfl rfl) ?_; clear E a; intro a E
                  refine wpList_nil ?_
                  refine then_k hK ?_; clear hK; clear K
                  refine wp_ret ?_
                  refine then_ret ?_; clear hK; clear K
                  refine ret1 E rfl rfl ?_
                  exact ⟨_, rfl, by congr 1; symm; rw [decide_eq_false_iff_not]; unfold Rp.may; omega, (S.only (Bs := [L]) (sel_cons (by repeat (first | exact pk1 | apply pick_tail)) (sel_nil _))).tr⟩
                · replace hb := Nrm.nrm hb
                  refine wp_skip ?_
                  refine then_k hK ?_; clear hK; clear K
                  refine wp_seq_k ?_; intro K hK
                  refine wp_seq_k ?_; intro K hK
                  replace E := E.keep (e' := [(1, _), (2, _)]) (keep_cons rfl (keep_cons rfl (keep_nil)))
                  refine region_list ?_
                  refine list_pure E rfl rfl (by decide) (rn_assign E rfl rfl) ?_; clear E a; intro a E
                  refine wpList_nil ?_
                  refine then_k hK ?_; clear hK; clear K
                  refine wp_block ?_
                  refine wp_loop_ghost (fun (m : Nat) (a : Act) (w' : World) => ∃ i : Nat, m = r.list.length - i ∧ i ≤ r.list.length ∧ (∀ t ∈ r.list.take i, t.length ≤ 240) ∧ St w0 [L] w' [[(b1, cel [.int .i64 r.ses, .int .i64 r.id, .int .i64 r.err, .int .i64 r.num, str r.text, .slice adl r.list.length cl, .slice ad r.data.length c] 50)], L] ∧ Fr a 72 [(1, ptr b1), (3, .int .i64 i)]) (r.list.length - 0) ?_ ?_
                  · exact ⟨0, rfl, by omega, fun t ht => by simp at ht, S, E.keep (keep_cons rfl (keep_cons rfl keep_nil))⟩
                  clear E; clear a; (try clear S); rintro m a w ⟨i, rfl, hi, hm, S, E⟩
                  refine wp_seq_k ?_; intro K hK
                  refine wp_seq_k ?_; intro K hK
                  refine region_list ?_
                  refine list_pure E rfl rfl (by decide) (rn_move E rfl rfl) ?_; clear E a; intro a E
                  refine list_pure E rfl rfl (by decide) (by first | exact rn_fieldAddr0 (q := 5) E rfl rfl rfl | exact rn_fieldAddr (q := 5) E rfl rfl rfl) ?_; clear E a; intro a E
                  refine list_pure E rfl rfl (by decide) (by first | exact rn_load E rfl rfl rfl (S.get (by repeat (first | exact pk1 | apply pick_tail))) rfl | exact rn_loadc E rfl rfl rfl (by assumption)) ?_; clear E a; intro a E
                  refine list_pure E rfl rfl (by decide) (by first | exact rn_len E rfl rfl rfl | exact rn_len_str E rfl rfl rfl | exact rn_len_string E rfl rfl rfl) ?_; clear E a; intro a E
                  refine list_pure E rfl rfl (by decide) (rn_lss E rfl rfl rfl) ?_; clear E a; intro a E
                  refine wpList_nil ?_
                  refine then_k hK ?_; clear hK; clear K
                  refine if_bool E rfl (fun hb => ?_) (fun hb => ?_)
                  · replace hb := Nrm.nrm hb
                    refine wp_skip ?_
                    refine then_k hK ?_; clear hK; clear K
                    refine wp_seq_k ?_; intro K hK
                    refine wp_block ?_
                    refine wp_seq_k ?_; intro K hK
                    have hib : i < r.list.length := by omega
                    obtain ⟨g, off, rfl⟩ := hL.addr (by omega)
                    refine region_list ?_
                    refine list_pure E rfl rfl (by decide) (by first | exact rn_fieldAddr0 (q := 5) E rfl rfl rfl | exact rn_fieldAddr (q := 5) E rfl rfl rfl) ?_; clear E a; intro a E
                    refine list_pure E rfl rfl (by decide) (by first | exact rn_load E rfl rfl rfl (S.get (by repeat (first | exact pk1 | apply pick_tail))) rfl | exact rn_loadc E rfl rfl rfl (by assumption)) ?_; clear E a; intro a E
                    refine list_pure E rfl rfl (by decide) (rn_move E rfl rfl) ?_; clear E a; intro a E
                    refine list_pure E rfl rfl (by decide) (by first | exact rn_indexAddr1 E rfl rfl rfl rfl rfl rfl (by omega) | exact rn_indexAddr E rfl rfl rfl rfl rfl rfl (by omega) | exact rn_indexAddr_array E rfl rfl rfl rfl rfl rfl (by omega)) ?_; clear E a; intro a E
                    refine list_pure E rfl rfl (by decide) (rn_loadc E rfl rfl rfl (hL.text (S.stab.at (by repeat (first | exact mm1 | assumption | apply List.Mem.tail))) hib)) ?_; clear E a; intro a E
                    refine list_pure E rfl rfl (by decide) (by first | exact rn_len E rfl rfl rfl | exact rn_len_str E rfl rfl rfl | exact rn_len_string E rfl rfl rfl) ?_; clear E a; intro a E
                    refine list_pure E rfl rfl (by decide) (rn_gtr E rfl rfl rfl) ?_; clear E a; intro a E
                    refine wpList_nil ?_
                    refine then_k hK ?_; clear hK; clear K
                    refine if_bool E rfl (fun hb => ?_) (fun hb => ?_)
                    · replace hb := Nrm.nrm hb
                      refine wp_seq_k ?_; intro K hK
                      refine region_list ?_
                      refine list_pure E rfl rfl (by decide) (rn_assign E rfl rfl) ?_; clear E a; intro a E
                      refine wpList_nil ?_
                      refine then_k hK ?_; clear hK; clear K
                      refine wp_ret ?_
                      refine in_ret ?_
                      refine then_ret ?_; clear hK; clear K
                      refine then_ret ?_
                      refine in_ret ?_
                      refine then_ret ?_; clear hK; clear K
                      refine ret1 E rfl rfl ?_
                      exact ⟨_, rfl, by congr 1; symm; rw [decide_eq_false_iff_not]; intro q; have := q.2.2.2.2.2.2.2.2.2.2.1 _ (List.getElem_mem hib); omega, (S.only (Bs := [L]) (sel_cons (by repeat (first | exact pk1 | apply pick_tail)) (sel_nil _))).tr⟩
                    · replace hb := Nrm.nrm hb
                      refine wp_skip ?_
                      refine in_normal ?_
                      refine then_k hK ?_; clear hK; clear K
                      refine region_list ?_
                      refine list_pure E rfl rfl (by decide) (rn_move E rfl rfl) ?_; clear E a; intro a E
                      refine list_pure E rfl rfl (by decide) (rn_add E rfl rfl rfl (by first | exact wa_lit (y := 1) (by omega) | exact w_in (by omega) | exact w_inu (by omega) | exact rfl)) ?_; clear E a; intro a E
                      refine list_pure E rfl rfl (by decide) (rn_assign E rfl rfl) ?_; clear E a; intro a E
                      refine wpList_nil ?_
                      refine then_normal ?_
                      exact ⟨_, by omega, i + 1, rfl, by omega, fun t ht => (by rw [List.take_add_one, List.getElem?_eq_getElem hib] at ht; rcases List.mem_append.1 ht with h | h; exact hm t h; simp at h; subst h; omega), S, E.keep (keep_cons rfl (keep_cons rfl keep_nil))⟩
                  · replace hb := Nrm.nrm hb
                    refine wp_exit ?_
                    refine then_exit ?_; clear hK; clear K
                    refine then_exit ?_
                    refine in_exit ?_
                    refine then_k hK ?_; clear hK; clear K
                    refine wp_seq_k ?_; intro K hK
                    obtain rfl : i = r.list.length := by omega
                    rw [List.take_length] at hm
                    refine region_list ?_
                    refine list_pure E rfl rfl (by decide) (by first | exact rn_fieldAddr0 (q := 4) E rfl rfl rfl | exact rn_fieldAddr (q := 4) E rfl rfl rfl) ?_; clear E a; intro a E
                    refine list_pure E rfl rfl (by decide) (by first | exact rn_load E rfl rfl rfl (S.get (by repeat (first | exact pk1 | apply pick_tail))) rfl | exact rn_loadc E rfl rfl rfl (by assumption)) ?_; clear E a; intro a E
                    refine list_pure E rfl rfl (by decide) (by first | exact rn_len E rfl rfl rfl | exact rn_len_str E rfl rfl rfl | exact rn_len_string E rfl rfl rfl) ?_; clear E a; intro a E
                    refine list_pure E rfl rfl (by decide) (rn_leq E rfl rfl rfl) ?_; clear E a; intro a E
                    refine list_pure E rfl rfl (by decide) (rn_move E rfl rfl) ?_; clear E a; intro a E
                    refine guard_split E (t := 60) rfl (fun hb60 => ?_) (fun hb60 => ?_)
                    · have hb60n := hb60; replace hb60n := Nrm.nrm hb60n
                      refine list_guard_yes E rfl rfl rfl rfl hb60 rfl (by decide) (by first | exact rn_fieldAddr0 (q := 5) E rfl rfl rfl | exact rn_fieldAddr (q := 5) E rfl rfl rfl) ?_; clear E a; intro a E
                      refine list_guard_yes E rfl rfl rfl rfl hb60 rfl (by decide) (by first | exact rn_load E rfl rfl rfl (S.get (by repeat (first | exact pk1 | apply pick_tail))) rfl | exact rn_loadc E rfl rfl rfl (by assumption)) ?_; clear E a; intro a E
                      refine list_guard_yes E rfl rfl rfl rfl hb60 rfl (by decide) (by first | exact rn_len E rfl rfl rfl | exact rn_len_str E rfl rfl rfl | exact rn_len_string E rfl rfl rfl) ?_; clear E a; intro a E
                      refine list_guard_yes E rfl rfl rfl rfl hb60 rfl (by decide) (rn_leq E rfl rfl rfl) ?_; clear E a; intro a E
                      refine list_pure E rfl rfl (by decide) (rn_pick_yes' E rfl rfl hb60 rfl) ?_; clear E a; intro a E
                      refine list_pure E rfl rfl (by decide) (rn_move E rfl rfl) ?_; clear E a; intro a E
                      refine guard_split E (t := 66) rfl (fun hb66 => ?_) (fun hb66 => ?_)
                      · have hb66n := hb66; replace hb66n := Nrm.nrm hb66n
                        refine list_guard_yes E rfl rfl rfl rfl hb66 rfl (by decide) (by first | exact rn_fieldAddr0 (q := 6) E rfl rfl rfl | exact rn_fieldAddr (q := 6) E rfl rfl rfl) ?_; clear E a; intro a E
                        refine list_guard_yes E rfl rfl rfl rfl hb66 rfl (by decide) (by first | exact rn_load E rfl rfl rfl (S.get (by repeat (first | exact pk1 | apply pick_tail))) rfl | exact rn_loadc E rfl rfl rfl (by assumption)) ?_; clear E a; intro a E
                        refine list_guard_yes E rfl rfl rfl rfl hb66 rfl (by decide) (by first | exact rn_len E rfl rfl rfl | exact rn_len_str E rfl rfl rfl | exact rn_len_string E rfl rfl rfl) ?_; clear E a; intro a E
                        refine list_guard_yes E rfl rfl rfl rfl hb66 rfl (by decide) (rn_leq E rfl rfl rfl) ?_; clear E a; intro a E
                        refine list_pure E rfl rfl (by decide) (rn_pick_yes' E rfl rfl hb66 rfl) ?_; clear E a; intro a E
                        refine list_pure E rfl rfl (by decide) (rn_assign E rfl rfl) ?_; clear E a; intro a E
                        refine wpList_nil ?_
                        refine then_k hK ?_; clear hK; clear K
                        refine wp_ret ?_
                        refine ret1 E rfl rfl ?_
                        exact ⟨_, rfl, by congr 1; rw [Bool.eq_iff_iff, decide_eq_true_eq (p := Rp.may _)]; exact ⟨fun q => (by first | (simp at q; done) | skip; simp at q; exact ⟨by omega, by omega, by omega, by omega, by omega, by omega, by omega, by omega, by omega, by omega, hm, by omega⟩), fun q => (by unfold Rp.may at q; simp <;> omega)⟩, (S.only (Bs := [L]) (sel_cons (by repeat (first | exact pk1 | apply pick_tail)) (sel_nil _))).tr⟩
                      · have hb66n := hb66; replace hb66n := Nrm.nrm hb66n
                        refine list_guard_no E rfl rfl rfl rfl hb66 rfl (by decide) ?_; clear E a; intro a E
                        refine list_guard_no E rfl rfl rfl rfl hb66 rfl (by decide) ?_; clear E a; intro a E
                        refine list_guard_no E rfl rfl rfl rfl hb66 rfl (by decide) ?_; clear E a; intro a E
                        refine list_guard_no E rfl rfl rfl rfl hb66 rfl (by decide) ?_; clear E a; intro a E
                        refine list_pure E rfl rfl (by decide) (rn_pick_no' E rfl rfl hb66 rfl) ?_; clear E a; intro a E
                        refine list_pure E rfl rfl (by decide) (rn_assign E rfl rfl) ?_; clear E a; intro a E
                        refine wpList_nil ?_
                        refine then_k hK ?_; clear hK; clear K
                        refine wp_ret ?_
                        refine ret1 E rfl rfl ?_
                        exact ⟨_, rfl, by congr 1; rw [Bool.eq_iff_iff, decide_eq_true_eq (p := Rp.may _)]; exact ⟨fun q => (by first | (simp at q; done) | skip; simp at q; exact ⟨by omega, by omega, by omega, by omega, by omega, by omega, by omega, by omega, by omega, by omega, hm, by omega⟩), fun q => (by unfold Rp.may at q; simp <;> omega)⟩, (S.only (Bs := [L]) (sel_cons (by repeat (first | exact pk1 | apply pick_tail)) (sel_nil _))).tr⟩
                    · have hb60n := hb60; replace hb60n := Nrm.nrm hb60n
                      refine list_guard_no E rfl rfl rfl rfl hb60 rfl (by decide) ?_; clear E a; intro a E
                      refine list_guard_no E rfl rfl rfl rfl hb60 rfl (by decide) ?_; clear E a; intro a E
                      refine list_guard_no E rfl rfl rfl rfl hb60 rfl (by decide) ?_; clear E a; intro a E
                      refine list_guard_no E rfl rfl rfl rfl hb60 rfl (by decide) ?_; clear E a; intro a E
                      refine list_pure E rfl rfl (by decide) (rn_pick_no' E rfl rfl hb60 rfl) ?_; clear E a; intro a E
                      refine list_pure E rfl rfl (by decide) (rn_move E rfl rfl) ?_; clear E a; intro a E
                      refine list_guard_no E rfl rfl rfl rfl rfl rfl (by decide) ?_; clear E a; intro a E
                      refine list_guard_no E rfl rfl rfl rfl rfl rfl (by decide) ?_; clear E a; intro a E
                      refine list_guard_no E rfl rfl rfl rfl rfl rfl (by decide) ?_; clear E a; intro a E
                      refine list_guard_no E rfl rfl rfl rfl rfl rfl (by decide) ?_; clear E a; intro a E
                      refine list_pure E rfl rfl (by decide) (rn_pick_no' E rfl rfl rfl rfl) ?_; clear E a; intro a E
                      refine list_pure E rfl rfl (by decide) (rn_assign E rfl rfl) ?_; clear E a; intro a E
                      refine wpList_nil ?_
                      refine then_k hK ?_; clear hK; clear K
                      refine wp_ret ?_
                      refine ret1 E rfl rfl ?_
                      exact ⟨_, rfl, by congr 1; rw [Bool.eq_iff_iff, decide_eq_true_eq (p := Rp.may _)]; exact ⟨fun q => (by first | (simp at q; done) | skip; simp at q; exact ⟨by omega, by omega, by omega, by omega, by omega, by omega, by omega, by omega, by omega, by omega, hm, by omega⟩), fun q => (by unfold Rp.may at q; simp <;> omega)⟩, (S.only (Bs := [L]) (sel_cons (by repeat (first | exact pk1 | apply pick_tail)) (sel_nil _))).tr⟩

theorem dtext2_ret (v : Value) (bs : List UInt8) (C : Chunk) (t : List UInt8) (hC : Buf C 5 1 v bs.length (byt bs)) (hl : bs.length ≤ 100000) (ht : t.length ≤ 70000) (w0 : World) (H : Hp w0 [C]) :
    Ret Tryd.prog 56 #[v, str t] w0 fun u w' => ∃ C', Buf C' 5 1 u (bs ++ txtB t).length (byt (bs ++ txtB t)) ∧ Trs w0 w' [C] [C'] := by
  have S := St.begin H
  refine enter2 12 Tryd.func56 rfl rfl (by decide) ?_; intro a E
  refine wp_seq_k ?_; intro K hK
  refine region_list ?_
  refine list_pure E rfl rfl (by decide) (rn_assign E rfl rfl) ?_; clear E a; intro a E
  refine wpList_nil ?_
  refine then_k hK ?_; clear hK; clear K
  refine wp_seq_k ?_; intro K hK
  refine region_list ?_
  refine list_pure E rfl rfl (by decide) (rn_move E rfl rfl) ?_; clear E a; intro a E
  refine list_pure E rfl rfl (by decide) (rn_move E rfl rfl) ?_; clear E a; intro a E
  refine list_pure E rfl rfl (by decide) (by first | exact rn_len E rfl rfl rfl | exact rn_len_str E rfl rfl rfl | exact rn_len_string E rfl rfl rfl) ?_; clear E a; intro a E
  refine list_call E rfl rfl (by decide) rfl Tryd.func48 rfl (by kernel_rfl) rfl (dnumber_ret v bs C t.length 2 hC (by omega) (by omega) (by omega) _ (S.hp.sel (sel_cons (by repeat (first | exact pk1 | apply pick_tail)) (sel_nil _)))) ?_
  rintro v8 w ⟨C1, hC1, hT⟩; clear E a; intro a E
  have S := S.call1 (sel_cons (by repeat (first | exact pk1 | apply pick_tail)) (sel_nil _)) hT; have hfl : (bs ++ formOf t.length 2).length = bs.length + 2 := (by rw [List.length_append, formOf_length])
  refine list_pure E rfl rfl (by decide) (rn_assign E rfl rfl) ?_; clear E a; intro a E
  refine wpList_nil ?_
  refine then_k hK ?_; clear hK; clear K
  refine wp_seq_k ?_; intro K hK
  refine region_list ?_
  refine list_pure E rfl rfl (by decide) (rn_move E rfl rfl) ?_; clear E a; intro a E
  refine list_pure E rfl rfl (by decide) (rn_move E rfl rfl) ?_; clear E a; intro a E
  refine list_wp rfl (wp_append (by' := 1) E S rfl rfl (by decide) rfl rfl hC1 (by repeat (first | exact pk1 | apply pick_tail)) (src_str rfl t _) rfl rfl rfl rfl rfl rfl (by simp only [maxLen]; omega) (by omega) ?_); clear E S a; intro a w v11 C11 E S hB11
  refine list_pure E rfl rfl (by decide) (rn_assign E rfl rfl) ?_; clear E a; intro a E
  refine wpList_nil ?_
  refine then_k hK ?_; clear hK; clear K
  refine wp_ret ?_
  refine ret1 E rfl rfl ?_
  exact ⟨_, rfl, C11, by rw [txtB, ← List.append_assoc, byt_append, List.length_append]; exact hB11, S.tr⟩

theorem answerbody_ret (r : Rp) (As : List Chunk) (L O : Chunk) (vl vd : Value) (hL : Rd L 1 vl r.list.length (sts r.list)) (hO : Rd O 1 vd r.data.length (byt r.data)) (hLA : L ∈ As) (hOA : O ∈ As) (hm : r.may) (w0 : World) (H : Hp w0 As) :
    Ret Tryd.prog 44 #[rpagg r vl vd] w0 fun u w' => ∃ C, Buf C 5 1 u (rpB r).length (byt (rpB r)) ∧ Trs w0 w' As (C :: As) := by
  have S := (St.begin H).addNil
  have hsm := rpB_small hm
  obtain ⟨m1, m2, m3, m4, m5, m6, m7, m8, m9, m10, m11, m12⟩ := hm
  obtain ⟨sn, hsn⟩ : ∃ n : Nat, r.ses = n := ⟨r.ses.toNat, by omega⟩
  obtain ⟨idn, hidn⟩ : ∃ n : Nat, r.id = n := ⟨r.id.toNat, by omega⟩
  obtain ⟨vn, hvn⟩ : ∃ n : Nat, r.err = n := ⟨r.err.toNat, by omega⟩
  obtain ⟨an, han⟩ : ∃ n : Nat, r.num = n := ⟨r.num.toNat, by omega⟩
  have hO0 := hO
  obtain ⟨ad, c, rfl⟩ := hO.slice
  obtain ⟨adl, cl, rfl⟩ := hL.slice
  obtain ⟨pre, hpre⟩ : ∃ x, x = [] ++ formOf sn 1 ++ formOf idn 4 ++ formOf vn 2 ++ formOf an 6 ++ txtB r.text ++ formOf r.list.length 2 := ⟨_, rfl⟩
  have hprl : pre.length = 17 + r.text.length := by rw [hpre]; simp only [List.length_append, formOf_length, txtB_length, List.length_nil]; omega
  have hsl := texts_len r.list m11
  have hB : rpB r = pre ++ r.list.flatMap txtB ++ formOf r.data.length 2 ++ r.data := by
    rw [hpre, rpB, hsn, hidn, hvn, han]; simp only [Int.toNat_natCast, List.append_assoc, List.nil_append]
  refine enter1 52 Tryd.func44 rfl rfl (by decide) ?_; intro a E
  refine wp_seq_k ?_; intro K hK
  refine region_list ?_
  refine list_wp rfl (wp_box E S rfl rfl (by decide) rfl rfl ?_); clear E S a; intro a w b1 E S
  refine list_pure E rfl rfl (by decide) (rn_assign E rfl rfl) ?_; clear E a; intro a E
  refine wpList_nil ?_
  refine then_k hK ?_; clear hK; clear K
  refine wp_seq_k ?_; intro K hK
  refine region_list ?_
  refine list_pure E rfl rfl (by decide) (by first | exact rn_fieldAddr0 (q := 0) E rfl rfl rfl | exact rn_fieldAddr (q := 0) E rfl rfl rfl) ?_; clear E a; intro a E
  refine list_pure E rfl rfl (by decide) (by first | exact rn_load E rfl rfl rfl (S.get (by repeat (first | exact pk1 | apply pick_tail))) rfl | exact rn_loadc E rfl rfl rfl (by assumption)) ?_; clear E a; intro a E
  rw [hsn] at E
  refine list_call E rfl rfl (by decide) rfl Tryd.func48 rfl (by kernel_rfl) rfl (dnumber_ret _ [] [] sn 1 (Buf.nil _ _) (by simp) (by omega) (by omega) _ (S.hp.sel (sel_cons (by repeat (first | exact pk1 | apply pick_tail)) (sel_nil _)))) ?_
  rintro v7 w ⟨C1, hC1, hT⟩; clear E a; intro a E
  have S := S.call1 (sel_cons (by repeat (first | exact pk1 | apply pick_tail)) (sel_nil _)) hT
  refine list_pure E rfl rfl (by decide) (rn_assign E rfl rfl) ?_; clear E a; intro a E
  refine wpList_nil ?_
  refine then_k hK ?_; clear hK; clear K
  refine wp_seq_k ?_; intro K hK
  refine region_list ?_
  refine list_pure E rfl rfl (by decide) (rn_move E rfl rfl) ?_; clear E a; intro a E
  refine list_pure E rfl rfl (by decide) (by first | exact rn_fieldAddr0 (q := 1) E rfl rfl rfl | exact rn_fieldAddr (q := 1) E rfl rfl rfl) ?_; clear E a; intro a E
  refine list_pure E rfl rfl (by decide) (by first | exact rn_load E rfl rfl rfl (S.get (by repeat (first | exact pk1 | apply pick_tail))) rfl | exact rn_loadc E rfl rfl rfl (by assumption)) ?_; clear E a; intro a E
  rw [hidn] at E
  refine list_call E rfl rfl (by decide) rfl Tryd.func48 rfl (by kernel_rfl) rfl (dnumber_ret _ _ C1 idn 4 hC1 (by simp only [List.length_append, formOf_length, List.length_nil]; omega) (by omega) (by omega) _ (S.hp.sel (sel_cons (by repeat (first | exact pk1 | apply pick_tail)) (sel_nil _)))) ?_
  rintro v11 w ⟨C2, hC2, hT⟩; clear E a; intro a E
  have S := S.call1 (sel_cons (by repeat (first | exact pk1 | apply pick_tail)) (sel_nil _)) hT
  refine list_pure E rfl rfl (by decide) (rn_assign E rfl rfl) ?_; clear E a; intro a E
  refine wpList_nil ?_
  refine then_k hK ?_; clear hK; clear K
  refine wp_seq_k ?_; intro K hK
  refine region_list ?_
  refine list_pure E rfl rfl (by decide) (rn_move E rfl rfl) ?_; clear E a; intro a E
  refine list_pure E rfl rfl (by decide) (by first | exact rn_fieldAddr0 (q := 2) E rfl rfl rfl | exact rn_fieldAddr (q := 2) E rfl rfl rfl) ?_; clear E a; intro a E
  refine list_pure E rfl rfl (by decide) (by first | exact rn_load E rfl rfl rfl (S.get (by repeat (first | exact pk1 | apply pick_tail))) rfl | exact rn_loadc E rfl rfl rfl (by assumption)) ?_; clear E a; intro a E
  rw [hvn] at E
  refine list_call E rfl rfl (by decide) rfl Tryd.func48 rfl (by kernel_rfl) rfl (dnumber_ret _ _ C2 vn 2 hC2 (by simp only [List.length_append, formOf_length, List.length_nil]; omega) (by omega) (by omega) _ (S.hp.sel (sel_cons (by repeat (first | exact pk1 | apply pick_tail)) (sel_nil _)))) ?_
  rintro v15 w ⟨C3, hC3, hT⟩; clear E a; intro a E
  have S := S.call1 (sel_cons (by repeat (first | exact pk1 | apply pick_tail)) (sel_nil _)) hT
  refine list_pure E rfl rfl (by decide) (rn_assign E rfl rfl) ?_; clear E a; intro a E
  refine wpList_nil ?_
  refine then_k hK ?_; clear hK; clear K
  refine wp_seq_k ?_; intro K hK
  refine region_list ?_
  refine list_pure E rfl rfl (by decide) (rn_move E rfl rfl) ?_; clear E a; intro a E
  refine list_pure E rfl rfl (by decide) (by first | exact rn_fieldAddr0 (q := 3) E rfl rfl rfl | exact rn_fieldAddr (q := 3) E rfl rfl rfl) ?_; clear E a; intro a E
  refine list_pure E rfl rfl (by decide) (by first | exact rn_load E rfl rfl rfl (S.get (by repeat (first | exact pk1 | apply pick_tail))) rfl | exact rn_loadc E rfl rfl rfl (by assumption)) ?_; clear E a; intro a E
  rw [han] at E
  refine list_call E rfl rfl (by decide) rfl Tryd.func48 rfl (by kernel_rfl) rfl (dnumber_ret _ _ C3 an 6 hC3 (by simp only [List.length_append, formOf_length, List.length_nil]; omega) (by omega) (by omega) _ (S.hp.sel (sel_cons (by repeat (first | exact pk1 | apply pick_tail)) (sel_nil _)))) ?_
  rintro v19 w ⟨C4, hC4, hT⟩; clear E a; intro a E
  have S := S.call1 (sel_cons (by repeat (first | exact pk1 | apply pick_tail)) (sel_nil _)) hT
  refine list_pure E rfl rfl (by decide) (rn_assign E rfl rfl) ?_; clear E a; intro a E
  refine wpList_nil ?_
  refine then_k hK ?_; clear hK; clear K
  refine wp_seq_k ?_; intro K hK
  refine region_list ?_
  refine list_pure E rfl rfl (by decide) (rn_move E rfl rfl) ?_; clear E a; intro a E
  refine list_pure E rfl rfl (by decide) (by first | exact rn_fieldAddr0 (q := 4) E rfl rfl rfl | exact rn_fieldAddr (q := 4) E rfl rfl rfl) ?_; clear E a; intro a E
  refine list_pure E rfl rfl (by decide) (by first | exact rn_load E rfl rfl rfl (S.get (by repeat (first | exact pk1 | apply pick_tail))) rfl | exact rn_loadc E rfl rfl rfl (by assumption)) ?_; clear E a; intro a E
  refine list_call E rfl rfl (by decide) rfl Tryd.func56 rfl (by kernel_rfl) rfl (dtext2_ret _ _ C4 r.text hC4 (by simp only [List.length_append, formOf_length, List.length_nil]; omega) (by omega) _ (S.hp.sel (sel_cons (by repeat (first | exact pk1 | apply pick_tail)) (sel_nil _)))) ?_
  rintro v23 w ⟨C5, hC5, hT⟩; clear E a; intro a E
  have S := S.call1 (sel_cons (by repeat (first | exact pk1 | apply pick_tail)) (sel_nil _)) hT
  refine list_pure E rfl rfl (by decide) (rn_assign E rfl rfl) ?_; clear E a; intro a E
  refine wpList_nil ?_
  refine then_k hK ?_; clear hK; clear K
  refine wp_seq_k ?_; intro K hK
  replace E := E.keep (e' := [(1, _), (2, _), (3, _)]) (keep_cons rfl (keep_cons rfl (keep_cons rfl (keep_nil))))
  refine region_list ?_
  refine list_pure E rfl rfl (by decide) (rn_move E rfl rfl) ?_; clear E a; intro a E
  refine list_pure E rfl rfl (by decide) (by first | exact rn_fieldAddr0 (q := 5) E rfl rfl rfl | exact rn_fieldAddr (q := 5) E rfl rfl rfl) ?_; clear E a; intro a E
  refine list_pure E rfl rfl (by decide) (by first | exact rn_load E rfl rfl rfl (S.get (by repeat (first | exact pk1 | apply pick_tail))) rfl | exact rn_loadc E rfl rfl rfl (by assumption)) ?_; clear E a; intro a E
  refine list_pure E rfl rfl (by decide) (by first | exact rn_len E rfl rfl rfl | exact rn_len_str E rfl rfl rfl | exact rn_len_string E rfl rfl rfl) ?_; clear E a; intro a E
  refine list_call E rfl rfl (by decide) rfl Tryd.func48 rfl (by kernel_rfl) rfl (dnumber_ret _ _ C5 r.list.length 2 hC5 (by simp only [List.length_append, formOf_length, List.length_nil, txtB_length]; omega) (by omega) (by omega) _ (S.hp.sel (sel_cons (by repeat (first | exact pk1 | apply pick_tail)) (sel_nil _)))) ?_
  rintro v28 w ⟨C6, hC6, hT⟩; clear E a; intro a E
  have S := S.call1 (sel_cons (by repeat (first | exact pk1 | apply pick_tail)) (sel_nil _)) hT; rw [← hpre] at hC6
  refine list_pure E rfl rfl (by decide) (rn_assign E rfl rfl) ?_; clear E a; intro a E
  refine wpList_nil ?_
  refine then_k hK ?_; clear hK; clear K
  refine wp_seq_k ?_; intro K hK
  refine wp_seq_k ?_; intro K hK
  refine region_list ?_
  refine list_pure E rfl rfl (by decide) (rn_assign E rfl rfl) ?_; clear E a; intro a E
  refine wpList_nil ?_
  refine then_k hK ?_; clear hK; clear K
  refine wp_block ?_
  refine wp_loop_ghost (fun (m : Nat) (a : Act) (w' : World) => ∃ (i : Nat) (v : Value) (C : Chunk), m = r.list.length - i ∧ i ≤ r.list.length ∧ Buf C 5 1 v (pre ++ (r.list.take i).flatMap txtB).length (byt (pre ++ (r.list.take i).flatMap txtB)) ∧ St w0 As w' (C :: [(b1, cel [.int .i64 r.ses, .int .i64 r.id, .int .i64 r.err, .int .i64 r.num, str r.text, .slice adl r.list.length cl, .slice ad r.data.length c] 50)] :: As) ∧ Fr a 52 [(1, ptr b1), (3, v), (4, .int .i64 i)]) (r.list.length - 0) ?_ ?_
  · exact ⟨0, _, C6, rfl, by omega, by simpa using hC6, S, E.keep (keep_cons rfl (keep_cons rfl (keep_cons rfl keep_nil)))⟩
  clear E; clear a; (try clear S); rintro m a w ⟨i, v, C, rfl, hi, hC, S, E⟩
  refine wp_seq_k ?_; intro K hK
  refine wp_seq_k ?_; intro K hK
  refine region_list ?_
  refine list_pure E rfl rfl (by decide) (rn_move E rfl rfl) ?_; clear E a; intro a E
  refine list_pure E rfl rfl (by decide) (by first | exact rn_fieldAddr0 (q := 5) E rfl rfl rfl | exact rn_fieldAddr (q := 5) E rfl rfl rfl) ?_; clear E a; intro a E
  refine list_pure E rfl rfl (by decide) (by first | exact rn_load E rfl rfl rfl (S.get (by repeat (first | exact pk1 | apply pick_tail))) rfl | exact rn_loadc E rfl rfl rfl (by assumption)) ?_; clear E a; intro a E
  refine list_pure E rfl rfl (by decide) (by first | exact rn_len E rfl rfl rfl | exact rn_len_str E rfl rfl rfl | exact rn_len_string E rfl rfl rfl) ?_; clear E a; intro a E
  refine list_pure E rfl rfl (by decide) (rn_lss E rfl rfl rfl) ?_; clear E a; intro a E
  refine wpList_nil ?_
  refine then_k hK ?_; clear hK; clear K
  refine if_bool E rfl (fun hb => ?_) (fun hb => ?_)
  · replace hb := Nrm.nrm hb
    refine wp_skip ?_
    refine then_k hK ?_; clear hK; clear K
    refine wp_seq_k ?_; intro K hK
    refine wp_block ?_
    have hib : i < r.list.length := by omega
    have hti := m11 _ (List.getElem_mem hib)
    have hsum : ((r.list.take i).flatMap txtB).length + (txtB r.list[i]).length ≤ (r.list.flatMap txtB).length := by
      rw [← List.length_append, ← flat_take_succ txtB r.list hib]
      conv => rhs; rw [← List.take_append_drop (i + 1) r.list, List.flatMap_append, List.length_append]
      omega
    rw [txtB_length] at hsum
    obtain ⟨g, off, rfl⟩ := hL.addr (by omega)
    refine region_list ?_
    refine list_pure E rfl rfl (by decide) (rn_move E rfl rfl) ?_; clear E a; intro a E
    refine list_pure E rfl rfl (by decide) (by first | exact rn_fieldAddr0 (q := 5) E rfl rfl rfl | exact rn_fieldAddr (q := 5) E rfl rfl rfl) ?_; clear E a; intro a E
    refine list_pure E rfl rfl (by decide) (by first | exact rn_load E rfl rfl rfl (S.get (by repeat (first | exact pk1 | apply pick_tail))) rfl | exact rn_loadc E rfl rfl rfl (by assumption)) ?_; clear E a; intro a E
    refine list_pure E rfl rfl (by decide) (rn_move E rfl rfl) ?_; clear E a; intro a E
    refine list_pure E rfl rfl (by decide) (by first | exact rn_indexAddr1 E rfl rfl rfl rfl rfl rfl (by omega) | exact rn_indexAddr E rfl rfl rfl rfl rfl rfl (by omega) | exact rn_indexAddr_array E rfl rfl rfl rfl rfl rfl (by omega)) ?_; clear E a; intro a E
    refine list_pure E rfl rfl (by decide) (rn_loadc E rfl rfl rfl (hL.text (S.stab.at (by repeat (first | exact mm1 | assumption | apply List.Mem.tail))) hib)) ?_; clear E a; intro a E
    refine list_call E rfl rfl (by decide) rfl Tryd.func56 rfl (by kernel_rfl) rfl (dtext2_ret _ _ C (r.list[i]'hib) hC (by rw [List.length_append]; omega) (by omega) _ (S.hp.sel (sel_cons (by repeat (first | exact pk1 | apply pick_tail)) (sel_nil _)))) ?_
    rintro v42 w ⟨C8, hC8, hT⟩; clear E a; intro a E
    have S := S.call1 (sel_cons (by repeat (first | exact pk1 | apply pick_tail)) (sel_nil _)) hT
    refine list_pure E rfl rfl (by decide) (rn_assign E rfl rfl) ?_; clear E a; intro a E
    refine wpList_nil ?_
    refine in_normal ?_
    refine then_k hK ?_; clear hK; clear K
    refine region_list ?_
    refine list_pure E rfl rfl (by decide) (rn_move E rfl rfl) ?_; clear E a; intro a E
    refine list_pure E rfl rfl (by decide) (rn_add E rfl rfl rfl (by first | exact wa_lit (y := 1) (by omega) | exact w_in (by omega) | exact w_inu (by omega) | exact rfl)) ?_; clear E a; intro a E
    refine list_pure E rfl rfl (by decide) (rn_assign E rfl rfl) ?_; clear E a; intro a E
    refine wpList_nil ?_
    refine then_normal ?_
    exact ⟨_, by omega, i + 1, _, C8, rfl, by omega, by rw [flat_take_succ txtB r.list hib, ← List.append_assoc]; exact hC8, S, E.keep (keep_cons rfl (keep_cons rfl (keep_cons rfl keep_nil)))⟩
  · replace hb := Nrm.nrm hb
    refine wp_exit ?_
    refine then_exit ?_; clear hK; clear K
    refine then_exit ?_
    refine in_exit ?_
    refine then_k hK ?_; clear hK; clear K
    refine wp_seq_k ?_; intro K hK
    obtain rfl : i = r.list.length := by omega
    rw [List.take_length] at hC
    refine region_list ?_
    refine list_pure E rfl rfl (by decide) (rn_move E rfl rfl) ?_; clear E a; intro a E
    refine list_pure E rfl rfl (by decide) (by first | exact rn_fieldAddr0 (q := 6) E rfl rfl rfl | exact rn_fieldAddr (q := 6) E rfl rfl rfl) ?_; clear E a; intro a E
    refine list_pure E rfl rfl (by decide) (by first | exact rn_load E rfl rfl rfl (S.get (by repeat (first | exact pk1 | apply pick_tail))) rfl | exact rn_loadc E rfl rfl rfl (by assumption)) ?_; clear E a; intro a E
    refine list_pure E rfl rfl (by decide) (by first | exact rn_len E rfl rfl rfl | exact rn_len_str E rfl rfl rfl | exact rn_len_string E rfl rfl rfl) ?_; clear E a; intro a E
    refine list_call E rfl rfl (by decide) rfl Tryd.func48 rfl (by kernel_rfl) rfl (dnumber_ret _ _ C r.data.length 2 hC (by rw [List.length_append]; omega) (by omega) (by omega) _ (S.hp.sel (sel_cons (by repeat (first | exact pk1 | apply pick_tail)) (sel_nil _)))) ?_
    rintro v47 w ⟨C9, hC9, hT⟩; clear E a; intro a E
    have S := S.call1 (sel_cons (by repeat (first | exact pk1 | apply pick_tail)) (sel_nil _)) hT
    obtain ⟨y, hy⟩ : ∃ y, y = pre ++ r.list.flatMap txtB ++ formOf r.data.length 2 := ⟨_, rfl⟩
    rw [← hy] at hC9 hB
    have hyl : y.length ≤ 64243 := by rw [hB, List.length_append] at hsm; omega
    refine list_pure E rfl rfl (by decide) (rn_assign E rfl rfl) ?_; clear E a; intro a E
    refine wpList_nil ?_
    refine then_k hK ?_; clear hK; clear K
    refine wp_seq_k ?_; intro K hK
    refine region_list ?_
    refine list_pure E rfl rfl (by decide) (rn_move E rfl rfl) ?_; clear E a; intro a E
    refine list_pure E rfl rfl (by decide) (by first | exact rn_fieldAddr0 (q := 6) E rfl rfl rfl | exact rn_fieldAddr (q := 6) E rfl rfl rfl) ?_; clear E a; intro a E
    refine list_pure E rfl rfl (by decide) (by first | exact rn_load E rfl rfl rfl (S.get (by repeat (first | exact pk1 | apply pick_tail))) rfl | exact rn_loadc E rfl rfl rfl (by assumption)) ?_; clear E a; intro a E
    refine list_wp rfl (wp_append (by' := 1) E S rfl rfl (by decide) rfl rfl hC9 (by repeat (first | exact pk1 | apply pick_tail)) (hO0.src (S.stab.at (by repeat (first | exact mm1 | assumption | apply List.Mem.tail))) rfl) rfl rfl rfl rfl rfl rfl (by simp only [maxLen]; omega) (by omega) ?_); clear E S a; intro a w v51 C51 E S hB51
    refine list_pure E rfl rfl (by decide) (rn_assign E rfl rfl) ?_; clear E a; intro a E
    refine wpList_nil ?_
    refine then_k hK ?_; clear hK; clear K
    refine wp_ret ?_
    refine ret1 E rfl rfl ?_
    exact ⟨_, rfl, C51, by rw [hB, byt_append, List.length_append]; exact hB51, (S.del (A := [(b1, _)]) (by repeat (first | exact pk1 | apply pick_tail))).tr⟩

theorem drpencode_ret (r : Rp) (L O : Chunk) (vl vd : Value) (hL : Rd L 1 vl r.list.length (sts r.list)) (hll : r.list.length ≤ 140737488355328) (hO : Rd O 1 vd r.data.length (byt r.data)) (As : List Chunk) (hLA : L ∈ As) (hOA : O ∈ As) (hG0 : Tab As 0 sha0.l) (hG1 : Tab As 1 shaK) (w0 : World) (H : Hp w0 As) :
    Ret Tryd.prog 21 #[rpagg r vl vd] w0 fun u w' => ∃ x C, u = .tuple #[x, .int .i64 (rpE r)] ∧ Buf C 5 1 x (rpO r).length (byt (rpO r)) ∧ Trs w0 w' As (C :: As) := by
  have S := St.begin H
  have hO0 := hO
  have hL0 := hL
  obtain ⟨ad, c, rfl⟩ := hO.slice
  obtain ⟨adl, cl, rfl⟩ := hL.slice
  refine enter1 17 Tryd.func21 rfl rfl (by decide) ?_; intro a E
  refine wp_seq_k ?_; intro K hK
  refine region_list ?_
  refine list_wp rfl (wp_box E S rfl rfl (by decide) rfl rfl ?_); clear E S a; intro a w b1 E S
  refine list_pure E rfl rfl (by decide) (rn_assign E rfl rfl) ?_; clear E a; intro a E
  refine list_pure E rfl rfl (by decide) (rn_assign E rfl rfl) ?_; clear E a; intro a E
  refine wpList_nil ?_
  refine then_k hK ?_; clear hK; clear K
  refine wp_seq_k ?_; intro K hK
  refine region_list ?_
  refine list_pure E rfl rfl (by decide) (rn_load_blk (vs := [_, _, _, _, _, _, _]) E rfl rfl rfl (S.get (by repeat (first | exact pk1 | apply pick_tail))) rfl rfl) ?_; clear E a; intro a E
  refine list_call E rfl rfl (by decide) rfl Tryd.func43 rfl (by kernel_rfl) rfl (danswers_ret r L _ ad c hL0 hll _ (S.hpone (show L ∈ _ from (by repeat (first | exact mm1 | assumption | apply List.Mem.tail))))) ?_
  rintro v7 w ⟨rfl, hT⟩; clear E a; intro a E
  have S := S.callone (show L ∈ _ from (by repeat (first | exact mm1 | assumption | apply List.Mem.tail))) hT
  refine list_pure E rfl rfl (by decide) (rn_assign E rfl rfl) ?_; clear E a; intro a E
  refine wpList_nil ?_
  refine then_k hK ?_; clear hK; clear K
  refine wp_seq_k ?_; intro K hK
  refine wp_seq_k ?_; intro K hK
  refine region_list ?_
  refine list_pure E rfl rfl (by decide) (rn_move E rfl rfl) ?_; clear E a; intro a E
  refine list_pure E rfl rfl (by decide) (rn_not E rfl rfl) ?_; clear E a; intro a E
  refine wpList_nil ?_
  refine then_k hK ?_; clear hK; clear K
  refine if_bool E rfl (fun hb => ?_) (fun hb => ?_)
  · replace hb := Nrm.nrm hb
    have hno : ¬ r.may := (by simpa using hb)
    refine wp_seq_k ?_; intro K hK
    refine region_list ?_
    refine list_pure E rfl rfl (by decide) (rn_assign E rfl rfl) ?_; clear E a; intro a E
    refine list_pure E rfl rfl (by decide) (rn_assign E rfl rfl) ?_; clear E a; intro a E
    refine wpList_nil ?_
    refine then_k hK ?_; clear hK; clear K
    refine wp_ret ?_
    refine then_ret ?_; clear hK; clear K
    refine ret2 E rfl rfl rfl ?_
    exact ⟨_, rfl, _, [], by rw [rpE_no hno], by rw [rpO_no hno]; exact Buf.nil _ _, (S.del (A := [(b1, _)]) (by repeat (first | exact pk1 | apply pick_tail))).addNil.tr⟩
  · replace hb := Nrm.nrm hb
    have hm : r.may := (by simpa using hb)
    refine wp_skip ?_
    refine then_k hK ?_; clear hK; clear K
    refine wp_seq_k ?_; intro K hK
    have hsm := rpB_small hm
    have hfl := rpO_small r
    refine region_list ?_
    refine list_pure E rfl rfl (by decide) (rn_load_blk (vs := [_, _, _, _, _, _, _]) E rfl rfl rfl (S.get (by repeat (first | exact pk1 | apply pick_tail))) rfl rfl) ?_; clear E a; intro a E
    refine list_call E rfl rfl (by decide) rfl Tryd.func44 rfl (by kernel_rfl) rfl (answerbody_ret r _ L O _ _ hL0 hO0 (show L ∈ _ from (by repeat (first | exact mm1 | assumption | apply List.Mem.tail))) (show O ∈ _ from (by repeat (first | exact mm1 | assumption | apply List.Mem.tail))) hm _ S.hp) ?_
    rintro v11 w ⟨C, hC, hT⟩; clear E a; intro a E
    have S := S.all hT
    refine list_call E rfl rfl (by decide) rfl Tryd.func23 rfl (by kernel_rfl) rfl (dframed_ret 2 (by omega) C _ (rpB r) hC.rd (by omega) _ (show C ∈ _ from (by repeat (first | exact mm1 | assumption | apply List.Mem.tail))) (hG0.sub (fun _ h => by repeat (first | exact h | apply List.Mem.tail))) (hG1.sub (fun _ h => by repeat (first | exact h | apply List.Mem.tail))) _ S.hp) ?_
    rintro v12 w ⟨D, hD, hT⟩; clear E a; intro a E
    have S := S.all hT
    rw [show UInt8.ofNat 2 = (2 : UInt8) from rfl, ← rpO_yes hm] at hD
    obtain ⟨ad12, c12, rfl⟩ := hD.slice
    refine list_pure E rfl rfl (by decide) (rn_assign E rfl rfl) ?_; clear E a; intro a E
    refine wpList_nil ?_
    refine then_k hK ?_; clear hK; clear K
    refine wp_seq_k ?_; intro K hK
    refine wp_seq_k ?_; intro K hK
    refine region_list ?_
    refine list_pure E rfl rfl (by decide) (rn_move E rfl rfl) ?_; clear E a; intro a E
    refine list_pure E rfl rfl (by decide) (by first | exact rn_len E rfl rfl rfl | exact rn_len_str E rfl rfl rfl | exact rn_len_string E rfl rfl rfl) ?_; clear E a; intro a E
    refine list_pure E rfl rfl (by decide) (rn_gtr E rfl rfl rfl) ?_; clear E a; intro a E
    refine wpList_nil ?_
    refine then_k hK ?_; clear hK; clear K
    refine if_false' E rfl ((by simp; omega)) ?_
    refine wp_skip ?_
    refine then_k hK ?_; clear hK; clear K
    refine wp_seq_k ?_; intro K hK
    refine region_list ?_
    refine list_pure E rfl rfl (by decide) (rn_move E rfl rfl) ?_; clear E a; intro a E
    refine list_pure E rfl rfl (by decide) (rn_assign E rfl rfl) ?_; clear E a; intro a E
    refine list_pure E rfl rfl (by decide) (rn_assign E rfl rfl) ?_; clear E a; intro a E
    refine wpList_nil ?_
    refine then_k hK ?_; clear hK; clear K
    refine wp_ret ?_
    refine ret2 E rfl rfl rfl ?_
    exact ⟨_, rfl, _, D, by rw [rpE_yes hm], hD, ((S.del (A := C) (by repeat (first | exact pk1 | apply pick_tail))).del (A := [(b1, _)]) (by repeat (first | exact pk1 | apply pick_tail))).tr⟩

theorem answersLaw_ret (r : Rp) (L O : Chunk) (vl vd : Value) (hL : Rd L 1 vl r.list.length (sts r.list)) (hll : r.list.length ≤ 140737488355328) (hO : Rd O 1 vd r.data.length (byt r.data)) (As : List Chunk) (hLA : L ∈ As) (hOA : O ∈ As)
    (hG : Tab As 2 shaK) (hG0 : Tab As 0 sha0.l) (hG1 : Tab As 1 shaK) (w0 : World) (H : Hp w0 As) :
    Ret Tryd.prog 6 #[rpagg r vl vd] w0 fun u w' => u = .bool true ∧ Trs w0 w' As As := by
  have S := St.begin H
  have hO0 := hO
  have hL0 := hL
  obtain ⟨ad, c, rfl⟩ := hO.slice
  obtain ⟨adl, cl, rfl⟩ := hL.slice
  refine enter1 32 Tryd.func6 rfl rfl (by decide) ?_; intro a E
  refine wp_seq_k ?_; intro K hK
  refine region_list ?_
  refine list_wp rfl (wp_box E S rfl rfl (by decide) rfl rfl ?_); clear E S a; intro a w b1 E S
  refine list_pure E rfl rfl (by decide) (rn_assign E rfl rfl) ?_; clear E a; intro a E
  refine wpList_nil ?_
  refine then_k hK ?_; clear hK; clear K
  refine wp_seq_k ?_; intro K hK
  refine region_list ?_
  refine list_call E rfl rfl (by decide) rfl Tryd.func9 rfl (by kernel_rfl) rfl (awake_ret _ hG.tail _ S.hp) ?_
  rintro v8 w ⟨rfl, hT⟩; clear E a; intro a E
  have S := S.all hT
  refine list_pure E rfl rfl (by decide) (rn_assign E rfl rfl) ?_; clear E a; intro a E
  refine wpList_nil ?_
  refine then_k hK ?_; clear hK; clear K
  refine wp_seq_k ?_; intro K hK
  refine region_list ?_
  refine list_pure E rfl rfl (by decide) (rn_load_blk (vs := [_, _, _, _, _, _, _]) E rfl rfl rfl (S.get (by repeat (first | exact pk1 | apply pick_tail))) rfl rfl) ?_; clear E a; intro a E
  refine list_call E rfl rfl (by decide) rfl Tryd.func20 rfl (by kernel_rfl) rfl (rpencode_ret r L O _ _ hL0 hll hO0 _ (show L ∈ _ from (by repeat (first | exact mm1 | assumption | apply List.Mem.tail))) (show O ∈ _ from (by repeat (first | exact mm1 | assumption | apply List.Mem.tail))) (hG.sub (fun _ h => by repeat (first | exact h | apply List.Mem.tail))) _ S.hp) ?_
  rintro v11 w ⟨x, C, rfl, hC, hT⟩; clear E a; intro a E
  have S := S.all hT; obtain ⟨adx, cx, rfl⟩ := hC.slice
  refine list_pure E rfl rfl (by decide) (rn_move E rfl rfl) ?_; clear E a; intro a E
  refine list_pure E rfl rfl (by decide) (rn_extract E rfl rfl rfl) ?_; clear E a; intro a E
  refine list_pure E rfl rfl (by decide) (rn_extract E rfl rfl rfl) ?_; clear E a; intro a E
  refine list_pure E rfl rfl (by decide) (rn_assign E rfl rfl) ?_; clear E a; intro a E
  refine list_pure E rfl rfl (by decide) (rn_assign E rfl rfl) ?_; clear E a; intro a E
  refine wpList_nil ?_
  refine then_k hK ?_; clear hK; clear K
  refine wp_seq_k ?_; intro K hK
  refine region_list ?_
  refine list_pure E rfl rfl (by decide) (rn_load_blk (vs := [_, _, _, _, _, _, _]) E rfl rfl rfl (S.get (by repeat (first | exact pk1 | apply pick_tail))) rfl rfl) ?_; clear E a; intro a E
  refine list_call E rfl rfl (by decide) rfl Tryd.func21 rfl (by kernel_rfl) rfl (drpencode_ret r L O _ _ hL0 hll hO0 _ (show L ∈ _ from (by repeat (first | exact mm1 | assumption | apply List.Mem.tail))) (show O ∈ _ from (by repeat (first | exact mm1 | assumption | apply List.Mem.tail))) (hG0.sub (fun _ h => by repeat (first | exact h | apply List.Mem.tail))) (hG1.sub (fun _ h => by repeat (first | exact h | apply List.Mem.tail))) _ S.hp) ?_
  rintro v16 w ⟨y, D, rfl, hD, hT⟩; clear E a; intro a E
  have S := S.all hT; obtain ⟨ady, cy, rfl⟩ := hD.slice
  refine list_pure E rfl rfl (by decide) (rn_move E rfl rfl) ?_; clear E a; intro a E
  refine list_pure E rfl rfl (by decide) (rn_extract E rfl rfl rfl) ?_; clear E a; intro a E
  refine list_pure E rfl rfl (by decide) (rn_extract E rfl rfl rfl) ?_; clear E a; intro a E
  refine list_pure E rfl rfl (by decide) (rn_assign E rfl rfl) ?_; clear E a; intro a E
  refine list_pure E rfl rfl (by decide) (rn_assign E rfl rfl) ?_; clear E a; intro a E
  refine wpList_nil ?_
  refine then_k hK ?_; clear hK; clear K
  refine wp_seq_k ?_; intro K hK
  refine region_list ?_
  refine list_pure E rfl rfl (by decide) (rn_move E rfl rfl) ?_; clear E a; intro a E
  refine list_pure E rfl rfl (by decide) (rn_move E rfl rfl) ?_; clear E a; intro a E
  refine guard_true E (t := 20) rfl (rfl) (fun hb20 => ?_)
  refine list_guard_yes E rfl rfl rfl rfl hb20 rfl (by decide) (rn_move E rfl rfl) ?_; clear E a; intro a E
  refine list_guard_yes E rfl rfl rfl rfl hb20 rfl (by decide) (rn_string E rfl rfl rfl rfl rfl (bs := rpO r) hC.rd (S.stab.at (by repeat (first | exact mm1 | assumption | apply List.Mem.tail)))) ?_; clear E a; intro a E
  refine list_guard_yes E rfl rfl rfl rfl hb20 rfl (by decide) (rn_move E rfl rfl) ?_; clear E a; intro a E
  refine list_guard_yes E rfl rfl rfl rfl hb20 rfl (by decide) (rn_string E rfl rfl rfl rfl rfl (bs := rpO r) hD.rd (S.stab.at (by repeat (first | exact mm1 | assumption | apply List.Mem.tail)))) ?_; clear E a; intro a E
  refine list_guard_yes E rfl rfl rfl rfl hb20 rfl (by decide) (by first | exact rn_eql E rfl rfl rfl | exact rn_eql_ptr_nil E rfl rfl rfl rfl | exact rn_eql_bool E rfl rfl rfl rfl | exact rn_eql_string E rfl rfl rfl) ?_; clear E a; intro a E
  refine list_pure E rfl rfl (by decide) (rn_pick_yes' E rfl rfl hb20 rfl) ?_; clear E a; intro a E
  refine list_pure E rfl rfl (by decide) (rn_move E rfl rfl) ?_; clear E a; intro a E
  refine guard_true E (t := 27) rfl ((decide_eq_true rfl)) (fun hb27 => ?_)
  refine list_guard_yes E rfl rfl rfl rfl hb27 rfl (by decide) (rn_move E rfl rfl) ?_; clear E a; intro a E
  refine list_guard_yes E rfl rfl rfl rfl hb27 rfl (by decide) (rn_move E rfl rfl) ?_; clear E a; intro a E
  refine list_guard_yes E rfl rfl rfl rfl hb27 rfl (by decide) (by first | exact rn_eql E rfl rfl rfl | exact rn_eql_ptr_nil E rfl rfl rfl rfl | exact rn_eql_bool E rfl rfl rfl rfl | exact rn_eql_string E rfl rfl rfl) ?_; clear E a; intro a E
  refine list_pure E rfl rfl (by decide) (rn_pick_yes' E rfl rfl hb27 rfl) ?_; clear E a; intro a E
  refine list_pure E rfl rfl (by decide) (rn_assign E rfl rfl) ?_; clear E a; intro a E
  refine wpList_nil ?_
  refine then_k hK ?_; clear hK; clear K
  refine wp_ret ?_
  refine ret1 E rfl rfl ?_
  exact ⟨_, rfl, by simp, (by repeat (first | exact S.tr | replace S := S.tail))⟩

/-- What an argument's reply says. -/
def RpG (O : Chunk) (vl vd : Value) (r : Rp) : Prop := Rd O 1 vl r.list.length (sts r.list) ∧ r.list.length ≤ 140737488351232 ∧ Rd O 1 vd r.data.length (byt r.data) ∧ r.data.length ≤ 140737488351232 ∧ (∀ t ∈ r.list, t.length ≤ 140737488351232) ∧ (∃ ad c, vd = .slice ad r.data.length c ∧ r.data.length ≤ c)
theorem flat_sts : ∀ (l : List (List UInt8)), (l.flatMap fun t => [str t]) = sts l
  | [] => rfl
  | t :: l => by rw [List.flatMap_cons, flat_sts l]; rfl
theorem dec_rp {H : Type} {enc : TypeId × Value → H} {w : World} : Dec enc Tryd.prog w 50 7 (fun x : (Value × Value) × Rp => [.int .i64 x.2.ses, .int .i64 x.2.id, .int .i64 x.2.err, .int .i64 x.2.num, str x.2.text, x.1.1, x.1.2]) (fun x => RpG (old w) x.1.1 x.1.2 x.2) := fun n cs x h hlen hw => by
  match cs, hlen with
  | [c0, c1, c2, c3, c4, c5, c6], _ =>
  have ki : Tryd.prog.cellsOf 3 = 1 := by kernel_rfl
  have ke : Tryd.prog.cellsOf 26 = 1 := by kernel_rfl
  have ks : Tryd.prog.cellsOf 9 = 1 := by kernel_rfl
  have kl : Tryd.prog.cellsOf 48 = 1 := by kernel_rfl
  have kb : Tryd.prog.cellsOf 22 = 1 := by kernel_rfl
  have ht := Tryd.underlying50
  obtain ⟨a0, e0, h0⟩ := dec_field 0 0 ht h hw rfl ki (dec_i64 (enc := enc) Tryd.underlying3) (by simp)
  obtain ⟨a1, e1, h1⟩ := dec_field 1 1 ht h hw rfl ki (dec_i64 (enc := enc) Tryd.underlying3) (by simp)
  obtain ⟨a2, e2, h2⟩ := dec_field 2 2 ht h hw rfl ke (dec_i64 (enc := enc) Tryd.underlying26) (by simp)
  obtain ⟨a3, e3, h3⟩ := dec_field 3 3 ht h hw rfl ki (dec_i64 (enc := enc) Tryd.underlying3) (by simp)
  obtain ⟨a4, e4, h4⟩ := dec_field 4 4 ht h hw rfl ks (dec_string (enc := enc) Tryd.underlying9) (by simp)
  obtain ⟨⟨vl, ts⟩, e5, adl, cl, l1, l2, l3, l4, l5⟩ := dec_field 5 5 ht h hw rfl kl (dec_slice (enc := enc) (s := 1) (sz := 16) Tryd.underlying48 (by kernel_rfl) (by decide) (by kernel_rfl) (dec_string Tryd.underlying9) (fun _ _ u hu => by rw [List.mem_singleton.1 hu]; rfl)) (by simp)
  obtain ⟨⟨vd, bs⟩, e6, ad, c, f1, f2, f3, f4, f5⟩ := dec_field 6 6 ht h hw rfl kb (dec_slice (enc := enc) (s := 1) (sz := 1) Tryd.underlying22 (by kernel_rfl) (by decide) (by kernel_rfl) (dec_u8 Tryd.underlying5) (fun _ _ u hu => by rw [List.mem_singleton.1 hu]; rfl)) (by simp)
  simp only [List.drop_succ_cons, List.drop_zero, List.take_succ_cons, List.take_zero, List.cons.injEq, and_true] at e0 e1 e2 e3 e4 e5 e6
  subst e0 e1 e2 e3 e4 e5 e6
  simp only at f1 f2 f3 f4 f5 l1 l2 l3 l4 l5
  rw [flat_byt] at f4
  rw [flat_sts] at l4
  exact ⟨((c5, c6), ⟨a0, a1, a2, a3, a4, ts, bs⟩), rfl, l4, by show ts.length ≤ _; omega, f4, by show bs.length ≤ _; omega, l5, ad, c, f1, f2⟩

theorem answers_walk (O : Chunk) (hL : Lay3 O) (a : (Value × Value) × Rp) (hg : RpG O a.1.1 a.1.2 a.2) (w0 : World) (H : Hp w0 [O]) :
    Ret Tryd.prog 6 #[rpagg a.2 a.1.1 a.1.2] w0 fun u w' => u = .bool true ∧ Trs w0 w' [O] [O] :=
  answersLaw_ret a.2 O O a.1.1 a.1.2 hg.1 (Nat.le_trans hg.2.1 (by omega)) hg.2.2.1 [O] (List.Mem.head _) (List.Mem.head _) hL.1 hL.2.1 hL.2.2 w0 H
end Go.Proofs.YtjhmjdgdgpgcdaaDoor
