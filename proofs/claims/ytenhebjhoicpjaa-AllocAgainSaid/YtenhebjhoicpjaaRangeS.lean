/-
  Spans and the small functions of the ranges, the program's and the document's.
-/
import Derived.Test.YtenhebjhoicpjaaProg
import Derived.Test.YtenhebjhoicpjaaMore2
namespace Go.Sl

structure Sp where
  at_ : Int
  many : Int
deriving DecidableEq
def Sp.lay (x : Sp) : List Value := [.int .i64 x.at_, .int .i64 x.many]
abbrev Sp.agg (x : Sp) : Value := .agg #[.int .i64 x.at_, .int .i64 x.many]
def Sp.fin (x : Sp) : Int := x.at_ + x.many
def Sp.may (x : Sp) : Bool := decide (0 ≤ x.at_ ∧ 1 ≤ x.many ∧ x.at_ ≤ 1099511627776 ∧ x.many ≤ 1099511627776 - x.at_)
theorem Sp.lay_len (x : Sp) : x.lay.length = 2 := rfl
/-- How many numbers two spans have in common. -/
def Sp.common (a b : Sp) : Int := if min a.fin b.fin < max a.at_ b.at_ then 0 else min a.fin b.fin - max a.at_ b.at_
end Go.Sl

namespace Go.Proofs.Ytenhebjhoicpjaa
open Go.Sl
set_option maxRecDepth 10000

theorem may_ret (x : Sp) (w0 : World) : Ret Try.prog 42 #[x.agg] w0 fun u w' => u = .bool x.may ∧ Trs w0 w' [] [] := by
  have S := St.begin (hp_nil w0)
  refine enter1 24 Try.func42 rfl rfl (by decide) ?_; intro a E
  refine wp_seq_k ?_; intro K hK
  refine region_list ?_
  refine list_wp rfl (wp_box E S rfl rfl (by decide) rfl rfl ?_); clear E S a; intro a w b1 E S
  refine list_pure E rfl rfl (by decide) (rn_assign E rfl rfl) ?_; clear E a; intro a E
  refine wpList_nil ?_
  refine then_k hK ?_; clear hK; clear K
  refine wp_seq_k ?_; intro K hK
  refine region_list ?_
  refine list_pure E rfl rfl (by decide) (by first | exact rn_fieldAddr0 (q := 0) E rfl rfl rfl | exact rn_fieldAddr (q := 0) E rfl rfl rfl) ?_; clear E a; intro a E
  refine list_pure E rfl rfl (by decide) (by first | exact rn_load E rfl rfl rfl (S.get (by repeat (first | exact pk1 | apply pick_tail))) rfl | exact rn_loadc E rfl rfl rfl (by assumption)) ?_; clear E a; intro a E
  refine list_pure E rfl rfl (by decide) (rn_geq E rfl rfl rfl) ?_; clear E a; intro a E
  refine list_pure E rfl rfl (by decide) (rn_move E rfl rfl) ?_; clear E a; intro a E
  refine guard_split E (t := 6) rfl (fun hb6 => ?_) (fun hb6 => ?_)
  · have hb6n := hb6; replace hb6n := Nrm.nrm hb6n
    refine list_guard_yes E rfl rfl rfl rfl hb6 rfl (by decide) (by first | exact rn_fieldAddr0 (q := 1) E rfl rfl rfl | exact rn_fieldAddr (q := 1) E rfl rfl rfl) ?_; clear E a; intro a E
    refine list_guard_yes E rfl rfl rfl rfl hb6 rfl (by decide) (by first | exact rn_load E rfl rfl rfl (S.get (by repeat (first | exact pk1 | apply pick_tail))) rfl | exact rn_loadc E rfl rfl rfl (by assumption)) ?_; clear E a; intro a E
    refine list_guard_yes E rfl rfl rfl rfl hb6 rfl (by decide) (rn_geq E rfl rfl rfl) ?_; clear E a; intro a E
    refine list_pure E rfl rfl (by decide) (rn_pick_yes' E rfl rfl hb6 rfl) ?_; clear E a; intro a E
    refine list_pure E rfl rfl (by decide) (rn_move E rfl rfl) ?_; clear E a; intro a E
    refine guard_split E (t := 11) rfl (fun hb11 => ?_) (fun hb11 => ?_)
    · have hb11n := hb11; replace hb11n := Nrm.nrm hb11n
      refine list_guard_yes E rfl rfl rfl rfl hb11 rfl (by decide) (by first | exact rn_fieldAddr0 (q := 0) E rfl rfl rfl | exact rn_fieldAddr (q := 0) E rfl rfl rfl) ?_; clear E a; intro a E
      refine list_guard_yes E rfl rfl rfl rfl hb11 rfl (by decide) (by first | exact rn_load E rfl rfl rfl (S.get (by repeat (first | exact pk1 | apply pick_tail))) rfl | exact rn_loadc E rfl rfl rfl (by assumption)) ?_; clear E a; intro a E
      refine list_guard_yes E rfl rfl rfl rfl hb11 rfl (by decide) (rn_leq E rfl rfl rfl) ?_; clear E a; intro a E
      refine list_pure E rfl rfl (by decide) (rn_pick_yes' E rfl rfl hb11 rfl) ?_; clear E a; intro a E
      refine list_pure E rfl rfl (by decide) (rn_move E rfl rfl) ?_; clear E a; intro a E
      refine guard_split E (t := 16) rfl (fun hb16 => ?_) (fun hb16 => ?_)
      · have hb16n := hb16; replace hb16n := Nrm.nrm hb16n
        refine list_guard_yes E rfl rfl rfl rfl hb16 rfl (by decide) (by first | exact rn_fieldAddr0 (q := 1) E rfl rfl rfl | exact rn_fieldAddr (q := 1) E rfl rfl rfl) ?_; clear E a; intro a E
        refine list_guard_yes E rfl rfl rfl rfl hb16 rfl (by decide) (by first | exact rn_load E rfl rfl rfl (S.get (by repeat (first | exact pk1 | apply pick_tail))) rfl | exact rn_loadc E rfl rfl rfl (by assumption)) ?_; clear E a; intro a E
        refine list_guard_yes E rfl rfl rfl rfl hb16 rfl (by decide) (by first | exact rn_fieldAddr0 (q := 0) E rfl rfl rfl | exact rn_fieldAddr (q := 0) E rfl rfl rfl) ?_; clear E a; intro a E
        refine list_guard_yes E rfl rfl rfl rfl hb16 rfl (by decide) (by first | exact rn_load E rfl rfl rfl (S.get (by repeat (first | exact pk1 | apply pick_tail))) rfl | exact rn_loadc E rfl rfl rfl (by assumption)) ?_; clear E a; intro a E
        refine list_guard_yes E rfl rfl rfl rfl hb16 rfl (by decide) (rn_sub E rfl rfl rfl (by first | exact ws1 (by omega) (by omega) | exact w_in (by omega) | exact w_inu (by omega) | exact rfl)) ?_; clear E a; intro a E
        refine list_guard_yes E rfl rfl rfl rfl hb16 rfl (by decide) (rn_leq E rfl rfl rfl) ?_; clear E a; intro a E
        refine list_pure E rfl rfl (by decide) (rn_pick_yes' E rfl rfl hb16 rfl) ?_; clear E a; intro a E
        refine list_pure E rfl rfl (by decide) (rn_assign E rfl rfl) ?_; clear E a; intro a E
        refine wpList_nil ?_
        refine then_k hK ?_; clear hK; clear K
        refine wp_ret ?_
        refine ret1 E rfl rfl ?_
        refine ⟨_, rfl, ?_, (S.only (Bs := []) (sel_nil _)).tr⟩
        rw [Value.bool.injEq, Bool.eq_iff_iff]; simp only [Sp.may, decide_eq_true_eq, Bool.false_eq_true, false_iff]; omega
      · have hb16n := hb16; replace hb16n := Nrm.nrm hb16n
        refine list_guard_no E rfl rfl rfl rfl hb16 rfl (by decide) ?_; clear E a; intro a E
        refine list_guard_no E rfl rfl rfl rfl hb16 rfl (by decide) ?_; clear E a; intro a E
        refine list_guard_no E rfl rfl rfl rfl hb16 rfl (by decide) ?_; clear E a; intro a E
        refine list_guard_no E rfl rfl rfl rfl hb16 rfl (by decide) ?_; clear E a; intro a E
        refine list_guard_no E rfl rfl rfl rfl hb16 rfl (by decide) ?_; clear E a; intro a E
        refine list_guard_no E rfl rfl rfl rfl hb16 rfl (by decide) ?_; clear E a; intro a E
        refine list_pure E rfl rfl (by decide) (rn_pick_no' E rfl rfl hb16 rfl) ?_; clear E a; intro a E
        refine list_pure E rfl rfl (by decide) (rn_assign E rfl rfl) ?_; clear E a; intro a E
        refine wpList_nil ?_
        refine then_k hK ?_; clear hK; clear K
        refine wp_ret ?_
        refine ret1 E rfl rfl ?_
        refine ⟨_, rfl, ?_, (S.only (Bs := []) (sel_nil _)).tr⟩
        rw [Value.bool.injEq, Bool.eq_iff_iff]; simp only [Sp.may, decide_eq_true_eq, Bool.false_eq_true, false_iff]; omega
    · have hb11n := hb11; replace hb11n := Nrm.nrm hb11n
      refine list_guard_no E rfl rfl rfl rfl hb11 rfl (by decide) ?_; clear E a; intro a E
      refine list_guard_no E rfl rfl rfl rfl hb11 rfl (by decide) ?_; clear E a; intro a E
      refine list_guard_no E rfl rfl rfl rfl hb11 rfl (by decide) ?_; clear E a; intro a E
      refine list_pure E rfl rfl (by decide) (rn_pick_no' E rfl rfl hb11 rfl) ?_; clear E a; intro a E
      refine list_pure E rfl rfl (by decide) (rn_move E rfl rfl) ?_; clear E a; intro a E
      refine list_guard_no E rfl rfl rfl rfl rfl rfl (by decide) ?_; clear E a; intro a E
      refine list_guard_no E rfl rfl rfl rfl rfl rfl (by decide) ?_; clear E a; intro a E
      refine list_guard_no E rfl rfl rfl rfl rfl rfl (by decide) ?_; clear E a; intro a E
      refine list_guard_no E rfl rfl rfl rfl rfl rfl (by decide) ?_; clear E a; intro a E
      refine list_guard_no E rfl rfl rfl rfl rfl rfl (by decide) ?_; clear E a; intro a E
      refine list_guard_no E rfl rfl rfl rfl rfl rfl (by decide) ?_; clear E a; intro a E
      refine list_pure E rfl rfl (by decide) (rn_pick_no' E rfl rfl rfl rfl) ?_; clear E a; intro a E
      refine list_pure E rfl rfl (by decide) (rn_assign E rfl rfl) ?_; clear E a; intro a E
      refine wpList_nil ?_
      refine then_k hK ?_; clear hK; clear K
      refine wp_ret ?_
      refine ret1 E rfl rfl ?_
      refine ⟨_, rfl, ?_, (S.only (Bs := []) (sel_nil _)).tr⟩
      rw [Value.bool.injEq, Bool.eq_iff_iff]; simp only [Sp.may, decide_eq_true_eq, Bool.false_eq_true, false_iff]; omega
  · have hb6n := hb6; replace hb6n := Nrm.nrm hb6n
    refine list_guard_no E rfl rfl rfl rfl hb6 rfl (by decide) ?_; clear E a; intro a E
    refine list_guard_no E rfl rfl rfl rfl hb6 rfl (by decide) ?_; clear E a; intro a E
    refine list_guard_no E rfl rfl rfl rfl hb6 rfl (by decide) ?_; clear E a; intro a E
    refine list_pure E rfl rfl (by decide) (rn_pick_no' E rfl rfl hb6 rfl) ?_; clear E a; intro a E
    refine list_pure E rfl rfl (by decide) (rn_move E rfl rfl) ?_; clear E a; intro a E
    refine list_guard_no E rfl rfl rfl rfl rfl rfl (by decide) ?_; clear E a; intro a E
    refine list_guard_no E rfl rfl rfl rfl rfl rfl (by decide) ?_; clear E a; intro a E
    refine list_guard_no E rfl rfl rfl rfl rfl rfl (by decide) ?_; clear E a; intro a E
    refine list_pure E rfl rfl (by decide) (rn_pick_no' E rfl rfl rfl rfl) ?_; clear E a; intro a E
    refine list_pure E rfl rfl (by decide) (rn_move E rfl rfl) ?_; clear E a; intro a E
    refine list_guard_no E rfl rfl rfl rfl rfl rfl (by decide) ?_; clear E a; intro a E
    refine list_guard_no E rfl rfl rfl rfl rfl rfl (by decide) ?_; clear E a; intro a E
    refine list_guard_no E rfl rfl rfl rfl rfl rfl (by decide) ?_; clear E a; intro a E
    refine list_guard_no E rfl rfl rfl rfl rfl rfl (by decide) ?_; clear E a; intro a E
    refine list_guard_no E rfl rfl rfl rfl rfl rfl (by decide) ?_; clear E a; intro a E
    refine list_guard_no E rfl rfl rfl rfl rfl rfl (by decide) ?_; clear E a; intro a E
    refine list_pure E rfl rfl (by decide) (rn_pick_no' E rfl rfl rfl rfl) ?_; clear E a; intro a E
    refine list_pure E rfl rfl (by decide) (rn_assign E rfl rfl) ?_; clear E a; intro a E
    refine wpList_nil ?_
    refine then_k hK ?_; clear hK; clear K
    refine wp_ret ?_
    refine ret1 E rfl rfl ?_
    refine ⟨_, rfl, ?_, (S.only (Bs := []) (sel_nil _)).tr⟩
    rw [Value.bool.injEq, Bool.eq_iff_iff]; simp only [Sp.may, decide_eq_true_eq, Bool.false_eq_true, false_iff]; omega

theorem end_ret (x : Sp) (h : -9223372036854775808 ≤ x.at_ + x.many ∧ x.at_ + x.many ≤ 9223372036854775807) (w0 : World) : Ret Try.prog 37 #[x.agg] w0 fun u w' => u = .int .i64 x.fin ∧ Trs w0 w' [] [] := by
  have S := St.begin (hp_nil w0)
  refine enter1 8 Try.func37 rfl rfl (by decide) ?_; intro a E
  refine wp_seq_k ?_; intro K hK
  refine region_list ?_
  refine list_wp rfl (wp_box E S rfl rfl (by decide) rfl rfl ?_); clear E S a; intro a w b1 E S
  refine list_pure E rfl rfl (by decide) (rn_assign E rfl rfl) ?_; clear E a; intro a E
  refine wpList_nil ?_
  refine then_k hK ?_; clear hK; clear K
  refine wp_seq_k ?_; intro K hK
  refine region_list ?_
  refine list_pure E rfl rfl (by decide) (by first | exact rn_fieldAddr0 (q := 0) E rfl rfl rfl | exact rn_fieldAddr (q := 0) E rfl rfl rfl) ?_; clear E a; intro a E
  refine list_pure E rfl rfl (by decide) (by first | exact rn_load E rfl rfl rfl (S.get (by repeat (first | exact pk1 | apply pick_tail))) rfl | exact rn_loadc E rfl rfl rfl (by assumption)) ?_; clear E a; intro a E
  refine list_pure E rfl rfl (by decide) (by first | exact rn_fieldAddr0 (q := 1) E rfl rfl rfl | exact rn_fieldAddr (q := 1) E rfl rfl rfl) ?_; clear E a; intro a E
  refine list_pure E rfl rfl (by decide) (by first | exact rn_load E rfl rfl rfl (S.get (by repeat (first | exact pk1 | apply pick_tail))) rfl | exact rn_loadc E rfl rfl rfl (by assumption)) ?_; clear E a; intro a E
  refine list_pure E rfl rfl (by decide) (rn_add E rfl rfl rfl (by first | exact wa1 (by omega) | exact w_in (by omega) | exact w_inu (by omega) | exact rfl)) ?_; clear E a; intro a E
  refine list_pure E rfl rfl (by decide) (rn_assign E rfl rfl) ?_; clear E a; intro a E
  refine wpList_nil ?_
  refine then_k hK ?_; clear hK; clear K
  refine wp_ret ?_
  refine ret1 E rfl rfl ?_
  exact ⟨_, rfl, rfl, (S.only (Bs := []) (sel_nil _)).tr⟩
end Go.Proofs.Ytenhebjhoicpjaa
