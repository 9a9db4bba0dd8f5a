/-
  Allocators: the law's own functions.
-/
import Derived.Test.YtenhebjhoicpjaaAllM
namespace Go.Sl
def bool2 (p q : Pl) : Bool := decide (p.top = q.top ∧ p.sp.at_ < q.sp.at_ + q.sp.many ∧ q.sp.at_ < p.sp.at_ + p.sp.many)
def aw1 : Al := ⟨[10, 20], [[⟨0, 10⟩], [⟨3, 17⟩]], [[], []], []⟩
def aw2 : Al := ⟨[10, 20], [[⟨0, 10⟩], [⟨3, 17⟩]], [[], [⟨0, 3⟩]], [(5, [⟨1, ⟨0, 3⟩⟩])]⟩
def aw5 : Al := ⟨[10, 20], [[⟨1, 9⟩], [⟨0, 20⟩]], [[], []], []⟩
theorem aw_start : Al.start [10, 20] [] = some (Al.new [10, 20]) := rfl
theorem aw_take : (Al.new [10, 20]).take [3, 3] = (aw1, ⟨1, ⟨0, 3⟩⟩, 0) := rfl
theorem aw_free : aw1.letgo ⟨1, ⟨0, 3⟩⟩ 5 = (aw2, 0) := rfl
theorem aw_sync6 {b : Al} (h : aw2.Sync 6 b) : b = aw2 := by
  obtain ⟨gs, hp, rfl⟩ := h
  have h1 : aw2.by_.filter (fun g => ripe 6 g.1) = [] := rfl
  rw [h1] at hp
  rw [hp.eq_nil]; rfl
theorem aw_sync7 {b : Al} (h : aw2.Sync 7 b) : b = Al.new [10, 20] := by
  obtain ⟨gs, hp, rfl⟩ := h
  have h1 : aw2.by_.filter (fun g => ripe 7 g.1) = [(5, [⟨1, ⟨0, 3⟩⟩])] := rfl
  rw [h1] at hp
  rw [List.perm_singleton.1 hp]; rfl
theorem aw_take2 : (Al.new [10, 20]).take [1, 0] = (aw5, ⟨0, ⟨0, 1⟩⟩, 0) := rfl
theorem aw_undo : aw5.undo ⟨0, ⟨0, 1⟩⟩ = (Al.new [10, 20], 0) := rfl
theorem aw_wait2 : aw2.waiting = 3 := rfl
theorem aw_wait : (Al.new [10, 20]).waiting = 0 := rfl
theorem aw_room : (Al.new [10, 20]).room 1 = 20 := rfl
theorem aw_taken : (Al.new [10, 20]).taken = [] := rfl
end Go.Sl
namespace Go.Proofs.Ytenhebjhoicpjaa
open Go.Sl
set_option maxRecDepth 10000
theorem rd2i (g : Nat) (a b : Int) (T : TypeId) : Rd [(g, cel [.int .i64 a, .int .i64 b] T)] 1 (.slice (some ⟨g, 0, none⟩) 2 2) [a, b].length ([a, b].map iv) := rd_cells rfl (by simp [Value.oneCell']) (by simp) 2

theorem meets2_ret (p q : Pl) (hp : p.sp.may = true) (hq : q.sp.may = true) (As : List Chunk) (w0 : World) (H : Hp w0 As) :
    Ret Try.prog 9 #[p.agg, q.agg] w0 fun u w' => u = .bool (bool2 p q) ∧ Trs w0 w' As As := by
  obtain ⟨pt, ps⟩ := p
  obtain ⟨qt, qs⟩ := q
  have m1 := Sp.may_iff.1 hp
  have m2 := Sp.may_iff.1 hq
  have S := St.begin H
  refine enter2 36 Try.func9 rfl rfl (by decide) ?_; intro a E
  refine wp_seq_k ?_; intro K hK
  refine region_list ?_
  refine list_wp rfl (wp_box E S rfl rfl (by decide) rfl rfl ?_); clear E S a; intro a w b2 E S
  refine list_wp rfl (wp_box E S rfl rfl (by decide) rfl rfl ?_); clear E S a; intro a w b3 E S
  refine list_pure E rfl rfl (by decide) (rn_assign E rfl rfl) ?_; clear E a; intro a E
  refine wpList_nil ?_
  refine then_k hK ?_; clear hK; clear K
  refine wp_seq_k ?_; intro K hK
  refine region_list ?_
  refine list_pure E rfl rfl (by decide) (by first | exact rn_fieldAddr0 (q := 0) E rfl rfl rfl | exact rn_fieldAddr (q := 0) E rfl rfl rfl) ?_; clear E a; intro a E
  refine list_pure E rfl rfl (by decide) (by first | exact rn_load E rfl rfl rfl (S.get (by repeat (first | exact pk1 | apply pick_tail))) rfl | exact rn_loadc E rfl rfl rfl (by assumption)) ?_; clear E a; intro a E
  refine list_pure E rfl rfl (by decide) (by first | exact rn_fieldAddr0 (q := 0) E rfl rfl rfl | exact rn_fieldAddr (q := 0) E rfl rfl rfl) ?_; clear E a; intro a E
  refine list_pure E rfl rfl (by decide) (by first | exact rn_load E rfl rfl rfl (S.get (by repeat (first | exact pk1 | apply pick_tail))) rfl | exact rn_loadc E rfl rfl rfl (by assumption)) ?_; clear E a; intro a E
  refine list_pure E rfl rfl (by decide) (by first | exact rn_eql E rfl rfl rfl | exact rn_eql_ptr_nil E rfl rfl rfl rfl | exact rn_eql_bool E rfl rfl rfl rfl | exact rn_eql_string E rfl rfl rfl) ?_; clear E a; intro a E
  refine list_pure E rfl rfl (by decide) (rn_move E rfl rfl) ?_; clear E a; intro a E
  refine guard_split E (t := 10) rfl (fun hb10 => ?_) (fun hb10 => ?_)
  · have hb10n := hb10; replace hb10n := Nrm.nrm hb10n
    skip
    refine list_guard_yes E rfl rfl rfl rfl hb10 rfl (by decide) (by first | exact rn_fieldAddr0 (q := 1) E rfl rfl rfl | exact rn_fieldAddr (q := 1) E rfl rfl rfl) ?_; clear E a; intro a E
    refine list_guard_yes E rfl rfl rfl rfl hb10 rfl (by decide) (by first | exact rn_fieldAddr0 (q := 0) E rfl rfl rfl | exact rn_fieldAddr (q := 0) E rfl rfl rfl) ?_; clear E a; intro a E
    refine list_guard_yes E rfl rfl rfl rfl hb10 rfl (by decide) (by first | exact rn_load E rfl rfl rfl (S.get (by repeat (first | exact pk1 | apply pick_tail))) rfl | exact rn_loadc E rfl rfl rfl (by assumption)) ?_; clear E a; intro a E
    refine list_guard_yes E rfl rfl rfl rfl hb10 rfl (by decide) (by first | exact rn_fieldAddr0 (q := 1) E rfl rfl rfl | exact rn_fieldAddr (q := 1) E rfl rfl rfl) ?_; clear E a; intro a E
    refine list_guard_yes E rfl rfl rfl rfl hb10 rfl (by decide) (by first | exact rn_fieldAddr0 (q := 0) E rfl rfl rfl | exact rn_fieldAddr (q := 0) E rfl rfl rfl) ?_; clear E a; intro a E
    refine list_guard_yes E rfl rfl rfl rfl hb10 rfl (by decide) (by first | exact rn_load E rfl rfl rfl (S.get (by repeat (first | exact pk1 | apply pick_tail))) rfl | exact rn_loadc E rfl rfl rfl (by assumption)) ?_; clear E a; intro a E
    refine list_guard_yes E rfl rfl rfl rfl hb10 rfl (by decide) (by first | exact rn_fieldAddr0 (q := 1) E rfl rfl rfl | exact rn_fieldAddr (q := 1) E rfl rfl rfl) ?_; clear E a; intro a E
    refine list_guard_yes E rfl rfl rfl rfl hb10 rfl (by decide) (by first | exact rn_fieldAddr0 (q := 1) E rfl rfl rfl | exact rn_fieldAddr (q := 1) E rfl rfl rfl) ?_; clear E a; intro a E
    refine list_guard_yes E rfl rfl rfl rfl hb10 rfl (by decide) (by first | exact rn_load E rfl rfl rfl (S.get (by repeat (first | exact pk1 | apply pick_tail))) rfl | exact rn_loadc E rfl rfl rfl (by assumption)) ?_; clear E a; intro a E
    refine list_guard_yes E rfl rfl rfl rfl hb10 rfl (by decide) (rn_add E rfl rfl rfl (by first | exact wa1 (by omega) | exact w_in (by omega) | exact w_inu (by omega) | exact rfl)) ?_; clear E a; intro a E
    refine list_guard_yes E rfl rfl rfl rfl hb10 rfl (by decide) (rn_lss E rfl rfl rfl) ?_; clear E a; intro a E
    refine list_pure E rfl rfl (by decide) (rn_pick_yes' E rfl rfl hb10 rfl) ?_; clear E a; intro a E
    refine list_pure E rfl rfl (by decide) (rn_move E rfl rfl) ?_; clear E a; intro a E
    refine guard_split E (t := 23) rfl (fun hb23 => ?_) (fun hb23 => ?_)
    · have hb23n := hb23; replace hb23n := Nrm.nrm hb23n
      skip
      refine list_guard_yes E rfl rfl rfl rfl hb23 rfl (by decide) (by first | exact rn_fieldAddr0 (q := 1) E rfl rfl rfl | exact rn_fieldAddr (q := 1) E rfl rfl rfl) ?_; clear E a; intro a E
      refine list_guard_yes E rfl rfl rfl rfl hb23 rfl (by decide) (by first | exact rn_fieldAddr0 (q := 0) E rfl rfl rfl | exact rn_fieldAddr (q := 0) E rfl rfl rfl) ?_; clear E a; intro a E
      refine list_guard_yes E rfl rfl rfl rfl hb23 rfl (by decide) (by first | exact rn_load E rfl rfl rfl (S.get (by repeat (first | exact pk1 | apply pick_tail))) rfl | exact rn_loadc E rfl rfl rfl (by assumption)) ?_; clear E a; intro a E
      refine list_guard_yes E rfl rfl rfl rfl hb23 rfl (by decide) (by first | exact rn_fieldAddr0 (q := 1) E rfl rfl rfl | exact rn_fieldAddr (q := 1) E rfl rfl rfl) ?_; clear E a; intro a E
      refine list_guard_yes E rfl rfl rfl rfl hb23 rfl (by decide) (by first | exact rn_fieldAddr0 (q := 0) E rfl rfl rfl | exact rn_fieldAddr (q := 0) E rfl rfl rfl) ?_; clear E a; intro a E
      refine list_guard_yes E rfl rfl rfl rfl hb23 rfl (by decide) (by first | exact rn_load E rfl rfl rfl (S.get (by repeat (first | exact pk1 | apply pick_tail))) rfl | exact rn_loadc E rfl rfl rfl (by assumption)) ?_; clear E a; intro a E
      refine list_guard_yes E rfl rfl rfl rfl hb23 rfl (by decide) (by first | exact rn_fieldAddr0 (q := 1) E rfl rfl rfl | exact rn_fieldAddr (q := 1) E rfl rfl rfl) ?_; clear E a; intro a E
      refine list_guard_yes E rfl rfl rfl rfl hb23 rfl (by decide) (by first | exact rn_fieldAddr0 (q := 1) E rfl rfl rfl | exact rn_fieldAddr (q := 1) E rfl rfl rfl) ?_; clear E a; intro a E
      refine list_guard_yes E rfl rfl rfl rfl hb23 rfl (by decide) (by first | exact rn_load E rfl rfl rfl (S.get (by repeat (first | exact pk1 | apply pick_tail))) rfl | exact rn_loadc E rfl rfl rfl (by assumption)) ?_; clear E a; intro a E
      refine list_guard_yes E rfl rfl rfl rfl hb23 rfl (by decide) (rn_add E rfl rfl rfl (by first | exact wa1 (by omega) | exact w_in (by omega) | exact w_inu (by omega) | exact rfl)) ?_; clear E a; intro a E
      refine list_guard_yes E rfl rfl rfl rfl hb23 rfl (by decide) (rn_lss E rfl rfl rfl) ?_; clear E a; intro a E
      refine list_pure E rfl rfl (by decide) (rn_pick_yes' E rfl rfl hb23 rfl) ?_; clear E a; intro a E
      refine list_pure E rfl rfl (by decide) (rn_assign E rfl rfl) ?_; clear E a; intro a E
      refine wpList_nil ?_
      refine then_k hK ?_; clear hK; clear K
      refine wp_ret ?_
      refine ret1 E rfl rfl ?_
      exact ⟨_, rfl, by rw [Value.bool.injEq, Bool.eq_iff_iff]; simp only [bool2, decide_eq_true_eq]; simp only at *; omega, S.tail2.tr⟩
    · have hb23n := hb23; replace hb23n := Nrm.nrm hb23n
      skip
      refine list_guard_no E rfl rfl rfl rfl hb23 rfl (by decide) ?_; clear E a; intro a E
      refine list_guard_no E rfl rfl rfl rfl hb23 rfl (by decide) ?_; clear E a; intro a E
      refine list_guard_no E rfl rfl rfl rfl hb23 rfl (by decide) ?_; clear E a; intro a E
      refine list_guard_no E rfl rfl rfl rfl hb23 rfl (by decide) ?_; clear E a; intro a E
      refine list_guard_no E rfl rfl rfl rfl hb23 rfl (by decide) ?_; clear E a; intro a E
      refine list_guard_no E rfl rfl rfl rfl hb23 rfl (by decide) ?_; clear E a; intro a E
      refine list_guard_no E rfl rfl rfl rfl hb23 rfl (by decide) ?_; clear E a; intro a E
      refine list_guard_no E rfl rfl rfl rfl hb23 rfl (by decide) ?_; clear E a; intro a E
      refine list_guard_no E rfl rfl rfl rfl hb23 rfl (by decide) ?_; clear E a; intro a E
      refine list_guard_no E rfl rfl rfl rfl hb23 rfl (by decide) ?_; clear E a; intro a E
      refine list_guard_no E rfl rfl rfl rfl hb23 rfl (by decide) ?_; clear E a; intro a E
      refine list_pure E rfl rfl (by decide) (rn_pick_no' E rfl rfl hb23 rfl) ?_; clear E a; intro a E
      refine list_pure E rfl rfl (by decide) (rn_assign E rfl rfl) ?_; clear E a; intro a E
      refine wpList_nil ?_
      refine then_k hK ?_; clear hK; clear K
      refine wp_ret ?_
      refine ret1 E rfl rfl ?_
      exact ⟨_, rfl, by rw [Value.bool.injEq, Bool.eq_iff_iff]; simp only [bool2, decide_eq_true_eq, Bool.false_eq_true, false_iff]; simp only at *; omega, S.tail2.tr⟩
  · have hb10n := hb10; replace hb10n := Nrm.nrm hb10n
    skip
    refine list_guard_no E rfl rfl rfl rfl hb10 rfl (by decide) ?_; clear E a; intro a E
    refine list_guard_no E rfl rfl rfl rfl hb10 rfl (by decide) ?_; clear E a; intro a E
    refine list_guard_no E rfl rfl rfl rfl hb10 rfl (by decide) ?_; clear E a; intro a E
    refine list_guard_no E rfl rfl rfl rfl hb10 rfl (by decide) ?_; clear E a; intro a E
    refine list_guard_no E rfl rfl rfl rfl hb10 rfl (by decide) ?_; clear E a; intro a E
    refine list_guard_no E rfl rfl rfl rfl hb10 rfl (by decide) ?_; clear E a; intro a E
    refine list_guard_no E rfl rfl rfl rfl hb10 rfl (by decide) ?_; clear E a; intro a E
    refine list_guard_no E rfl rfl rfl rfl hb10 rfl (by decide) ?_; clear E a; intro a E
    refine list_guard_no E rfl rfl rfl rfl hb10 rfl (by decide) ?_; clear E a; intro a E
    refine list_guard_no E rfl rfl rfl rfl hb10 rfl (by decide) ?_; clear E a; intro a E
    refine list_guard_no E rfl rfl rfl rfl hb10 rfl (by decide) ?_; clear E a; intro a E
    refine list_pure E rfl rfl (by decide) (rn_pick_no' E rfl rfl hb10 rfl) ?_; clear E a; intro a E
    refine list_pure E rfl rfl (by decide) (rn_move E rfl rfl) ?_; clear E a; intro a E
    refine list_guard_no E rfl rfl rfl rfl rfl rfl (by decide) ?_; clear E a; intro a E
    refine list_guard_no E rfl rfl rfl rfl rfl rfl (by decide) ?_; clear E a; intro a E
    refine list_guard_no E rfl rfl rfl rfl rfl rfl (by decide) ?_; clear E a; intro a E
    refine list_guard_no E rfl rfl rfl rfl rfl rfl (by decide) ?_; clear E a; intro a E
    refine list_guard_no E rfl rfl rfl rfl rfl rfl (by decide) ?_; clear E a; intro a E
    refine list_guard_no E rfl rfl rfl rfl rfl rfl (by decide) ?_; clear E a; intro a E
    refine list_guard_no E rfl rfl rfl rfl rfl rfl (by decide) ?_; clear E a; intro a E
    refine list_guard_no E rfl rfl rfl rfl rfl rfl (by decide) ?_; clear E a; intro a E
    refine list_guard_no E rfl rfl rfl rfl rfl rfl (by decide) ?_; clear E a; intro a E
    refine list_guard_no E rfl rfl rfl rfl rfl rfl (by decide) ?_; clear E a; intro a E
    refine list_guard_no E rfl rfl rfl rfl rfl rfl (by decide) ?_; clear E a; intro a E
    refine list_pure E rfl rfl (by decide) (rn_pick_no' E rfl rfl rfl rfl) ?_; clear E a; intro a E
    refine list_pure E rfl rfl (by decide) (rn_assign E rfl rfl) ?_; clear E a; intro a E
    refine wpList_nil ?_
    refine then_k hK ?_; clear hK; clear K
    refine wp_ret ?_
    refine ret1 E rfl rfl ?_
    exact ⟨_, rfl, by rw [Value.bool.injEq, Bool.eq_iff_iff]; simp only [bool2, decide_eq_true_eq, Bool.false_eq_true, false_iff]; simp only at *; omega, S.tail2.tr⟩

theorem same_ret (C D : Chunk) (v u' : Value) (l m' : List Pl) (hC : Rd C 3 v l.length (l.flatMap Pl.lay)) (hD : Rd D 3 u' m'.length (m'.flatMap Pl.lay)) (hl : l.length ≤ 4611686018427387904) {As : List Chunk} (h1 : C ∈ As) (h2 : D ∈ As) (he : l = m') (w0 : World) (H : Hp w0 As) :
    Ret Try.prog 16 #[v, u'] w0 fun u w' => u = .bool true ∧ Trs w0 w' As As := by
  subst he
  obtain ⟨ad, c, rfl⟩ := hC.slice
  obtain ⟨bd, d, rfl⟩ := hD.slice
  have S := St.begin H
  refine enter2 26 Try.func16 rfl rfl (by decide) ?_; intro a E
  refine wp_seq_k ?_; intro K hK
  refine region_list ?_
  refine list_pure E rfl rfl (by decide) (rn_assign E rfl rfl) ?_; clear E a; intro a E
  refine wpList_nil ?_
  refine then_k hK ?_; clear hK; clear K
  refine wp_seq_k ?_; intro K hK
  refine wp_seq_k ?_; intro K hK
  refine region_list ?_
  refine list_pure E rfl rfl (by decide) (rn_move E rfl rfl) ?_; clear E a; intro a E
  refine list_pure E rfl rfl (by decide) (by first | exact rn_len E rfl rfl rfl | exact rn_len_str E rfl rfl rfl | exact rn_len_string E rfl rfl rfl) ?_; clear E a; intro a E
  refine list_pure E rfl rfl (by decide) (rn_move E rfl rfl) ?_; clear E a; intro a E
  refine list_pure E rfl rfl (by decide) (by first | exact rn_len E rfl rfl rfl | exact rn_len_str E rfl rfl rfl | exact rn_len_string E rfl rfl rfl) ?_; clear E a; intro a E
  refine list_pure E rfl rfl (by decide) (by first | exact rn_neq E rfl rfl rfl | exact rn_neq_ptr_nil E rfl rfl rfl rfl | exact rn_neq_bool E rfl rfl rfl rfl | exact rn_neq_string E rfl rfl rfl) ?_; clear E a; intro a E
  refine wpList_nil ?_
  refine then_k hK ?_; clear hK; clear K
  refine if_false' E rfl ((by simp)) ?_
  refine wp_skip ?_
  refine then_k hK ?_; clear hK; clear K
  refine wp_seq_k ?_; intro K hK
  refine wp_seq_k ?_; intro K hK
  refine region_list ?_
  refine list_pure E rfl rfl (by decide) (rn_assign E rfl rfl) ?_; clear E a; intro a E
  refine wpList_nil ?_
  refine then_k hK ?_; clear hK; clear K
  refine wp_block ?_
  refine wp_loop_ghost (fun (m : Nat) (a : Act) (w' : World) => ∃ i : Nat, m = l.length - i ∧ i ≤ l.length ∧ St w0 As w' As ∧ Fr a 26 [(0, .slice ad l.length c), (1, .slice bd l.length d), (5, .int .i64 i)]) (l.length - 0) ?_ ?_
  · exact ⟨0, rfl, by omega, S, E.keep (keep_cons rfl (keep_cons rfl (keep_cons rfl keep_nil)))⟩
  clear E; clear a; (try clear S); rintro m a w ⟨i, rfl, hi, S, E⟩
  refine wp_seq_k ?_; intro K hK
  refine wp_seq_k ?_; intro K hK
  refine region_list ?_
  refine list_pure E rfl rfl (by decide) (rn_move E rfl rfl) ?_; clear E a; intro a E
  refine list_pure E rfl rfl (by decide) (rn_move E rfl rfl) ?_; clear E a; intro a E
  refine list_pure E rfl rfl (by decide) (by first | exact rn_len E rfl rfl rfl | exact rn_len_str E rfl rfl rfl | exact rn_len_string E rfl rfl rfl) ?_; clear E a; intro a E
  refine list_pure E rfl rfl (by decide) (rn_lss E rfl rfl rfl) ?_; clear E a; intro a E
  refine wpList_nil ?_
  refine then_k hK ?_; clear hK; clear K
  refine if_bool E rfl (fun hb => ?_) (fun hb => ?_)
  · replace hb := Nrm.nrm hb
    refine wp_skip ?_
    refine then_k hK ?_; clear hK; clear K
    refine wp_seq_k ?_; intro K hK
    refine wp_block ?_
    refine wp_seq_k ?_; intro K hK
    have hil : i < l.length := by omega
    obtain ⟨cb, co, rfl⟩ := hC.addr (by omega)
    obtain ⟨db, dof, rfl⟩ := hD.addr (by omega)
    refine region_mix0 S (.ofL [(0, 0), (1, 0), (2, 0), (3, 0), (4, 0), (5, 0), (6, 0), (7, 0), (8, 0)]) (by kernel_rfl) (by kernel_rfl) ?_
    clear S; intro w S
    refine mix_pure E rfl rfl rfl (by decide) (fun w h => rn_move E rfl rfl) ?_; clear E a; intro a E
    refine mix_pure E rfl rfl rfl (by decide) (fun w h => rn_move E rfl rfl) ?_; clear E a; intro a E
    refine mix_pure E rfl rfl rfl (by decide) (fun w h => by first | exact rn_indexAddr1 E rfl rfl rfl rfl rfl rfl (by omega) | exact rn_indexAddr E rfl rfl rfl rfl rfl rfl (by omega) | exact rn_indexAddr_array E rfl rfl rfl rfl rfl rfl (by omega)) ?_; clear E a; intro a E
    refine mix_pure E rfl rfl rfl (by decide) (fun w h => rn_load_aggc (vs := [_, _, _]) E rfl rfl rfl rfl (hC.elem (lay := Pl.lay) Pl.lay_len (h.at (by repeat (first | exact mm1 | assumption | apply List.Mem.tail))) hil)) ?_; clear E a; intro a E
    refine mix_pure E rfl rfl rfl (by decide) (fun w h => rn_move E rfl rfl) ?_; clear E a; intro a E
    refine mix_pure E rfl rfl rfl (by decide) (fun w h => rn_move E rfl rfl) ?_; clear E a; intro a E
    refine mix_pure E rfl rfl rfl (by decide) (fun w h => by first | exact rn_indexAddr1 E rfl rfl rfl rfl rfl rfl (by omega) | exact rn_indexAddr E rfl rfl rfl rfl rfl rfl (by omega) | exact rn_indexAddr_array E rfl rfl rfl rfl rfl rfl (by omega)) ?_; clear E a; intro a E
    refine mix_pure E rfl rfl rfl (by decide) (fun w h => rn_load_aggc (vs := [_, _, _]) E rfl rfl rfl rfl (hD.elem (lay := Pl.lay) Pl.lay_len (h.at (by repeat (first | exact mm1 | assumption | apply List.Mem.tail))) hil)) ?_; clear E a; intro a E
    refine mix_pure E rfl rfl rfl (by decide) (fun w h => by first | exact rn_neq_pair E rfl rfl rfl rfl (by kernel_rfl) (by kernel_rfl) rfl rfl rfl | exact rn_neq_cells E rfl rfl rfl rfl (by kernel_rfl) (by kernel_rfl) rfl) ?_; clear E a; intro a E
    refine mix_nil ?_
    refine then_k hK ?_; clear hK; clear K
    refine if_false' E rfl ((by simp)) ?_
    refine wp_skip ?_
    refine in_normal ?_
    refine then_k hK ?_; clear hK; clear K
    refine region_list ?_
    refine list_pure E rfl rfl (by decide) (rn_move E rfl rfl) ?_; clear E a; intro a E
    refine list_pure E rfl rfl (by decide) (rn_add E rfl rfl rfl (by first | exact wa_lit (y := 1) (by omega) | exact w_in (by omega) | exact w_inu (by omega) | exact rfl)) ?_; clear E a; intro a E
    refine list_pure E rfl rfl (by decide) (rn_assign E rfl rfl) ?_; clear E a; intro a E
    refine wpList_nil ?_
    refine then_normal ?_
    exact ⟨_, by omega, i + 1, rfl, by omega, S, E.keep (keep_cons rfl (keep_cons rfl (keep_cons rfl keep_nil)))⟩
  · replace hb := Nrm.nrm hb
    refine wp_exit ?_
    refine then_exit ?_; clear hK; clear K
    refine then_exit ?_
    refine in_exit ?_
    refine then_k hK ?_; clear hK; clear K
    refine wp_seq_k ?_; intro K hK
    refine region_list ?_
    refine list_pure E rfl rfl (by decide) (rn_assign E rfl rfl) ?_; clear E a; intro a E
    refine wpList_nil ?_
    refine then_k hK ?_; clear hK; clear K
    refine wp_ret ?_
    refine ret1 E rfl rfl ?_
    exact ⟨_, rfl, rfl, S.tr⟩

theorem awake_ret (w0 : World) : Ret Try.prog 6 #[] w0 fun u w' => u = .bool true ∧ Trs w0 w' [] [] := by
  have S := St.begin (hp_nil w0)
  refine enter0 91 Try.func6 rfl rfl ?_; intro a E
  refine wp_seq_k ?_; intro K hK
  refine region_list ?_
  refine list_pure E rfl rfl (by decide) (rn_assign E rfl rfl) ?_; clear E a; intro a E
  refine wpList_nil ?_
  refine then_k hK ?_; clear hK; clear K
  refine wp_seq_k ?_; intro K hK
  refine region_list ?_
  refine list_wp rfl (wp_bslice (cells := [_, _]) E S rfl rfl (by decide) rfl rfl rfl rfl rfl (by decide) rfl ?_); clear E S a; intro a w b11 E S
  have S := S.addNil
  refine list_call E rfl rfl (by decide) rfl Try.func7 rfl (by kernel_rfl) rfl (anew_ret [10, 20] [(b11, cel [.int .i64 10, .int .i64 20] 3)] _ (rd2i b11 10 20 3) (by simp) [] [] _ (Rd.nil [] 3) (by simp) _ (S.hp.sel (sel_cons (by repeat (first | exact pk1 | apply pick_tail)) (sel_cons (by repeat (first | exact pk1 | apply pick_tail)) (sel_nil _))))) ?_
  rintro v12 w hN; clear E a; intro a E
  obtain ⟨y, p, A, h, rfl, hA, hT⟩ := hN.resolve_left (fun z => by rw [aw_start] at z; cases z.1); rw [aw_start] at h; cases h; have S := S.call (sel_cons (by repeat (first | exact pk1 | apply pick_tail)) (sel_cons (by repeat (first | exact pk1 | apply pick_tail)) (sel_nil _))) hT
  refine list_pure E rfl rfl (by decide) (rn_move E rfl rfl) ?_; clear E a; intro a E
  refine list_pure E rfl rfl (by decide) (rn_extract E rfl rfl rfl) ?_; clear E a; intro a E
  refine list_pure E rfl rfl (by decide) (rn_extract E rfl rfl rfl) ?_; clear E a; intro a E
  refine list_pure E rfl rfl (by decide) (rn_assign E rfl rfl) ?_; clear E a; intro a E
  refine list_pure E rfl rfl (by decide) (rn_assign E rfl rfl) ?_; clear E a; intro a E
  refine wpList_nil ?_
  refine then_k hK ?_; clear hK; clear K
  refine wp_seq_k ?_; intro K hK
  refine wp_seq_k ?_; intro K hK
  refine region_list ?_
  refine list_pure E rfl rfl (by decide) (rn_move E rfl rfl) ?_; clear E a; intro a E
  refine list_pure E rfl rfl (by decide) (by first | exact rn_eql E rfl rfl rfl | exact rn_eql_ptr_nil E rfl rfl rfl rfl | exact rn_eql_bool E rfl rfl rfl rfl | exact rn_eql_string E rfl rfl rfl) ?_; clear E a; intro a E
  refine list_pure E rfl rfl (by decide) (rn_move E rfl rfl) ?_; clear E a; intro a E
  refine guard_false E (t := 17) rfl (rfl) (fun hb17 => ?_)
  refine list_guard_yes E rfl rfl rfl rfl hb17 rfl (by decide) (rn_move E rfl rfl) ?_; clear E a; intro a E
  refine list_guard_yes E rfl rfl rfl rfl hb17 rfl (by decide) (by first | exact rn_neq E rfl rfl rfl | exact rn_neq_ptr_nil E rfl rfl rfl rfl | exact rn_neq_bool E rfl rfl rfl rfl | exact rn_neq_string E rfl rfl rfl) ?_; clear E a; intro a E
  refine list_pure E rfl rfl (by decide) (rn_pick_no' E rfl rfl hb17 rfl) ?_; clear E a; intro a E
  refine wpList_nil ?_
  refine then_k hK ?_; clear hK; clear K
  refine if_false' E rfl (rfl) ?_
  refine wp_skip ?_
  refine then_k hK ?_; clear hK; clear K
  refine wp_seq_k ?_; intro K hK
  refine region_list ?_
  refine list_pure E rfl rfl (by decide) (rn_move E rfl rfl) ?_; clear E a; intro a E
  refine list_wp rfl (wp_bslice (cells := [_, _]) E S rfl rfl (by decide) rfl rfl rfl rfl rfl (by decide) rfl ?_); clear E S a; intro a w b23 E S
  refine list_call E rfl rfl (by decide) rfl Try.func8 rfl (by kernel_rfl) rfl (take_ret p _ A hA [(b23, cel [.int .i64 3, .int .i64 3] 3)] _ [3, 3] (by simp) (by simp) (rd2i b23 3 3 3) _ (S.hp.sel (sel_cons (by repeat (first | exact pk1 | apply pick_tail)) (sel_cons (by repeat (first | exact pk1 | apply pick_tail)) (sel_nil _))))) ?_
  rintro v24 w ⟨rfl, A1, hA1, hT⟩; clear E a; intro a E
  have S := S.call2 (sel_cons (by repeat (first | exact pk1 | apply pick_tail)) (sel_cons (by repeat (first | exact pk1 | apply pick_tail)) (sel_nil _))) hT; rw [aw_take] at hA1 E; dsimp only at hA1 E
  refine list_pure E rfl rfl (by decide) (rn_move E rfl rfl) ?_; clear E a; intro a E
  refine list_pure E rfl rfl (by decide) (rn_extract E rfl rfl rfl) ?_; clear E a; intro a E
  refine list_pure E rfl rfl (by decide) (rn_extract E rfl rfl rfl) ?_; clear E a; intro a E
  refine list_wp rfl (wp_alloc E S rfl rfl (by decide) rfl rfl rfl ?_); clear E S a; intro a w b3 E S
  refine list_wp rfl (wp_storeN E S rfl rfl rfl rfl (by simp [Value.oneCell']) rfl (by repeat (first | exact pk1 | apply pick_tail)) (by simp) ?_); clear E S a; intro a w E S; simp only [List.take_succ_cons, List.take_zero, List.drop_succ_cons, List.drop_zero, List.cons_append, List.nil_append, List.append_nil, List.length_cons, List.length_nil, Nat.zero_add, Nat.add_zero] at S
  refine list_pure E rfl rfl (by decide) (rn_assign E rfl rfl) ?_; clear E a; intro a E
  refine wpList_nil ?_
  refine then_k hK ?_; clear hK; clear K
  refine wp_seq_k ?_; intro K hK
  refine region_list ?_
  refine list_pure E rfl rfl (by decide) (rn_move E rfl rfl) ?_; clear E a; intro a E
  refine list_pure E rfl rfl (by decide) (rn_load_blk (vs := [_, _, _]) E rfl rfl rfl (S.get (by repeat (first | exact pk1 | apply pick_tail))) rfl rfl) ?_; clear E a; intro a E
  refine list_call E rfl rfl (by decide) rfl Try.func10 rfl (by kernel_rfl) rfl (afree_ret p aw1 ⟨1, ⟨0, 3⟩⟩ 5 (by omega) (by simp [aw1]) A1 hA1 _ (S.hp.sel (sel_cons (by repeat (first | exact pk1 | apply pick_tail)) (sel_nil _)))) ?_
  rintro v29 w ⟨rfl, A2, hA2, hT⟩; clear E a; intro a E
  have S := S.call1 (sel_cons (by repeat (first | exact pk1 | apply pick_tail)) (sel_nil _)) hT; rw [aw_free] at hA2 E; dsimp only at hA2 E
  refine list_pure E rfl rfl (by decide) (rn_assign E rfl rfl) ?_; clear E a; intro a E
  refine wpList_nil ?_
  refine then_k hK ?_; clear hK; clear K
  refine wp_seq_k ?_; intro K hK
  replace E := E.keep (e' := [(0, _), (1, _), (3, _), (4, _), (5, _)]) (keep_cons rfl (keep_cons rfl (keep_cons rfl (keep_cons rfl (keep_cons rfl (keep_nil))))))
  refine region_list ?_
  refine list_pure E rfl rfl (by decide) (rn_move E rfl rfl) ?_; clear E a; intro a E
  refine list_call E rfl rfl (by decide) rfl Try.func11 rfl (by kernel_rfl) rfl (async_ret p aw2 6 (by omega) A2 hA2 _ (S.hp.sel (sel_cons (by repeat (first | exact pk1 | apply pick_tail)) (sel_nil _)))) ?_
  rintro v31 w ⟨y3, A3, hs3, hA3, hT⟩; clear E a; intro a E
  have S := S.call1 (sel_cons (by repeat (first | exact pk1 | apply pick_tail)) (sel_nil _)) hT; obtain rfl := aw_sync6 hs3
  refine wpList_nil ?_
  refine then_k hK ?_; clear hK; clear K
  refine wp_seq_k ?_; intro K hK
  refine region_list ?_
  refine list_pure E rfl rfl (by decide) (rn_move E rfl rfl) ?_; clear E a; intro a E
  refine list_call E rfl rfl (by decide) rfl Try.func12 rfl (by kernel_rfl) rfl (awaiting_ret p aw2 A3 hA3 _ (S.hp.sel (sel_cons (by repeat (first | exact pk1 | apply pick_tail)) (sel_nil _)))) ?_
  rintro v33 w ⟨rfl, hT⟩; clear E a; intro a E
  have S := S.call1 (sel_cons (by repeat (first | exact pk1 | apply pick_tail)) (sel_nil _)) hT
  refine list_pure E rfl rfl (by decide) (rn_assign E rfl rfl) ?_; clear E a; intro a E
  refine wpList_nil ?_
  refine then_k hK ?_; clear hK; clear K
  refine wp_seq_k ?_; intro K hK
  refine region_list ?_
  refine list_pure E rfl rfl (by decide) (rn_move E rfl rfl) ?_; clear E a; intro a E
  refine list_call E rfl rfl (by decide) rfl Try.func11 rfl (by kernel_rfl) rfl (async_ret p aw2 7 (by omega) A3 hA3 _ (S.hp.sel (sel_cons (by repeat (first | exact pk1 | apply pick_tail)) (sel_nil _)))) ?_
  rintro v35 w ⟨y4, A4, hs4, hA4, hT⟩; clear E a; intro a E
  have S := S.call1 (sel_cons (by repeat (first | exact pk1 | apply pick_tail)) (sel_nil _)) hT; obtain rfl := aw_sync7 hs4
  refine wpList_nil ?_
  refine then_k hK ?_; clear hK; clear K
  refine wp_seq_k ?_; intro K hK
  refine region_list ?_
  refine list_pure E rfl rfl (by decide) (rn_move E rfl rfl) ?_; clear E a; intro a E
  refine list_wp rfl (wp_bslice (cells := [_, _]) E S rfl rfl (by decide) rfl rfl rfl rfl rfl (by decide) rfl ?_); clear E S a; intro a w b38 E S
  refine list_call E rfl rfl (by decide) rfl Try.func8 rfl (by kernel_rfl) rfl (take_ret p _ A4 hA4 [(b38, cel [.int .i64 1, .int .i64 0] 3)] _ [1, 0] (by simp) (by simp) (rd2i b38 1 0 3) _ (S.hp.sel (sel_cons (by repeat (first | exact pk1 | apply pick_tail)) (sel_cons (by repeat (first | exact pk1 | apply pick_tail)) (sel_nil _))))) ?_
  rintro v39 w ⟨rfl, A5, hA5, hT⟩; clear E a; intro a E
  have S := S.call2 (sel_cons (by repeat (first | exact pk1 | apply pick_tail)) (sel_cons (by repeat (first | exact pk1 | apply pick_tail)) (sel_nil _))) hT; rw [aw_take2] at hA5 E; dsimp only at hA5 E
  refine list_pure E rfl rfl (by decide) (rn_move E rfl rfl) ?_; clear E a; intro a E
  refine list_pure E rfl rfl (by decide) (rn_extract E rfl rfl rfl) ?_; clear E a; intro a E
  refine list_pure E rfl rfl (by decide) (rn_extract E rfl rfl rfl) ?_; clear E a; intro a E
  refine list_wp rfl (wp_alloc E S rfl rfl (by decide) rfl rfl rfl ?_); clear E S a; intro a w b7 E S
  refine list_wp rfl (wp_storeN E S rfl rfl rfl rfl (by simp [Value.oneCell']) rfl (by repeat (first | exact pk1 | apply pick_tail)) (by simp) ?_); clear E S a; intro a w E S; simp only [List.take_succ_cons, List.take_zero, List.drop_succ_cons, List.drop_zero, List.cons_append, List.nil_append, List.append_nil, List.length_cons, List.length_nil, Nat.zero_add, Nat.add_zero] at S
  refine list_pure E rfl rfl (by decide) (rn_assign E rfl rfl) ?_; clear E a; intro a E
  refine wpList_nil ?_
  refine then_k hK ?_; clear hK; clear K
  refine wp_seq_k ?_; intro K hK
  refine region_list ?_
  refine list_pure E rfl rfl (by decide) (rn_move E rfl rfl) ?_; clear E a; intro a E
  refine list_pure E rfl rfl (by decide) (rn_load_blk (vs := [_, _, _]) E rfl rfl rfl (S.get (by repeat (first | exact pk1 | apply pick_tail))) rfl rfl) ?_; clear E a; intro a E
  refine list_call E rfl rfl (by decide) rfl Try.func15 rfl (by kernel_rfl) rfl (aundo_ret p aw5 ⟨0, ⟨0, 1⟩⟩ A5 hA5 _ (S.hp.sel (sel_cons (by repeat (first | exact pk1 | apply pick_tail)) (sel_nil _)))) ?_
  rintro v44 w ⟨rfl, A6, hA6, hT⟩; clear E a; intro a E
  have S := S.call1 (sel_cons (by repeat (first | exact pk1 | apply pick_tail)) (sel_nil _)) hT; rw [aw_undo] at hA6 E; dsimp only at hA6 E
  refine list_pure E rfl rfl (by decide) (rn_assign E rfl rfl) ?_; clear E a; intro a E
  refine wpList_nil ?_
  refine then_k hK ?_; clear hK; clear K
  refine wp_seq_k ?_; intro K hK
  replace E := E.keep (e' := [(0, _), (1, _), (3, _), (4, _), (5, _), (6, _), (7, _), (8, _), (9, _)]) (keep_cons rfl (keep_cons rfl (keep_cons rfl (keep_cons rfl (keep_cons rfl (keep_cons rfl (keep_cons rfl (keep_cons rfl (keep_cons rfl (keep_nil))))))))))
  refine region_list ?_
  refine list_pure E rfl rfl (by decide) (rn_move E rfl rfl) ?_; clear E a; intro a E
  refine list_pure E rfl rfl (by decide) (by first | exact rn_eql E rfl rfl rfl | exact rn_eql_ptr_nil E rfl rfl rfl rfl | exact rn_eql_bool E rfl rfl rfl rfl | exact rn_eql_string E rfl rfl rfl) ?_; clear E a; intro a E
  refine list_pure E rfl rfl (by decide) (rn_move E rfl rfl) ?_; clear E a; intro a E
  refine guard_true E (t := 47) rfl (rfl) (fun hb47 => ?_)
  refine list_guard_yes E rfl rfl rfl rfl hb47 rfl (by decide) (rn_move E rfl rfl) ?_; clear E a; intro a E
  refine list_guard_yes E rfl rfl rfl rfl hb47 rfl (by decide) (by first | exact rn_eql E rfl rfl rfl | exact rn_eql_ptr_nil E rfl rfl rfl rfl | exact rn_eql_bool E rfl rfl rfl rfl | exact rn_eql_string E rfl rfl rfl) ?_; clear E a; intro a E
  refine list_pure E rfl rfl (by decide) (rn_pick_yes' E rfl rfl hb47 rfl) ?_; clear E a; intro a E
  refine list_pure E rfl rfl (by decide) (rn_move E rfl rfl) ?_; clear E a; intro a E
  refine guard_true E (t := 51) rfl (rfl) (fun hb51 => ?_)
  refine list_guard_yes E rfl rfl rfl rfl hb51 rfl (by decide) (rn_move E rfl rfl) ?_; clear E a; intro a E
  refine list_guard_yes E rfl rfl rfl rfl hb51 rfl (by decide) (by first | exact rn_eql E rfl rfl rfl | exact rn_eql_ptr_nil E rfl rfl rfl rfl | exact rn_eql_bool E rfl rfl rfl rfl | exact rn_eql_string E rfl rfl rfl) ?_; clear E a; intro a E
  refine list_pure E rfl rfl (by decide) (rn_pick_yes' E rfl rfl hb51 rfl) ?_; clear E a; intro a E
  refine list_pure E rfl rfl (by decide) (rn_move E rfl rfl) ?_; clear E a; intro a E
  refine guard_true E (t := 55) rfl (rfl) (fun hb55 => ?_)
  refine list_guard_yes E rfl rfl rfl rfl hb55 rfl (by decide) (rn_move E rfl rfl) ?_; clear E a; intro a E
  refine list_guard_yes E rfl rfl rfl rfl hb55 rfl (by decide) (by first | exact rn_eql E rfl rfl rfl | exact rn_eql_ptr_nil E rfl rfl rfl rfl | exact rn_eql_bool E rfl rfl rfl rfl | exact rn_eql_string E rfl rfl rfl) ?_; clear E a; intro a E
  refine list_pure E rfl rfl (by decide) (rn_pick_yes' E rfl rfl hb55 rfl) ?_; clear E a; intro a E
  refine list_pure E rfl rfl (by decide) (rn_move E rfl rfl) ?_; clear E a; intro a E
  refine guard_true E (t := 59) rfl (rfl) (fun hb59 => ?_)
  refine list_guard_yes E rfl rfl rfl rfl hb59 rfl (by decide) (rn_load_blk (vs := [_, _, _]) E rfl rfl rfl (S.get (by repeat (first | exact pk1 | apply pick_tail))) rfl rfl) ?_; clear E a; intro a E
  refine list_guard_yes E rfl rfl rfl rfl hb59 rfl (by decide) (rn_build (cells := [_, _]) E rfl rfl rfl) ?_; clear E a; intro a E
  refine list_guard_yes E rfl rfl rfl rfl hb59 rfl (by decide) (rn_build (cells := [_, _, _]) E rfl rfl rfl) ?_; clear E a; intro a E
  refine list_guard_yes E rfl rfl rfl rfl hb59 rfl (by decide) (by first | exact rn_eql_pair E rfl rfl rfl rfl (by kernel_rfl) (by kernel_rfl) rfl rfl rfl | exact rn_eql_cells E rfl rfl rfl rfl (by kernel_rfl) (by kernel_rfl) rfl) ?_; clear E a; intro a E
  refine list_pure E rfl rfl (by decide) (rn_pick_yes' E rfl rfl hb59 rfl) ?_; clear E a; intro a E
  refine list_pure E rfl rfl (by decide) (rn_move E rfl rfl) ?_; clear E a; intro a E
  refine guard_true E (t := 65) rfl (rfl) (fun hb65 => ?_)
  refine list_guard_yes E rfl rfl rfl rfl hb65 rfl (by decide) (rn_move E rfl rfl) ?_; clear E a; intro a E
  refine list_guard_yes E rfl rfl rfl rfl hb65 rfl (by decide) (by first | exact rn_eql E rfl rfl rfl | exact rn_eql_ptr_nil E rfl rfl rfl rfl | exact rn_eql_bool E rfl rfl rfl rfl | exact rn_eql_string E rfl rfl rfl) ?_; clear E a; intro a E
  refine list_pure E rfl rfl (by decide) (rn_pick_yes' E rfl rfl hb65 rfl) ?_; clear E a; intro a E
  refine list_pure E rfl rfl (by decide) (rn_move E rfl rfl) ?_; clear E a; intro a E
  refine guard_true E (t := 69) rfl (rfl) (fun hb69 => ?_)
  refine list_guard_yes E rfl rfl rfl rfl hb69 rfl (by decide) (rn_move E rfl rfl) ?_; clear E a; intro a E
  refine list_guard_wp E rfl rfl rfl rfl hb69 ?_; refine wp_call' E rfl (by decide) rfl Try.func12 rfl (by kernel_rfl) rfl (awaiting_ret p _ A6 hA6 _ (S.hp.sel (sel_cons (by repeat (first | exact pk1 | apply pick_tail)) (sel_nil _)))) ?_
  rintro v71 w ⟨rfl, hT⟩; clear E a; intro a E
  have S := S.call1 (sel_cons (by repeat (first | exact pk1 | apply pick_tail)) (sel_nil _)) hT
  refine list_guard_yes E rfl rfl rfl rfl hb69 rfl (by decide) (by first | exact rn_eql E rfl rfl rfl | exact rn_eql_ptr_nil E rfl rfl rfl rfl | exact rn_eql_bool E rfl rfl rfl rfl | exact rn_eql_string E rfl rfl rfl) ?_; clear E a; intro a E
  refine list_pure E rfl rfl (by decide) (rn_pick_yes' E rfl rfl hb69 rfl) ?_; clear E a; intro a E
  refine list_pure E rfl rfl (by decide) (rn_move E rfl rfl) ?_; clear E a; intro a E
  refine guard_true E (t := 74) rfl (rfl) (fun hb74 => ?_)
  refine list_guard_yes E rfl rfl rfl rfl hb74 rfl (by decide) (rn_move E rfl rfl) ?_; clear E a; intro a E
  refine list_guard_wp E rfl rfl rfl rfl hb74 ?_; refine wp_call' E rfl (by decide) rfl Try.func13 rfl (by kernel_rfl) rfl (aroom_ret p _ 1 (by omega) A6 hA6 _ (S.hp.sel (sel_cons (by repeat (first | exact pk1 | apply pick_tail)) (sel_nil _)))) ?_
  rintro v76 w ⟨rfl, hT⟩; clear E a; intro a E
  have S := S.call1 (sel_cons (by repeat (first | exact pk1 | apply pick_tail)) (sel_nil _)) hT
  refine list_guard_yes E rfl rfl rfl rfl hb74 rfl (by decide) (by first | exact rn_eql E rfl rfl rfl | exact rn_eql_ptr_nil E rfl rfl rfl rfl | exact rn_eql_bool E rfl rfl rfl rfl | exact rn_eql_string E rfl rfl rfl) ?_; clear E a; intro a E
  refine list_pure E rfl rfl (by decide) (rn_pick_yes' E rfl rfl hb74 rfl) ?_; clear E a; intro a E
  refine list_pure E rfl rfl (by decide) (rn_move E rfl rfl) ?_; clear E a; intro a E
  refine guard_true E (t := 79) rfl (rfl) (fun hb79 => ?_)
  refine list_guard_yes E rfl rfl rfl rfl hb79 rfl (by decide) (rn_move E rfl rfl) ?_; clear E a; intro a E
  refine list_guard_wp E rfl rfl rfl rfl hb79 ?_; refine wp_call' E rfl (by decide) rfl Try.func14 rfl (by kernel_rfl) rfl (ataken_ret p _ A6 hA6 _ (S.hp.sel (sel_cons (by repeat (first | exact pk1 | apply pick_tail)) (sel_nil _)))) ?_
  rintro v81 w ⟨D, hD, hT⟩; clear E a; intro a E
  obtain ⟨d1, d2, rfl⟩ := hD.slice; have S := S.call2 (sel_cons (by repeat (first | exact pk1 | apply pick_tail)) (sel_nil _)) hT
  refine list_guard_yes E rfl rfl rfl rfl hb79 rfl (by decide) (by first | exact rn_len E rfl rfl rfl | exact rn_len_str E rfl rfl rfl | exact rn_len_string E rfl rfl rfl) ?_; clear E a; intro a E
  refine list_guard_yes E rfl rfl rfl rfl hb79 rfl (by decide) (by first | exact rn_eql E rfl rfl rfl | exact rn_eql_ptr_nil E rfl rfl rfl rfl | exact rn_eql_bool E rfl rfl rfl rfl | exact rn_eql_string E rfl rfl rfl) ?_; clear E a; intro a E
  refine list_pure E rfl rfl (by decide) (rn_pick_yes' E rfl rfl hb79 rfl) ?_; clear E a; intro a E
  refine list_pure E rfl rfl (by decide) (rn_move E rfl rfl) ?_; clear E a; intro a E
  refine guard_true E (t := 85) rfl (rfl) (fun hb85 => ?_)
  refine list_guard_yes E rfl rfl rfl rfl hb85 rfl (by decide) (by first | exact rn_fieldAddr0 (q := 1) E rfl rfl rfl | exact rn_fieldAddr (q := 1) E rfl rfl rfl) ?_; clear E a; intro a E
  refine list_guard_yes E rfl rfl rfl rfl hb85 rfl (by decide) (by first | exact rn_fieldAddr0 (q := 1) E rfl rfl rfl | exact rn_fieldAddr (q := 1) E rfl rfl rfl) ?_; clear E a; intro a E
  refine list_guard_yes E rfl rfl rfl rfl hb85 rfl (by decide) (by first | exact rn_load E rfl rfl rfl (S.get (by repeat (first | exact pk1 | apply pick_tail))) rfl | exact rn_loadc E rfl rfl rfl (by assumption)) ?_; clear E a; intro a E
  refine list_guard_yes E rfl rfl rfl rfl hb85 rfl (by decide) (by first | exact rn_eql E rfl rfl rfl | exact rn_eql_ptr_nil E rfl rfl rfl rfl | exact rn_eql_bool E rfl rfl rfl rfl | exact rn_eql_string E rfl rfl rfl) ?_; clear E a; intro a E
  refine list_pure E rfl rfl (by decide) (rn_pick_yes' E rfl rfl hb85 rfl) ?_; clear E a; intro a E
  refine list_pure E rfl rfl (by decide) (rn_assign E rfl rfl) ?_; clear E a; intro a E
  refine wpList_nil ?_
  refine then_k hK ?_; clear hK; clear K
  refine wp_ret ?_
  refine ret1 E rfl rfl ?_
  exact ⟨_, rfl, rfl, (S.only (Bs := []) (sel_nil _)).tr⟩
end Go.Proofs.Ytenhebjhoicpjaa
