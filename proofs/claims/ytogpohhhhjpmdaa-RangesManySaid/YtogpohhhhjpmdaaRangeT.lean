/-
  RangesMany: a set of very many ranges has at most as many as it may, and says so.
-/
import Derived.Test.YtogpohhhhjpmdaaRangeL
namespace Go.Sl
def evm (f : Int) : List Sp := evn f 4095 ++ [⟨f + 8190, 2⟩]
theorem evm_of (f : Int) (h0 : 0 ≤ f) (h1 : f ≤ 1000) : addE (evn f 4096) ⟨f + 8191, 1⟩ = 0 ∧ addS (evn f 4096) ⟨f + 8191, 1⟩ = evm f := by
  have hx : (⟨f + 8191, 1⟩ : Sp).may = true := by rw [Sp.may_iff]; simp only; omega
  have hg := evn_gd (n := 4096) h0 h1 (by omega)
  have hd : ∀ y ∈ evn f 4096, y.fin ≤ (⟨f + 8191, 1⟩ : Sp).at_ ∨ (⟨f + 8191, 1⟩ : Sp).fin ≤ y.at_ := fun y hy => by
    obtain ⟨j, hj, rfl⟩ := evn_mem hy
    simp only [Sp.fin]; omega
  have e : withL (evn f 4096) ⟨f + 8191, 1⟩ false = evm f := by
    rw [show (4096 : Nat) = 4095 + 1 from rfl, evn_succ, withL_past hx (fun y hy => ⟨(evn_gd h0 h1 (by omega)).may y hy, by
      obtain ⟨j, hj, rfl⟩ := evn_mem hy
      simp only [Sp.fin]; omega⟩), withL, if_pos (by simp only [Sp.fin]; omega)]
    simp only [withL, evm]; rfl
  have c := add_fits hg hx hd (by rw [e]; simp [evm, evn_length])
  exact ⟨c, by rw [addS_ok c, e]⟩
theorem evm_length (f : Int) : (evm f).length = 4096 := by simp [evm, evn_length]
theorem evm_get (f : Int) {k : Nat} (hk : k < (evm f).length) : ((evm f)[k]).at_ = f + 2 * (k : Int) ∧ ((evm f)[k]).many = if k = 4095 then 2 else 1 := by
  rw [evm_length] at hk
  simp only [evm]
  by_cases c : k < 4095
  · rw [List.getElem_append_left (by rw [evn_length]; exact c)]
    simp [evn]; omega
  · obtain rfl : k = 4095 := by omega
    rw [List.getElem_append_right (by rw [evn_length]; omega)]
    simp [evn_length]
/-- One between two: one range fewer. -/
theorem evm_between (f : Int) (h0 : 0 ≤ f) (h1 : f ≤ 1000) (hg : Gd (evm f)) (k : Nat) (hk : k ≤ 4094) :
    ∃ m : List Sp, addE (evm f) ⟨f + 2 * (k : Int) + 1, 1⟩ = 0 ∧ addS (evm f) ⟨f + 2 * (k : Int) + 1, 1⟩ = m ∧ m.length = 4095 ∧ ∀ y ∈ m, y.fin ≤ f + 8192 := by
  have hx : (⟨f + 2 * (k : Int) + 1, 1⟩ : Sp).may = true := by rw [Sp.may_iff]; simp only; omega
  have hl := evm_length f
  have hd : ∀ y ∈ evm f, y.fin ≤ (⟨f + 2 * (k : Int) + 1, 1⟩ : Sp).at_ ∨ (⟨f + 2 * (k : Int) + 1, 1⟩ : Sp).fin ≤ y.at_ := fun y hy => by
    obtain ⟨j, hj, rfl⟩ := List.getElem_of_mem hy
    obtain ⟨e1, e2⟩ := evm_get f hj
    simp only [Sp.fin, e1, e2]
    split <;> omega
  have hk1 : k < (evm f).length := by omega
  have hk2 : k + 1 < (evm f).length := by omega
  have es : evm f = (evm f).take k ++ (evm f)[k] :: (evm f)[k + 1] :: (evm f).drop (k + 2) := by
    rw [← List.drop_eq_getElem_cons hk2, ← List.drop_eq_getElem_cons hk1, List.take_append_drop]
  obtain ⟨a1, a2⟩ := evm_get f hk1
  obtain ⟨b1, b2⟩ := evm_get f hk2
  have e : withL (evm f) ⟨f + 2 * (k : Int) + 1, 1⟩ false = (evm f).take k ++ ⟨(evm f)[k].at_, (evm f)[k].many + 1 + (evm f)[k + 1].many⟩ :: (evm f).drop (k + 2) := by
    have hg' := hg
    rw [es] at hg'
    have := withL_between hg' hx (by simp only [Sp.fin, a1, a2]; rw [if_neg (by omega)]) (by simp only [Sp.fin, b1]; omega)
    rw [← es] at this
    exact this
  have hlen : (withL (evm f) ⟨f + 2 * (k : Int) + 1, 1⟩ false).length = 4095 := by
    rw [e]; simp only [List.length_append, List.length_take, List.length_cons, List.length_drop]; omega
  have c := add_fits hg hx hd (by omega)
  refine ⟨_, c, rfl, by rw [addS_ok c, hlen], fun y hy => ?_⟩
  rw [addS_ok c] at hy
  have I := withL_spec hg hx hd
  have hm := Sp.may_iff.1 (I.gd.may y hy)
  have hin : mem (withL (evm f) ⟨f + 2 * (k : Int) + 1, 1⟩ false) (y.fin - 1) := ⟨y, hy, by simp only [Sp.has, Sp.fin]; omega⟩
  rcases (I.mem _).1 hin with ⟨z, hz, hzn⟩ | hxn
  · obtain ⟨j, hj, rfl⟩ := List.getElem_of_mem hz
    obtain ⟨e1, e2⟩ := evm_get f hj
    simp only [Sp.has, Sp.fin, e1, e2] at *
    split at hzn <;> omega
  · simp only [Sp.has, Sp.fin] at *; omega
/-- Five far behind, and then a gap in them. -/
theorem far_five (f : Int) (h0 : 0 ≤ f) (h1 : f ≤ 1000) {m : List Sp} (hg : Gd m) (hl : m.length = 4095) (hm : ∀ y ∈ m, y.fin ≤ f + 8192) :
    addE m ⟨f + 12288, 5⟩ = 0 ∧ remE (addS m ⟨f + 12288, 5⟩) ⟨f + 12290, 1⟩ = 2 := by
  have hx : (⟨f + 12288, 5⟩ : Sp).may = true := by rw [Sp.may_iff]; simp only; omega
  have hx2 : (⟨f + 12290, 1⟩ : Sp).may = true := by rw [Sp.may_iff]; simp only; omega
  have hd : ∀ y ∈ m, y.fin ≤ (⟨f + 12288, 5⟩ : Sp).at_ ∨ (⟨f + 12288, 5⟩ : Sp).fin ≤ y.at_ := fun y hy => by have := hm y hy; simp only; omega
  have e : withL m ⟨f + 12288, 5⟩ false = m ++ [⟨f + 12288, 5⟩] := by
    have := withL_past (p := m) (l := []) hx (fun y hy => ⟨hg.may y hy, by have := hm y hy; simp only; omega⟩)
    rw [List.append_nil] at this
    rw [this]; rfl
  have c := add_fits hg hx hd (by rw [e]; simp [hl])
  refine ⟨c, ?_⟩
  have I := withL_spec hg hx hd
  rw [addS_ok c]
  have hh := has_of I.gd hx2 ⟨⟨f + 12288, 5⟩, by rw [e]; simp, by simp only; omega, by simp only [Sp.fin]; omega⟩
  unfold remE
  rw [if_pos hh, if_pos]
  rw [e, remL_append, remL_far hg hx2 (fun y hy => by have := hm y hy; simp only; omega)]
  have : (remL [⟨f + 12288, 5⟩] ⟨f + 12290, 1⟩).length = 2 := by
    simp only [remL, List.flatMap_cons, List.flatMap_nil, List.append_nil]
    rw [pieces_in hx2 (by simp only; omega) (by simp only [Sp.fin]; omega), if_pos (by simp only; omega), if_pos (by simp only [Sp.fin]; omega)]
    rfl
  rw [List.length_append, this, hl]; omega
theorem evn_many (f : Int) (n : Nat) : manyL (evn f n) = n := by
  induction n with
  | zero => rfl
  | succ n ih => rw [evn_succ, manyL_append, ih]; simp [manyL]
theorem story1 (f : Int) (h0 : 0 ≤ f) (h1 : f ≤ 1000) : ∃ L M : List Sp, evn f 4096 = L ∧ Okl L ∧ addE L ⟨f + 8192, 1⟩ = 2 ∧ addE L ⟨f + 8191, 1⟩ = 0 ∧ addS L ⟨f + 8191, 1⟩ = M ∧ Okl M ∧ manyL M = 4097 ∧
    ∀ k : Nat, k ≤ 4094 → ∃ m : List Sp, addE M ⟨f + 2 * (k : Int) + 1, 1⟩ = 0 ∧ addS M ⟨f + 2 * (k : Int) + 1, 1⟩ = m ∧ m.length = 4095 ∧ Okl m ∧ addE m ⟨f + 12288, 5⟩ = 0 ∧ Okl (addS m ⟨f + 12288, 5⟩) ∧ remE (addS m ⟨f + 12288, 5⟩) ⟨f + 12290, 1⟩ = 2 ∧ manyL (addS m ⟨f + 12288, 5⟩) = 4103 := by
  have hG := (evn_gd (n := 4096) h0 h1 (by omega)).okl (by rw [evn_length]; omega)
  have hae := evn_addE (n := 4096) h0 h1 (by omega)
  rw [if_pos rfl] at hae
  obtain ⟨e1, e2⟩ := evm_of f h0 h1
  have hG2 := addS_gd hG ⟨f + 8191, 1⟩
  have hm2 := addS_many hG.gd e1
  rw [e2] at hG2 hm2
  rw [evn_many] at hm2
  refine ⟨_, _, rfl, hG, hae, e1, e2, hG2, hm2, fun k hk => ?_⟩
  obtain ⟨m, b1, b2, b3, b4⟩ := evm_between f h0 h1 hG2.gd k hk
  have hG3 := addS_gd hG2 ⟨f + 2 * (k : Int) + 1, 1⟩
  have hm3 := addS_many hG2.gd b1
  rw [b2] at hG3 hm3
  obtain ⟨c1, c2⟩ := far_five f h0 h1 hG3.gd b3 b4
  have hm4 := addS_many hG3.gd c1
  exact ⟨m, b1, b2, b3, hG3, c1, addS_gd hG3 _, c2, by rw [hm4, hm3, hm2]; rfl⟩
theorem remS_no {l : List Sp} {x : Sp} (h : remE l x ≠ 0) : remS l x = l := by simp [remS, h]
end Go.Sl
namespace Go.Proofs.Ytogpohhhhjpmdaa
open Go.Sl
set_option maxRecDepth 10000

theorem many_walk (O : Chunk) (f : Int) (hf : -9223372036854775808 ≤ f ∧ f ≤ 9223372036854775807) (b : Int) (hb9 : -9223372036854775808 ≤ b ∧ b ≤ 9223372036854775807) (w0 : World) (H : Hp w0 [O]) :
    Ret Try.prog 4 #[.int .i64 f, .int .i64 b] w0 fun u w' => u = .bool true ∧ Trs w0 w' [O] [O] := by
  have S := St.begin H
  refine enter2 112 Try.func4 rfl rfl (by decide) ?_; intro a E
  refine wp_seq_k ?_; intro K hK
  refine region_list ?_
  refine list_pure E rfl rfl (by decide) (rn_assign E rfl rfl) ?_; clear E a; intro a E
  refine wpList_nil ?_
  refine then_k hK ?_; clear hK; clear K
  refine wp_seq_k ?_; intro K hK
  refine region_list ?_
  refine list_call E rfl rfl (by decide) rfl Try.func6 rfl (by kernel_rfl) rfl (awake_ret _) ?_
  rintro v16 w ⟨rfl, hT⟩; clear E a; intro a E
  have S := S.quiet hT
  refine list_pure E rfl rfl (by decide) (rn_assign E rfl rfl) ?_; clear E a; intro a E
  refine wpList_nil ?_
  refine then_k hK ?_; clear hK; clear K
  refine wp_seq_k ?_; intro K hK
  refine region_list ?_
  refine list_call E rfl rfl (by decide) rfl Try.func7 rfl (by kernel_rfl) rfl (new_ret _) ?_
  rintro v17 w ⟨p, A, rfl, hA, hT⟩; clear E a; intro a E
  have S := S.fresh hT
  refine list_pure E rfl rfl (by decide) (rn_assign E rfl rfl) ?_; clear E a; intro a E
  refine wpList_nil ?_
  refine then_k hK ?_; clear hK; clear K
  refine wp_seq_k ?_; intro K hK
  refine wp_seq_k ?_; intro K hK
  refine region_list ?_
  refine list_pure E rfl rfl (by decide) (rn_move E rfl rfl) ?_; clear E a; intro a E
  refine list_pure E rfl rfl (by decide) (by first | exact rn_eql E rfl rfl rfl | exact rn_eql_ptr_nil E rfl rfl rfl rfl | exact rn_eql_bool E rfl rfl rfl rfl | exact rn_eql_string E rfl rfl rfl) ?_; clear E a; intro a E
  refine list_pure E rfl rfl (by decide) (rn_move E rfl rfl) ?_; clear E a; intro a E
  refine guard_false E (t := 20) rfl (rfl) (fun hb20 => ?_)
  refine list_guard_yes E rfl rfl rfl rfl hb20 rfl (by decide) (rn_move E rfl rfl) ?_; clear E a; intro a E
  refine list_guard_yes E rfl rfl rfl rfl hb20 rfl (by decide) (rn_not E rfl rfl) ?_; clear E a; intro a E
  refine list_pure E rfl rfl (by decide) (rn_pick_no' E rfl rfl hb20 rfl) ?_; clear E a; intro a E
  refine list_pure E rfl rfl (by decide) (rn_move E rfl rfl) ?_; clear E a; intro a E
  refine guard_false E (t := 24) rfl (rfl) (fun hb24 => ?_)
  refine list_guard_yes E rfl rfl rfl rfl hb24 rfl (by decide) (rn_move E rfl rfl) ?_; clear E a; intro a E
  refine list_guard_yes E rfl rfl rfl rfl hb24 rfl (by decide) (rn_lss E rfl rfl rfl) ?_; clear E a; intro a E
  refine list_pure E rfl rfl (by decide) (rn_pick_no' E rfl rfl hb24 rfl) ?_; clear E a; intro a E
  refine list_pure E rfl rfl (by decide) (rn_move E rfl rfl) ?_; clear E a; intro a E
  refine guard_split E (t := 28) rfl (fun hb28 => ?_) (fun hb28 => ?_)
  · have hb28n := hb28; first | replace hb28n := n1 hb28n | replace hb28n := n2 hb28n | replace hb28n := n3 hb28n | replace hb28n := n4 hb28n | replace hb28n := n5 hb28n | replace hb28n := n6 hb28n | skip
    refine list_guard_no E rfl rfl rfl rfl hb28 rfl (by decide) ?_; clear E a; intro a E
    refine list_guard_no E rfl rfl rfl rfl hb28 rfl (by decide) ?_; clear E a; intro a E
    refine list_pure E rfl rfl (by decide) (rn_pick_yes' E rfl rfl hb28 rfl) ?_; clear E a; intro a E
    refine wpList_nil ?_
    refine then_k hK ?_; clear hK; clear K
    refine if_true' E rfl rfl ?_
    refine wp_seq_k ?_; intro K hK
    refine region_list ?_
    refine list_pure E rfl rfl (by decide) (rn_move E rfl rfl) ?_; clear E a; intro a E
    refine list_pure E rfl rfl (by decide) (rn_assign E rfl rfl) ?_; clear E a; intro a E
    refine wpList_nil ?_
    refine then_k hK ?_; clear hK; clear K
    refine wp_ret ?_
    refine then_ret ?_; clear hK; clear K
    refine ret1 E rfl rfl ?_
    exact ⟨_, rfl, rfl, (S.only (Bs := [O]) (sel_cons (by first | exact pk1 | exact pk2 | exact pk3 | exact pk4 | exact pk5 | exact pk6 | exact pk7 | exact pk8 | exact pk9) (sel_nil _))).tr⟩
  · have hb28n := hb28; first | replace hb28n := n1 hb28n | replace hb28n := n2 hb28n | replace hb28n := n3 hb28n | replace hb28n := n4 hb28n | replace hb28n := n5 hb28n | replace hb28n := n6 hb28n | skip
    refine list_guard_yes E rfl rfl rfl rfl hb28 rfl (by decide) (rn_move E rfl rfl) ?_; clear E a; intro a E
    refine list_guard_yes E rfl rfl rfl rfl hb28 rfl (by decide) (rn_gtr E rfl rfl rfl) ?_; clear E a; intro a E
    refine list_pure E rfl rfl (by decide) (rn_pick_no' E rfl rfl hb28 rfl) ?_; clear E a; intro a E
    refine wpList_nil ?_
    refine then_k hK ?_; clear hK; clear K
    refine if_bool E rfl (fun hb => ?_) (fun hb => ?_)
    · first | replace hb := n1 hb | replace hb := n2 hb | replace hb := n3 hb | replace hb := n4 hb | replace hb := n5 hb | replace hb := n6 hb | skip
      refine wp_seq_k ?_; intro K hK
      refine region_list ?_
      refine list_pure E rfl rfl (by decide) (rn_move E rfl rfl) ?_; clear E a; intro a E
      refine list_pure E rfl rfl (by decide) (rn_assign E rfl rfl) ?_; clear E a; intro a E
      refine wpList_nil ?_
      refine then_k hK ?_; clear hK; clear K
      refine wp_ret ?_
      refine then_ret ?_; clear hK; clear K
      refine ret1 E rfl rfl ?_
      exact ⟨_, rfl, rfl, (S.only (Bs := [O]) (sel_cons (by first | exact pk1 | exact pk2 | exact pk3 | exact pk4 | exact pk5 | exact pk6 | exact pk7 | exact pk8 | exact pk9) (sel_nil _))).tr⟩
    · first | replace hb := n1 hb | replace hb := n2 hb | replace hb := n3 hb | replace hb := n4 hb | replace hb := n5 hb | replace hb := n6 hb | skip
      refine wp_skip ?_
      refine then_k hK ?_; clear hK; clear K
      refine wp_seq_k ?_; intro K hK
      refine wp_seq_k ?_; intro K hK
      have h0 : 0 ≤ f := by omega
      have h1 : f ≤ 1000 := by omega
      refine region_list ?_
      refine list_pure E rfl rfl (by decide) (rn_assign E rfl rfl) ?_; clear E a; intro a E
      refine wpList_nil ?_
      refine then_k hK ?_; clear hK; clear K
      refine wp_block ?_
      refine wp_loop_ghost (fun (m : Nat) (a : Act) (w' : World) => ∃ (i : Nat) (A : Chunk), m = 4096 - i ∧ i ≤ 4096 ∧ SetC p (evn f i) (manyL (evn f i)) A ∧ St w0 [O] w' [A, O] ∧ Fr a 112 [(0, .int .i64 f), (1, .int .i64 b), (5, .bool true), (6, ptr p), (7, .int .i64 i)]) (4096 - 0) ?_ ?_
      · exact ⟨0, A, rfl, by omega, hA, S, E.keep (keep_cons rfl (keep_cons rfl (keep_cons rfl (keep_cons rfl (keep_cons rfl keep_nil)))))⟩
      clear E; clear a; rintro m a w ⟨i, A, rfl, hi, hA, S, E⟩
      refine wp_seq_k ?_; intro K hK
      refine wp_seq_k ?_; intro K hK
      refine region_list ?_
      refine list_pure E rfl rfl (by decide) (rn_move E rfl rfl) ?_; clear E a; intro a E
      refine list_pure E rfl rfl (by decide) (rn_lss E rfl rfl rfl) ?_; clear E a; intro a E
      refine wpList_nil ?_
      refine then_k hK ?_; clear hK; clear K
      refine if_bool E rfl (fun hb => ?_) (fun hb => ?_)
      · first | replace hb := n1 hb | replace hb := n2 hb | replace hb := n3 hb | replace hb := n4 hb | replace hb := n5 hb | replace hb := n6 hb | skip
        refine wp_skip ?_
        refine then_k hK ?_; clear hK; clear K
        refine wp_seq_k ?_; intro K hK
        refine wp_block ?_
        refine wp_seq_k ?_; intro K hK
        have hi4 : i < 4096 := by omega
        have hae := evn_addE h0 h1 (show i ≤ 4096 by omega)
        rw [if_neg (by omega)] at hae
        refine region_list ?_
        refine list_pure E rfl rfl (by decide) (rn_move E rfl rfl) ?_; clear E a; intro a E
        refine list_pure E rfl rfl (by decide) (rn_move E rfl rfl) ?_; clear E a; intro a E
        refine list_pure E rfl rfl (by decide) (rn_move E rfl rfl) ?_; clear E a; intro a E
        refine list_pure E rfl rfl (by decide) (rn_mul E rfl rfl rfl (by first | exact wm_lit (x := 2) (by omega) | exact wm_litu (x := 2) (by omega) | exact w_in (by omega) | exact rfl)) ?_; clear E a; intro a E
        refine list_pure E rfl rfl (by decide) (rn_add E rfl rfl rfl (by first | exact wa1 (by omega) | exact w_in (by omega) | exact w_inu (by omega) | exact rfl)) ?_; clear E a; intro a E
        rw [show f + ((2 * i : Nat) : Int) = f + 2 * (i : Int) by omega] at E
        refine list_pure E rfl rfl (by decide) (rn_build (cells := [_, _]) E rfl rfl rfl) ?_; clear E a; intro a E
        refine list_call E rfl rfl (by decide) rfl Try.func8 rfl (by kernel_rfl) rfl (add_ret p (evn f i) ⟨f + 2 * (i : Int), 1⟩ A _ hA ((evn_gd h0 h1 (by omega)).okl (by rw [evn_length]; omega)) (S.hp.sel (sel_cons (by first | exact pk1 | exact pk2 | exact pk3 | exact pk4 | exact pk5 | exact pk6 | exact pk7 | exact pk8 | exact pk9) (sel_nil _)))) ?_
        rintro v43 w ⟨rfl, A1, hA1, hT⟩; clear E a; intro a E
        have S := S.call1 (sel_cons (by first | exact pk1 | exact pk2 | exact pk3 | exact pk4 | exact pk5 | exact pk6 | exact pk7 | exact pk8 | exact pk9) (sel_nil _)) hT; rw [hae] at E; rw [addS_ok hae, evn_add h0 h1 (by omega)] at hA1
        refine list_pure E rfl rfl (by decide) (rn_assign E rfl rfl) ?_; clear E a; intro a E
        refine wpList_nil ?_
        refine then_k hK ?_; clear hK; clear K
        refine wp_seq_k ?_; intro K hK
        refine region_list ?_
        refine list_pure E rfl rfl (by decide) (rn_move E rfl rfl) ?_; clear E a; intro a E
        refine list_pure E rfl rfl (by decide) (by first | exact rn_neq E rfl rfl rfl | exact rn_neq_ptr_nil E rfl rfl rfl rfl | exact rn_neq_bool E rfl rfl rfl rfl | exact rn_neq_string E rfl rfl rfl) ?_; clear E a; intro a E
        refine wpList_nil ?_
        refine then_k hK ?_; clear hK; clear K
        refine if_false' E rfl (rfl) ?_
        refine wp_skip ?_
        refine in_normal ?_
        refine then_k hK ?_; clear hK; clear K
        refine region_list ?_
        refine list_pure E rfl rfl (by decide) (rn_move E rfl rfl) ?_; clear E a; intro a E
        refine list_pure E rfl rfl (by decide) (rn_add E rfl rfl rfl (by first | exact wa_lit (y := 1) (by omega) | exact w_in (by omega) | exact w_inu (by omega) | exact rfl)) ?_; clear E a; intro a E
        refine list_pure E rfl rfl (by decide) (rn_assign E rfl rfl) ?_; clear E a; intro a E
        refine wpList_nil ?_
        refine then_normal ?_
        exact ⟨_, by omega, i + 1, A1, rfl, by omega, hA1, S, E.keep (keep_cons rfl (keep_cons rfl (keep_cons rfl (keep_cons rfl (keep_cons rfl keep_nil)))))⟩
      · first | replace hb := n1 hb | replace hb := n2 hb | replace hb := n3 hb | replace hb := n4 hb | replace hb := n5 hb | replace hb := n6 hb | skip
        refine wp_exit ?_
        refine then_exit ?_; clear hK; clear K
        refine then_exit ?_
        refine in_exit ?_
        refine then_k hK ?_; clear hK; clear K
        refine wp_seq_k ?_; intro K hK
        obtain rfl : i = 4096 := by omega
        obtain ⟨L, M, hL, hG, hae, hge, hM, hGM, hMM, hk⟩ := story1 f h0 h1
        rw [hL] at hA
        clear hL
        refine region_list ?_
        refine list_pure E rfl rfl (by decide) (rn_move E rfl rfl) ?_; clear E a; intro a E
        refine list_pure E rfl rfl (by decide) (rn_move E rfl rfl) ?_; clear E a; intro a E
        refine list_pure E rfl rfl (by decide) (rn_add E rfl rfl rfl (w_in (by omega))) ?_; clear E a; intro a E
        refine list_pure E rfl rfl (by decide) (rn_build (cells := [_, _]) E rfl rfl rfl) ?_; clear E a; intro a E
        refine list_call E rfl rfl (by decide) rfl Try.func8 rfl (by kernel_rfl) rfl (add_ret p L ⟨f + 8192, 1⟩ A _ hA hG (S.hp.sel (sel_cons (by first | exact pk1 | exact pk2 | exact pk3 | exact pk4 | exact pk5 | exact pk6 | exact pk7 | exact pk8 | exact pk9) (sel_nil _)))) ?_
        rintro v50 w ⟨rfl, A1, hA1, hT⟩; clear E a; intro a E
        have S := S.call1 (sel_cons (by first | exact pk1 | exact pk2 | exact pk3 | exact pk4 | exact pk5 | exact pk6 | exact pk7 | exact pk8 | exact pk9) (sel_nil _)) hT; rw [hae] at E; rw [addS_no (by omega)] at hA1
        refine list_pure E rfl rfl (by decide) (rn_assign E rfl rfl) ?_; clear E a; intro a E
        refine wpList_nil ?_
        refine then_k hK ?_; clear hK; clear K
        refine wp_seq_k ?_; intro K hK
        refine region_list ?_
        refine list_pure E rfl rfl (by decide) (rn_move E rfl rfl) ?_; clear E a; intro a E
        refine list_pure E rfl rfl (by decide) (rn_move E rfl rfl) ?_; clear E a; intro a E
        refine list_pure E rfl rfl (by decide) (rn_add E rfl rfl rfl (w_in (by omega))) ?_; clear E a; intro a E
        refine list_pure E rfl rfl (by decide) (rn_add E rfl rfl rfl (w_in (by omega))) ?_; clear E a; intro a E
        rw [show f + 8190 + 1 = f + 8191 by omega] at E
        refine list_pure E rfl rfl (by decide) (rn_build (cells := [_, _]) E rfl rfl rfl) ?_; clear E a; intro a E
        refine list_call E rfl rfl (by decide) rfl Try.func8 rfl (by kernel_rfl) rfl (add_ret p L ⟨f + 8191, 1⟩ A1 _ hA1 hG (S.hp.sel (sel_cons (by first | exact pk1 | exact pk2 | exact pk3 | exact pk4 | exact pk5 | exact pk6 | exact pk7 | exact pk8 | exact pk9) (sel_nil _)))) ?_
        rintro v56 w ⟨rfl, A2, hA2, hT⟩; clear E a; intro a E
        have S := S.call1 (sel_cons (by first | exact pk1 | exact pk2 | exact pk3 | exact pk4 | exact pk5 | exact pk6 | exact pk7 | exact pk8 | exact pk9) (sel_nil _)) hT; rw [hge] at E; rw [hM] at hA2
        refine list_pure E rfl rfl (by decide) (rn_assign E rfl rfl) ?_; clear E a; intro a E
        refine wpList_nil ?_
        refine then_k hK ?_; clear hK; clear K
        refine wp_seq_k ?_; intro K hK
        refine region_list ?_
        refine list_pure E rfl rfl (by decide) (rn_move E rfl rfl) ?_; clear E a; intro a E
        refine list_pure E rfl rfl (by decide) (rn_rem E rfl rfl rfl (by first | decide | omega) rfl) ?_; clear E a; intro a E
        refine list_pure E rfl rfl (by decide) (rn_assign E rfl rfl) ?_; clear E a; intro a E
        refine wpList_nil ?_
        refine then_k hK ?_; clear hK; clear K
        refine wp_seq_k ?_; intro K hK
        refine wp_seq_k ?_; intro K hK
        have hmd : -4095 < b.tmod 4095 ∧ b.tmod 4095 < 4095 := ⟨Int.lt_tmod_of_pos b (by decide), Int.tmod_lt_of_pos b (by decide)⟩
        refine region_list ?_
        refine list_pure E rfl rfl (by decide) (rn_move E rfl rfl) ?_; clear E a; intro a E
        refine list_pure E rfl rfl (by decide) (rn_lss E rfl rfl rfl) ?_; clear E a; intro a E
        refine wpList_nil ?_
        refine then_k hK ?_; clear hK; clear K
        refine if_bool E rfl (fun hb => ?_) (fun hb => ?_)
        · first | replace hb := n1 hb | replace hb := n2 hb | replace hb := n3 hb | replace hb := n4 hb | replace hb := n5 hb | replace hb := n6 hb | skip
          replace E := E.keep (e' := [(0, _), (6, _), (9, _), (10, _), (11, _)]) (keep_cons rfl (keep_cons rfl (keep_cons rfl (keep_cons rfl (keep_cons rfl (keep_nil))))))
          refine region_list ?_
          refine list_pure E rfl rfl (by decide) (rn_move E rfl rfl) ?_; clear E a; intro a E
          refine list_pure E rfl rfl (by decide) (rn_add E rfl rfl rfl (w_in (by omega))) ?_; clear E a; intro a E
          refine list_pure E rfl rfl (by decide) (rn_assign E rfl rfl) ?_; clear E a; intro a E
          refine wpList_nil ?_
          refine then_k hK ?_; clear hK; clear K
          refine wp_seq_k ?_; intro K hK
          obtain ⟨k, hke, hk4⟩ : ∃ k : Nat, b.tmod 4095 + 4095 = (k : Int) ∧ k ≤ 4094 := ⟨(b.tmod 4095 + 4095).toNat, by omega, by omega⟩
          rw [hke] at E
          obtain ⟨q, hq1, hq2, hq3, hGq, hq4, hGr, hq5, hq6⟩ := hk k hk4
          refine region_list ?_
          refine list_pure E rfl rfl (by decide) (rn_move E rfl rfl) ?_; clear E a; intro a E
          refine list_pure E rfl rfl (by decide) (rn_move E rfl rfl) ?_; clear E a; intro a E
          refine list_pure E rfl rfl (by decide) (rn_move E rfl rfl) ?_; clear E a; intro a E
          refine list_pure E rfl rfl (by decide) (rn_mul E rfl rfl rfl (by first | exact wm_lit (x := 2) (by omega) | exact wm_litu (x := 2) (by omega) | exact w_in (by omega) | exact rfl)) ?_; clear E a; intro a E
          refine list_pure E rfl rfl (by decide) (rn_add E rfl rfl rfl (by first | exact wa1 (by omega) | exact w_in (by omega) | exact w_inu (by omega) | exact rfl)) ?_; clear E a; intro a E
          rw [show f + ((2 * k : Nat) : Int) = f + 2 * (k : Int) by omega] at E
          refine list_pure E rfl rfl (by decide) (rn_add E rfl rfl rfl (by first | exact wa_lit (y := 1) (by omega) | exact w_in (by omega) | exact w_inu (by omega) | exact rfl)) ?_; clear E a; intro a E
          refine list_pure E rfl rfl (by decide) (rn_build (cells := [_, _]) E rfl rfl rfl) ?_; clear E a; intro a E
          refine list_call E rfl rfl (by decide) rfl Try.func8 rfl (by kernel_rfl) rfl (add_ret p M ⟨f + 2 * (k : Int) + 1, 1⟩ A2 _ hA2 hGM (S.hp.sel (sel_cons (by first | exact pk1 | exact pk2 | exact pk3 | exact pk4 | exact pk5 | exact pk6 | exact pk7 | exact pk8 | exact pk9) (sel_nil _)))) ?_
          rintro v70 w ⟨rfl, A3, hA3, hT⟩; clear E a; intro a E
          have S := S.call1 (sel_cons (by first | exact pk1 | exact pk2 | exact pk3 | exact pk4 | exact pk5 | exact pk6 | exact pk7 | exact pk8 | exact pk9) (sel_nil _)) hT; rw [hq1] at E; rw [hq2] at hA3
          refine list_pure E rfl rfl (by decide) (rn_assign E rfl rfl) ?_; clear E a; intro a E
          refine wpList_nil ?_
          refine then_k hK ?_; clear hK; clear K
          refine wp_seq_k ?_; intro K hK
          refine region_list ?_
          refine list_pure E rfl rfl (by decide) (rn_move E rfl rfl) ?_; clear E a; intro a E
          refine list_call E rfl rfl (by decide) rfl Try.func21 rfl (by kernel_rfl) rfl (all_ret p q _ A3 _ hA3 hGq.len (S.hp.sel (sel_cons (by first | exact pk1 | exact pk2 | exact pk3 | exact pk4 | exact pk5 | exact pk6 | exact pk7 | exact pk8 | exact pk9) (sel_nil _)))) ?_
          rintro v72 w ⟨D, hD, hT⟩; clear E a; intro a E
          have S := S.call2 (sel_cons (by first | exact pk1 | exact pk2 | exact pk3 | exact pk4 | exact pk5 | exact pk6 | exact pk7 | exact pk8 | exact pk9) (sel_nil _)) hT; obtain ⟨ad3, c3, rfl⟩ := hD.slice; rw [hq3] at E
          refine list_pure E rfl rfl (by decide) (by first | exact rn_len E rfl rfl rfl | exact rn_len_str E rfl rfl rfl | exact rn_len_string E rfl rfl rfl) ?_; clear E a; intro a E
          refine list_pure E rfl rfl (by decide) (rn_assign E rfl rfl) ?_; clear E a; intro a E
          refine wpList_nil ?_
          refine then_k hK ?_; clear hK; clear K
          refine wp_seq_k ?_; intro K hK
          refine region_list ?_
          refine list_pure E rfl rfl (by decide) (rn_move E rfl rfl) ?_; clear E a; intro a E
          refine list_pure E rfl rfl (by decide) (rn_move E rfl rfl) ?_; clear E a; intro a E
          refine list_pure E rfl rfl (by decide) (rn_add E rfl rfl rfl (w_in (by omega))) ?_; clear E a; intro a E
          refine list_pure E rfl rfl (by decide) (rn_build (cells := [_, _]) E rfl rfl rfl) ?_; clear E a; intro a E
          refine list_call E rfl rfl (by decide) rfl Try.func8 rfl (by kernel_rfl) rfl (add_ret p q ⟨f + 12288, 5⟩ A3 _ hA3 hGq (S.hp.sel (sel_cons (by first | exact pk1 | exact pk2 | exact pk3 | exact pk4 | exact pk5 | exact pk6 | exact pk7 | exact pk8 | exact pk9) (sel_nil _)))) ?_
          rintro v78 w ⟨rfl, A4, hA4, hT⟩; clear E a; intro a E
          have S := S.call1 (sel_cons (by first | exact pk1 | exact pk2 | exact pk3 | exact pk4 | exact pk5 | exact pk6 | exact pk7 | exact pk8 | exact pk9) (sel_nil _)) hT; rw [hq4] at E
          refine list_pure E rfl rfl (by decide) (rn_assign E rfl rfl) ?_; clear E a; intro a E
          refine wpList_nil ?_
          refine then_k hK ?_; clear hK; clear K
          refine wp_seq_k ?_; intro K hK
          replace E := E.keep (e' := [(0, _), (6, _), (9, _), (10, _), (12, _), (13, _), (14, _)]) (keep_cons rfl (keep_cons rfl (keep_cons rfl (keep_cons rfl (keep_cons rfl (keep_cons rfl (keep_cons rfl (keep_nil))))))))
          refine region_list ?_
          refine list_pure E rfl rfl (by decide) (rn_move E rfl rfl) ?_; clear E a; intro a E
          refine list_pure E rfl rfl (by decide) (rn_move E rfl rfl) ?_; clear E a; intro a E
          refine list_pure E rfl rfl (by decide) (rn_add E rfl rfl rfl (w_in (by omega))) ?_; clear E a; intro a E
          refine list_pure E rfl rfl (by decide) (rn_add E rfl rfl rfl (w_in (by omega))) ?_; clear E a; intro a E
          rw [show f + 12288 + 2 = f + 12290 by omega] at E
          refine list_pure E rfl rfl (by decide) (rn_build (cells := [_, _]) E rfl rfl rfl) ?_; clear E a; intro a E
          refine list_call E rfl rfl (by decide) rfl Try.func10 rfl (by kernel_rfl) rfl (rem_ret p (addS q ⟨f + 12288, 5⟩) ⟨f + 12290, 1⟩ A4 _ hA4 hGr (S.hp.sel (sel_cons (by first | exact pk1 | exact pk2 | exact pk3 | exact pk4 | exact pk5 | exact pk6 | exact pk7 | exact pk8 | exact pk9) (sel_nil _)))) ?_
          rintro v84 w ⟨rfl, A5, hA5, hT⟩; clear E a; intro a E
          have S := S.call1 (sel_cons (by first | exact pk1 | exact pk2 | exact pk3 | exact pk4 | exact pk5 | exact pk6 | exact pk7 | exact pk8 | exact pk9) (sel_nil _)) hT; rw [hq5] at E; rw [remS_no (by omega), hq6] at hA5
          refine list_pure E rfl rfl (by decide) (rn_assign E rfl rfl) ?_; clear E a; intro a E
          refine wpList_nil ?_
          refine then_k hK ?_; clear hK; clear K
          refine wp_seq_k ?_; intro K hK
          refine region_list ?_
          refine list_pure E rfl rfl (by decide) (rn_move E rfl rfl) ?_; clear E a; intro a E
          refine list_pure E rfl rfl (by decide) (by first | exact rn_eql E rfl rfl rfl | exact rn_eql_ptr_nil E rfl rfl rfl rfl | exact rn_eql_bool E rfl rfl rfl rfl | exact rn_eql_string E rfl rfl rfl) ?_; clear E a; intro a E
          refine list_pure E rfl rfl (by decide) (rn_move E rfl rfl) ?_; clear E a; intro a E
          refine guard_true E (t := 87) rfl (rfl) (fun hb87 => ?_)
          refine list_guard_yes E rfl rfl rfl rfl hb87 rfl (by decide) (rn_move E rfl rfl) ?_; clear E a; intro a E
          refine list_guard_yes E rfl rfl rfl rfl hb87 rfl (by decide) (by first | exact rn_eql E rfl rfl rfl | exact rn_eql_ptr_nil E rfl rfl rfl rfl | exact rn_eql_bool E rfl rfl rfl rfl | exact rn_eql_string E rfl rfl rfl) ?_; clear E a; intro a E
          refine list_pure E rfl rfl (by decide) (rn_pick_yes' E rfl rfl hb87 rfl) ?_; clear E a; intro a E
          refine list_pure E rfl rfl (by decide) (rn_move E rfl rfl) ?_; clear E a; intro a E
          refine guard_true E (t := 91) rfl (rfl) (fun hb91 => ?_)
          refine list_guard_yes E rfl rfl rfl rfl hb91 rfl (by decide) (rn_move E rfl rfl) ?_; clear E a; intro a E
          refine list_guard_yes E rfl rfl rfl rfl hb91 rfl (by decide) (by first | exact rn_eql E rfl rfl rfl | exact rn_eql_ptr_nil E rfl rfl rfl rfl | exact rn_eql_bool E rfl rfl rfl rfl | exact rn_eql_string E rfl rfl rfl) ?_; clear E a; intro a E
          refine list_pure E rfl rfl (by decide) (rn_pick_yes' E rfl rfl hb91 rfl) ?_; clear E a; intro a E
          refine list_pure E rfl rfl (by decide) (rn_move E rfl rfl) ?_; clear E a; intro a E
          refine guard_true E (t := 95) rfl (rfl) (fun hb95 => ?_)
          refine list_guard_yes E rfl rfl rfl rfl hb95 rfl (by decide) (rn_move E rfl rfl) ?_; clear E a; intro a E
          refine list_guard_yes E rfl rfl rfl rfl hb95 rfl (by decide) (by first | exact rn_eql E rfl rfl rfl | exact rn_eql_ptr_nil E rfl rfl rfl rfl | exact rn_eql_bool E rfl rfl rfl rfl | exact rn_eql_string E rfl rfl rfl) ?_; clear E a; intro a E
          refine list_pure E rfl rfl (by decide) (rn_pick_yes' E rfl rfl hb95 rfl) ?_; clear E a; intro a E
          refine list_pure E rfl rfl (by decide) (rn_move E rfl rfl) ?_; clear E a; intro a E
          refine guard_true E (t := 99) rfl (rfl) (fun hb99 => ?_)
          refine list_guard_yes E rfl rfl rfl rfl hb99 rfl (by decide) (rn_move E rfl rfl) ?_; clear E a; intro a E
          refine list_guard_yes E rfl rfl rfl rfl hb99 rfl (by decide) (by first | exact rn_eql E rfl rfl rfl | exact rn_eql_ptr_nil E rfl rfl rfl rfl | exact rn_eql_bool E rfl rfl rfl rfl | exact rn_eql_string E rfl rfl rfl) ?_; clear E a; intro a E
          refine list_pure E rfl rfl (by decide) (rn_pick_yes' E rfl rfl hb99 rfl) ?_; clear E a; intro a E
          refine list_pure E rfl rfl (by decide) (rn_move E rfl rfl) ?_; clear E a; intro a E
          refine guard_true E (t := 103) rfl (rfl) (fun hb103 => ?_)
          refine list_guard_yes E rfl rfl rfl rfl hb103 rfl (by decide) (rn_move E rfl rfl) ?_; clear E a; intro a E
          refine list_guard_yes E rfl rfl rfl rfl hb103 rfl (by decide) (by first | exact rn_eql E rfl rfl rfl | exact rn_eql_ptr_nil E rfl rfl rfl rfl | exact rn_eql_bool E rfl rfl rfl rfl | exact rn_eql_string E rfl rfl rfl) ?_; clear E a; intro a E
          refine list_pure E rfl rfl (by decide) (rn_pick_yes' E rfl rfl hb103 rfl) ?_; clear E a; intro a E
          refine list_pure E rfl rfl (by decide) (rn_move E rfl rfl) ?_; clear E a; intro a E
          refine guard_true E (t := 107) rfl (rfl) (fun hb107 => ?_)
          refine list_guard_yes E rfl rfl rfl rfl hb107 rfl (by decide) (rn_move E rfl rfl) ?_; clear E a; intro a E
          refine list_guard_wp E rfl rfl rfl rfl hb107 ?_; refine wp_call' E rfl (by decide) rfl Try.func22 rfl (by kernel_rfl) rfl (many_ret p _ _ A5 _ hA5 (S.hp.sel (sel_cons (by first | exact pk1 | exact pk2 | exact pk3 | exact pk4 | exact pk5 | exact pk6 | exact pk7 | exact pk8 | exact pk9) (sel_nil _)))) ?_
          rintro v109 w ⟨rfl, hT⟩; clear E a; intro a E
          have S := S.call1 (sel_cons (by first | exact pk1 | exact pk2 | exact pk3 | exact pk4 | exact pk5 | exact pk6 | exact pk7 | exact pk8 | exact pk9) (sel_nil _)) hT
          refine list_guard_yes E rfl rfl rfl rfl hb107 rfl (by decide) (by first | exact rn_eql E rfl rfl rfl | exact rn_eql_ptr_nil E rfl rfl rfl rfl | exact rn_eql_bool E rfl rfl rfl rfl | exact rn_eql_string E rfl rfl rfl) ?_; clear E a; intro a E
          refine list_pure E rfl rfl (by decide) (rn_pick_yes' E rfl rfl hb107 rfl) ?_; clear E a; intro a E
          refine list_pure E rfl rfl (by decide) (rn_assign E rfl rfl) ?_; clear E a; intro a E
          refine wpList_nil ?_
          refine then_k hK ?_; clear hK; clear K
          refine wp_ret ?_
          refine ret1 E rfl rfl ?_
          exact ⟨_, rfl, rfl, (S.only (Bs := [O]) (sel_cons (by first | exact pk1 | exact pk2 | exact pk3 | exact pk4 | exact pk5 | exact pk6 | exact pk7 | exact pk8 | exact pk9) (sel_nil _))).tr⟩
        · first | replace hb := n1 hb | replace hb := n2 hb | replace hb := n3 hb | replace hb := n4 hb | replace hb := n5 hb | replace hb := n6 hb | skip
          refine wp_skip ?_
          refine then_k hK ?_; clear hK; clear K
          refine wp_seq_k ?_; intro K hK
          replace E := E.keep (e' := [(0, _), (6, _), (9, _), (10, _), (11, _)]) (keep_cons rfl (keep_cons rfl (keep_cons rfl (keep_cons rfl (keep_cons rfl (keep_nil))))))
          obtain ⟨k, hke, hk4⟩ : ∃ k : Nat, b.tmod 4095 = (k : Int) ∧ k ≤ 4094 := ⟨(b.tmod 4095).toNat, by omega, by omega⟩
          rw [hke] at E
          obtain ⟨q, hq1, hq2, hq3, hGq, hq4, hGr, hq5, hq6⟩ := hk k hk4
          refine region_list ?_
          refine list_pure E rfl rfl (by decide) (rn_move E rfl rfl) ?_; clear E a; intro a E
          refine list_pure E rfl rfl (by decide) (rn_move E rfl rfl) ?_; clear E a; intro a E
          refine list_pure E rfl rfl (by decide) (rn_move E rfl rfl) ?_; clear E a; intro a E
          refine list_pure E rfl rfl (by decide) (rn_mul E rfl rfl rfl (by first | exact wm_lit (x := 2) (by omega) | exact wm_litu (x := 2) (by omega) | exact w_in (by omega) | exact rfl)) ?_; clear E a; intro a E
          refine list_pure E rfl rfl (by decide) (rn_add E rfl rfl rfl (by first | exact wa1 (by omega) | exact w_in (by omega) | exact w_inu (by omega) | exact rfl)) ?_; clear E a; intro a E
          rw [show f + ((2 * k : Nat) : Int) = f + 2 * (k : Int) by omega] at E
          refine list_pure E rfl rfl (by decide) (rn_add E rfl rfl rfl (by first | exact wa_lit (y := 1) (by omega) | exact w_in (by omega) | exact w_inu (by omega) | exact rfl)) ?_; clear E a; intro a E
          refine list_pure E rfl rfl (by decide) (rn_build (cells := [_, _]) E rfl rfl rfl) ?_; clear E a; intro a E
          refine list_call E rfl rfl (by decide) rfl Try.func8 rfl (by kernel_rfl) rfl (add_ret p M ⟨f + 2 * (k : Int) + 1, 1⟩ A2 _ hA2 hGM (S.hp.sel (sel_cons (by first | exact pk1 | exact pk2 | exact pk3 | exact pk4 | exact pk5 | exact pk6 | exact pk7 | exact pk8 | exact pk9) (sel_nil _)))) ?_
          rintro v70 w ⟨rfl, A3, hA3, hT⟩; clear E a; intro a E
          have S := S.call1 (sel_cons (by first | exact pk1 | exact pk2 | exact pk3 | exact pk4 | exact pk5 | exact pk6 | exact pk7 | exact pk8 | exact pk9) (sel_nil _)) hT; rw [hq1] at E; rw [hq2] at hA3
          refine list_pure E rfl rfl (by decide) (rn_assign E rfl rfl) ?_; clear E a; intro a E
          refine wpList_nil ?_
          refine then_k hK ?_; clear hK; clear K
          refine wp_seq_k ?_; intro K hK
          refine region_list ?_
          refine list_pure E rfl rfl (by decide) (rn_move E rfl rfl) ?_; clear E a; intro a E
          refine list_call E rfl rfl (by decide) rfl Try.func21 rfl (by kernel_rfl) rfl (all_ret p q _ A3 _ hA3 hGq.len (S.hp.sel (sel_cons (by first | exact pk1 | exact pk2 | exact pk3 | exact pk4 | exact pk5 | exact pk6 | exact pk7 | exact pk8 | exact pk9) (sel_nil _)))) ?_
          rintro v72 w ⟨D, hD, hT⟩; clear E a; intro a E
          have S := S.call2 (sel_cons (by first | exact pk1 | exact pk2 | exact pk3 | exact pk4 | exact pk5 | exact pk6 | exact pk7 | exact pk8 | exact pk9) (sel_nil _)) hT; obtain ⟨ad3, c3, rfl⟩ := hD.slice; rw [hq3] at E
          refine list_pure E rfl rfl (by decide) (by first | exact rn_len E rfl rfl rfl | exact rn_len_str E rfl rfl rfl | exact rn_len_string E rfl rfl rfl) ?_; clear E a; intro a E
          refine list_pure E rfl rfl (by decide) (rn_assign E rfl rfl) ?_; clear E a; intro a E
          refine wpList_nil ?_
          refine then_k hK ?_; clear hK; clear K
          refine wp_seq_k ?_; intro K hK
          refine region_list ?_
          refine list_pure E rfl rfl (by decide) (rn_move E rfl rfl) ?_; clear E a; intro a E
          refine list_pure E rfl rfl (by decide) (rn_move E rfl rfl) ?_; clear E a; intro a E
          refine list_pure E rfl rfl (by decide) (rn_add E rfl rfl rfl (w_in (by omega))) ?_; clear E a; intro a E
          refine list_pure E rfl rfl (by decide) (rn_build (cells := [_, _]) E rfl rfl rfl) ?_; clear E a; intro a E
          refine list_call E rfl rfl (by decide) rfl Try.func8 rfl (by kernel_rfl) rfl (add_ret p q ⟨f + 12288, 5⟩ A3 _ hA3 hGq (S.hp.sel (sel_cons (by first | exact pk1 | exact pk2 | exact pk3 | exact pk4 | exact pk5 | exact pk6 | exact pk7 | exact pk8 | exact pk9) (sel_nil _)))) ?_
          rintro v78 w ⟨rfl, A4, hA4, hT⟩; clear E a; intro a E
          have S := S.call1 (sel_cons (by first | exact pk1 | exact pk2 | exact pk3 | exact pk4 | exact pk5 | exact pk6 | exact pk7 | exact pk8 | exact pk9) (sel_nil _)) hT; rw [hq4] at E
          refine list_pure E rfl rfl (by decide) (rn_assign E rfl rfl) ?_; clear E a; intro a E
          refine wpList_nil ?_
          refine then_k hK ?_; clear hK; clear K
          refine wp_seq_k ?_; intro K hK
          replace E := E.keep (e' := [(0, _), (6, _), (9, _), (10, _), (12, _), (13, _), (14, _)]) (keep_cons rfl (keep_cons rfl (keep_cons rfl (keep_cons rfl (keep_cons rfl (keep_cons rfl (keep_cons rfl (keep_nil))))))))
          refine region_list ?_
          refine list_pure E rfl rfl (by decide) (rn_move E rfl rfl) ?_; clear E a; intro a E
          refine list_pure E rfl rfl (by decide) (rn_move E rfl rfl) ?_; clear E a; intro a E
          refine list_pure E rfl rfl (by decide) (rn_add E rfl rfl rfl (w_in (by omega))) ?_; clear E a; intro a E
          refine list_pure E rfl rfl (by decide) (rn_add E rfl rfl rfl (w_in (by omega))) ?_; clear E a; intro a E
          rw [show f + 12288 + 2 = f + 12290 by omega] at E
          refine list_pure E rfl rfl (by decide) (rn_build (cells := [_, _]) E rfl rfl rfl) ?_; clear E a; intro a E
          refine list_call E rfl rfl (by decide) rfl Try.func10 rfl (by kernel_rfl) rfl (rem_ret p (addS q ⟨f + 12288, 5⟩) ⟨f + 12290, 1⟩ A4 _ hA4 hGr (S.hp.sel (sel_cons (by first | exact pk1 | exact pk2 | exact pk3 | exact pk4 | exact pk5 | exact pk6 | exact pk7 | exact pk8 | exact pk9) (sel_nil _)))) ?_
          rintro v84 w ⟨rfl, A5, hA5, hT⟩; clear E a; intro a E
          have S := S.call1 (sel_cons (by first | exact pk1 | exact pk2 | exact pk3 | exact pk4 | exact pk5 | exact pk6 | exact pk7 | exact pk8 | exact pk9) (sel_nil _)) hT; rw [hq5] at E; rw [remS_no (by omega), hq6] at hA5
          refine list_pure E rfl rfl (by decide) (rn_assign E rfl rfl) ?_; clear E a; intro a E
          refine wpList_nil ?_
          refine then_k hK ?_; clear hK; clear K
          refine wp_seq_k ?_; intro K hK
          refine region_list ?_
          refine list_pure E rfl rfl (by decide) (rn_move E rfl rfl) ?_; clear E a; intro a E
          refine list_pure E rfl rfl (by decide) (by first | exact rn_eql E rfl rfl rfl | exact rn_eql_ptr_nil E rfl rfl rfl rfl | exact rn_eql_bool E rfl rfl rfl rfl | exact rn_eql_string E rfl rfl rfl) ?_; clear E a; intro a E
          refine list_pure E rfl rfl (by decide) (rn_move E rfl rfl) ?_; clear E a; intro a E
          refine guard_true E (t := 87) rfl (rfl) (fun hb87 => ?_)
          refine list_guard_yes E rfl rfl rfl rfl hb87 rfl (by decide) (rn_move E rfl rfl) ?_; clear E a; intro a E
          refine list_guard_yes E rfl rfl rfl rfl hb87 rfl (by decide) (by first | exact rn_eql E rfl rfl rfl | exact rn_eql_ptr_nil E rfl rfl rfl rfl | exact rn_eql_bool E rfl rfl rfl rfl | exact rn_eql_string E rfl rfl rfl) ?_; clear E a; intro a E
          refine list_pure E rfl rfl (by decide) (rn_pick_yes' E rfl rfl hb87 rfl) ?_; clear E a; intro a E
          refine list_pure E rfl rfl (by decide) (rn_move E rfl rfl) ?_; clear E a; intro a E
          refine guard_true E (t := 91) rfl (rfl) (fun hb91 => ?_)
          refine list_guard_yes E rfl rfl rfl rfl hb91 rfl (by decide) (rn_move E rfl rfl) ?_; clear E a; intro a E
          refine list_guard_yes E rfl rfl rfl rfl hb91 rfl (by decide) (by first | exact rn_eql E rfl rfl rfl | exact rn_eql_ptr_nil E rfl rfl rfl rfl | exact rn_eql_bool E rfl rfl rfl rfl | exact rn_eql_string E rfl rfl rfl) ?_; clear E a; intro a E
          refine list_pure E rfl rfl (by decide) (rn_pick_yes' E rfl rfl hb91 rfl) ?_; clear E a; intro a E
          refine list_pure E rfl rfl (by decide) (rn_move E rfl rfl) ?_; clear E a; intro a E
          refine guard_true E (t := 95) rfl (rfl) (fun hb95 => ?_)
          refine list_guard_yes E rfl rfl rfl rfl hb95 rfl (by decide) (rn_move E rfl rfl) ?_; clear E a; intro a E
          refine list_guard_yes E rfl rfl rfl rfl hb95 rfl (by decide) (by first | exact rn_eql E rfl rfl rfl | exact rn_eql_ptr_nil E rfl rfl rfl rfl | exact rn_eql_bool E rfl rfl rfl rfl | exact rn_eql_string E rfl rfl rfl) ?_; clear E a; intro a E
          refine list_pure E rfl rfl (by decide) (rn_pick_yes' E rfl rfl hb95 rfl) ?_; clear E a; intro a E
          refine list_pure E rfl rfl (by decide) (rn_move E rfl rfl) ?_; clear E a; intro a E
          refine guard_true E (t := 99) rfl (rfl) (fun hb99 => ?_)
          refine list_guard_yes E rfl rfl rfl rfl hb99 rfl (by decide) (rn_move E rfl rfl) ?_; clear E a; intro a E
          refine list_guard_yes E rfl rfl rfl rfl hb99 rfl (by decide) (by first | exact rn_eql E rfl rfl rfl | exact rn_eql_ptr_nil E rfl rfl rfl rfl | exact rn_eql_bool E rfl rfl rfl rfl | exact rn_eql_string E rfl rfl rfl) ?_; clear E a; intro a E
          refine list_pure E rfl rfl (by decide) (rn_pick_yes' E rfl rfl hb99 rfl) ?_; clear E a; intro a E
          refine list_pure E rfl rfl (by decide) (rn_move E rfl rfl) ?_; clear E a; intro a E
          refine guard_true E (t := 103) rfl (rfl) (fun hb103 => ?_)
          refine list_guard_yes E rfl rfl rfl rfl hb103 rfl (by decide) (rn_move E rfl rfl) ?_; clear E a; intro a E
          refine list_guard_yes E rfl rfl rfl rfl hb103 rfl (by decide) (by first | exact rn_eql E rfl rfl rfl | exact rn_eql_ptr_nil E rfl rfl rfl rfl | exact rn_eql_bool E rfl rfl rfl rfl | exact rn_eql_string E rfl rfl rfl) ?_; clear E a; intro a E
          refine list_pure E rfl rfl (by decide) (rn_pick_yes' E rfl rfl hb103 rfl) ?_; clear E a; intro a E
          refine list_pure E rfl rfl (by decide) (rn_move E rfl rfl) ?_; clear E a; intro a E
          refine guard_true E (t := 107) rfl (rfl) (fun hb107 => ?_)
          refine list_guard_yes E rfl rfl rfl rfl hb107 rfl (by decide) (rn_move E rfl rfl) ?_; clear E a; intro a E
          refine list_guard_wp E rfl rfl rfl rfl hb107 ?_; refine wp_call' E rfl (by decide) rfl Try.func22 rfl (by kernel_rfl) rfl (many_ret p _ _ A5 _ hA5 (S.hp.sel (sel_cons (by first | exact pk1 | exact pk2 | exact pk3 | exact pk4 | exact pk5 | exact pk6 | exact pk7 | exact pk8 | exact pk9) (sel_nil _)))) ?_
          rintro v109 w ⟨rfl, hT⟩; clear E a; intro a E
          have S := S.call1 (sel_cons (by first | exact pk1 | exact pk2 | exact pk3 | exact pk4 | exact pk5 | exact pk6 | exact pk7 | exact pk8 | exact pk9) (sel_nil _)) hT
          refine list_guard_yes E rfl rfl rfl rfl hb107 rfl (by decide) (by first | exact rn_eql E rfl rfl rfl | exact rn_eql_ptr_nil E rfl rfl rfl rfl | exact rn_eql_bool E rfl rfl rfl rfl | exact rn_eql_string E rfl rfl rfl) ?_; clear E a; intro a E
          refine list_pure E rfl rfl (by decide) (rn_pick_yes' E rfl rfl hb107 rfl) ?_; clear E a; intro a E
          refine list_pure E rfl rfl (by decide) (rn_assign E rfl rfl) ?_; clear E a; intro a E
          refine wpList_nil ?_
          refine then_k hK ?_; clear hK; clear K
          refine wp_ret ?_
          refine ret1 E rfl rfl ?_
          exact ⟨_, rfl, rfl, (S.only (Bs := [O]) (sel_cons (by first | exact pk1 | exact pk2 | exact pk3 | exact pk4 | exact pk5 | exact pk6 | exact pk7 | exact pk8 | exact pk9) (sel_nil _))).tr⟩
end Go.Proofs.Ytogpohhhhjpmdaa
