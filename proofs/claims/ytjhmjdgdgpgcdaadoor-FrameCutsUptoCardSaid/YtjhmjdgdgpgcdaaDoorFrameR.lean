/-
  Frames opened: plain, and the program.
-/
import Derived.Test.YtjhmjdgdgpgcdaaDoorFrameD
namespace Go.Sl
/-- A reader of bytes with one ahead of them. -/
def Rdr.up (k : UInt8) (s : Rdr) : Rdr := ⟨k :: s.bs, s.at_ + 1, s.e⟩
theorem up_cut (k : UInt8) (s : Rdr) (m q : Nat) : (s.up k).cut m q = s.cut m q := by
  simp only [Rdr.cut, Rdr.up]
  rw [show s.at_ + 1 + q = s.at_ + q + 1 by omega, List.drop_succ_cons]
theorem up_num (c : UInt8) (s : Rdr) (k : Int) : (s.up c).num k = ((s.num k).1, (s.num k).2.up c) := by
  unfold Rdr.num
  rw [up_cut]
  simp only [Rdr.up, List.length_cons]
  by_cases h1 : s.e ≠ 0
  · simp [h1]
  · by_cases h2 : k < 1 ∨ 8 < k
    · simp [h1, h2]
    · by_cases h3 : s.bs.length < s.at_ + k.toNat
      · simp [h1, h2, h3, show s.bs.length + 1 < s.at_ + 1 + k.toNat by omega]
      · simp [h1, h2, h3, show ¬ s.bs.length + 1 < s.at_ + 1 + k.toNat by omega]; omega
theorem up_bytes (c : UInt8) (s : Rdr) (k : Int) : (s.up c).bytes k = ((s.bytes k).1, (s.bytes k).2.up c) := by
  unfold Rdr.bytes
  rw [up_cut]
  simp only [Rdr.up, List.length_cons]
  by_cases h1 : s.e ≠ 0
  · simp [h1]
  · by_cases h2 : k < 0
    · simp [h1, h2]
    · by_cases h3 : s.bs.length < s.at_ + k.toNat
      · simp [h1, h2, h3, show s.bs.length + 1 < s.at_ + 1 + k.toNat by omega]
      · simp [h1, h2, h3, show ¬ s.bs.length + 1 < s.at_ + 1 + k.toNat by omega]; omega
theorem up_text (c : UInt8) (s : Rdr) (k : Int) : (s.up c).text k = ((s.text k).1, (s.text k).2.up c) := by
  unfold Rdr.text
  rw [up_cut, up_cut]
  simp only [Rdr.up, List.length_cons]
  generalize numOf (s.cut 2 0) = z
  generalize s.cut z 2 = y
  by_cases h1 : s.e ≠ 0
  · simp [h1]
  · by_cases h2 : s.bs.length < s.at_ + 2
    · simp [h1, h2, show s.bs.length + 1 < s.at_ + 1 + 2 by omega]
    · by_cases h3 : k < z
      · simp [h1, h2, h3, show ¬ s.bs.length + 1 < s.at_ + 1 + 2 by omega]
      · by_cases h4 : s.bs.length < s.at_ + 2 + z
        · simp [h1, h2, h3, h4, show ¬ s.bs.length + 1 < s.at_ + 1 + 2 by omega, show s.bs.length + 1 < s.at_ + 1 + 2 + z by omega]
        · simp [h1, h2, h3, h4, show ¬ s.bs.length + 1 < s.at_ + 1 + 2 by omega, show ¬ s.bs.length + 1 < s.at_ + 1 + 2 + z by omega]; omega
theorem up_done (c : UInt8) (s : Rdr) : (s.up c).done = s.done := by
  unfold Rdr.done; simp only [Rdr.up, List.length_cons]
  by_cases h : s.at_ < s.bs.length
  · simp [h]
  · simp [h]
theorem up_left (c : UInt8) (s : Rdr) : (s.up c).left = s.left := by
  unfold Rdr.left; simp only [Rdr.up, List.length_cons]; omega
theorem num_lt (s : Rdr) (k : Nat) : (s.num k).1 < 256 ^ k := by
  unfold Rdr.num
  have h0 : 0 < 256 ^ k := Nat.pow_pos (by omega)
  by_cases h1 : s.e ≠ 0
  · simp only [if_pos h1]; exact h0
  · by_cases h2 : (k : Int) < 1 ∨ 8 < (k : Int)
    · simp only [if_neg h1, if_pos h2]; exact h0
    · by_cases h3 : s.bs.length < s.at_ + (k : Int).toNat
      · simp only [if_neg h1, if_neg h2, if_pos h3]; exact h0
      · simp only [if_neg h1, if_neg h2, if_neg h3]
        have hl := numOf_lt (s.cut (k : Int).toNat 0)
        have : (s.cut (k : Int).toNat 0).length ≤ k := by rw [Rdr.cut, List.length_take]; omega
        exact Nat.lt_of_lt_of_le hl (Nat.pow_le_pow_right (by omega) this)

/-- What lies between a frame's length and its sum. -/
def opX (b : List UInt8) : List UInt8 := (b.drop 4).take (b.length - 12)
/-- Why a frame is not opened. -/
def opE (b : List UInt8) (k : Nat) : Int :=
  if ¬ (13 ≤ b.length ∧ b.length ≤ 65536) then 230 else if nm b 0 4 ≠ b.length - 4 then 230
  else if b.drop (b.length - 8) ≠ formOf (shaF (opX b)).a 8 then 231 else if nm (opX b) 0 1 ≠ k then 230 else 0
theorem opX_length {b : List UInt8} (h : 13 ≤ b.length) : (opX b).length = b.length - 12 := by rw [opX, List.length_take, List.length_drop]; omega
end Go.Sl
namespace Go.Proofs.YtjhmjdgdgpgcdaaDoor
open Go.Sl
set_option maxRecDepth 10000

theorem bequal_ret (C D : Chunk) (v w : Value) (x y : List UInt8) (hC : Rd C 1 v x.length (byt x)) (hD : Rd D 1 w y.length (byt y)) (hl : x.length ≤ 140737488355328) (w0 : World) (H : Hp w0 [C, D]) :
    Ret Tryd.prog 63 #[v, w] w0 fun u w' => u = .bool (decide (x = y)) ∧ Trs w0 w' [C, D] [C, D] := by
  have S := St.begin H
  obtain ⟨ad, c, rfl⟩ := hC.slice
  obtain ⟨ad2, c2, rfl⟩ := hD.slice
  refine enter2 26 Tryd.func63 rfl rfl (by decide) ?_; intro a E
  refine wp_seq_k ?_; intro K hK
  refine region_list ?_
  refine list_pure E rfl rfl (by decide) (rn_assign E rfl rfl) ?_; clear E a; intro a E
  refine wpList_nil ?_
  refine then_k hK ?_; clear hK; clear K
  refine wp_seq_k ?_; intro K hK
  refine wp_seq_k ?_; intro K hK
  refine region_list ?_
  refine list_pure E rfl rfl (by decide) (rn_move E rfl rfl) ?_; clear E a; intro a E
  refine list_pure E rfl rfl (by decide) (by first | exact rn_len E rfl rfl rfl | exact rn_len_str E rfl rfl rfl | exact rn_len_string E rfl rfl rfl) ?_; clear E a; intro a E
  refine list_pure E rfl rfl (by decide) (rn_move E rfl rfl) ?_; clear E a; intro a E
  refine list_pure E rfl rfl (by decide) (by first | exact rn_len E rfl rfl rfl | exact rn_len_str E rfl rfl rfl | exact rn_len_string E rfl rfl rfl) ?_; clear E a; intro a E
  refine list_pure E rfl rfl (by decide) (by first | exact rn_neq E rfl rfl rfl | exact rn_neq_ptr_nil E rfl rfl rfl rfl | exact rn_neq_bool E rfl rfl rfl rfl | exact rn_neq_string E rfl rfl rfl) ?_; clear E a; intro a E
  refine wpList_nil ?_
  refine then_k hK ?_; clear hK; clear K
  refine if_bool E rfl (fun hb => ?_) (fun hb => ?_)
  · replace hb := Nrm.nrm hb
    have hne : x.length ≠ y.length := (by omega)
    refine wp_seq_k ?_; intro K hK
    refine region_list ?_
    refine list_pure E rfl rfl (by decide) (rn_assign E rfl rfl) ?_; clear E a; intro a E
    refine wpList_nil ?_
    refine then_k hK ?_; clear hK; clear K
    refine wp_ret ?_
    refine then_ret ?_; clear hK; clear K
    refine ret1 E rfl rfl ?_
    exact ⟨_, rfl, by rw [decide_eq_false (fun q => hne (by rw [q]))], S.tr⟩
  · replace hb := Nrm.nrm hb
    have hll : x.length = y.length := (by omega)
    refine wp_skip ?_
    refine then_k hK ?_; clear hK; clear K
    refine wp_seq_k ?_; intro K hK
    refine wp_seq_k ?_; intro K hK
    refine region_list ?_
    refine list_pure E rfl rfl (by decide) (rn_move E rfl rfl) ?_; clear E a; intro a E
    refine list_pure E rfl rfl (by decide) (by first | exact rn_len E rfl rfl rfl | exact rn_len_str E rfl rfl rfl | exact rn_len_string E rfl rfl rfl) ?_; clear E a; intro a E
    refine list_pure E rfl rfl (by decide) (rn_move E rfl rfl) ?_; clear E a; intro a E
    refine wpList_nil ?_
    refine then_k hK ?_; clear hK; clear K
    refine wp_block ?_
    refine wp_loop_ghost (fun (m : Nat) (a : Act) (w' : World) => ∃ i, m = x.length - i ∧ i ≤ x.length ∧ (∀ j, j < i → x[j]? = y[j]?) ∧ St w0 [C, D] w' [C, D] ∧ Fr a 26 [(0, .slice ad x.length c), (1, .slice ad2 y.length c2), (12, .int .i64 x.length), (13, .int .i64 i)]) (x.length - 0) ?_ ?_
    · exact ⟨0, rfl, by omega, fun j h => by omega, S, E.keep (keep_cons rfl (keep_cons rfl (keep_cons rfl (keep_cons rfl keep_nil))))⟩
    clear E; clear a; (try clear S); rintro m a w ⟨i, rfl, hi, hm, S, E⟩
    refine wp_seq_k ?_; intro K hK
    refine region_list ?_
    refine list_pure E rfl rfl (by decide) (rn_lss E rfl rfl rfl) ?_; clear E a; intro a E
    refine wpList_nil ?_
    refine then_k hK ?_; clear hK; clear K
    refine wp_seq_k ?_; intro K hK
    refine if_bool E rfl (fun hb => ?_) (fun hb => ?_)
    · replace hb := Nrm.nrm hb
      refine wp_skip ?_
      refine then_k hK ?_; clear hK; clear K
      refine wp_seq_k ?_; intro K hK
      refine wp_block ?_
      refine wp_seq_k ?_; intro K hK
      refine region_list ?_
      refine list_pure E rfl rfl (by decide) (rn_move E rfl rfl) ?_; clear E a; intro a E
      refine list_pure E rfl rfl (by decide) (rn_assign E rfl rfl) ?_; clear E a; intro a E
      refine wpList_nil ?_
      refine then_k hK ?_; clear hK; clear K
      refine wp_seq_k ?_; intro K hK
      have hib : i < x.length := by omega
      have hib2 : i < y.length := by omega
      obtain ⟨g, off, rfl⟩ := hC.addr (by omega)
      obtain ⟨g2, off2, rfl⟩ := hD.addr (by omega)
      refine region_mix0 S (.ofL [(0, 0), (1, 0), (2, 0), (3, 0), (4, 0), (5, 0), (6, 0), (7, 0), (8, 0)]) (by kernel_rfl) (by kernel_rfl) ?_
      clear S; intro w S
      refine mix_pure E rfl rfl rfl (by decide) (fun w h => rn_move E rfl rfl) ?_; clear E a; intro a E
      refine mix_pure E rfl rfl rfl (by decide) (fun w h => rn_move E rfl rfl) ?_; clear E a; intro a E
      refine mix_pure E rfl rfl rfl (by decide) (fun w h => by first | exact rn_indexAddr1 E rfl rfl rfl rfl rfl rfl (by omega) | exact rn_indexAddr E rfl rfl rfl rfl rfl rfl (by omega) | exact rn_indexAddr_array E rfl rfl rfl rfl rfl rfl (by omega)) ?_; clear E a; intro a E
      refine mix_pure E rfl rfl rfl (by decide) (fun w h => rn_loadc E rfl rfl rfl (hC.byte (h.at (by repeat (first | exact mm1 | assumption | apply List.Mem.tail))) hib)) ?_; clear E a; intro a E
      refine mix_pure E rfl rfl rfl (by decide) (fun w h => rn_move E rfl rfl) ?_; clear E a; intro a E
      refine mix_pure E rfl rfl rfl (by decide) (fun w h => rn_move E rfl rfl) ?_; clear E a; intro a E
      refine mix_pure E rfl rfl rfl (by decide) (fun w h => by first | exact rn_indexAddr1 E rfl rfl rfl rfl rfl rfl (by omega) | exact rn_indexAddr E rfl rfl rfl rfl rfl rfl (by omega) | exact rn_indexAddr_array E rfl rfl rfl rfl rfl rfl (by omega)) ?_; clear E a; intro a E
      refine mix_pure E rfl rfl rfl (by decide) (fun w h => rn_loadc E rfl rfl rfl (hD.byte (h.at (by repeat (first | exact mm1 | assumption | apply List.Mem.tail))) hib2)) ?_; clear E a; intro a E
      refine mix_pure E rfl rfl rfl (by decide) (fun w h => by first | exact rn_neq E rfl rfl rfl | exact rn_neq_ptr_nil E rfl rfl rfl rfl | exact rn_neq_bool E rfl rfl rfl rfl | exact rn_neq_string E rfl rfl rfl) ?_; clear E a; intro a E
      refine mix_nil ?_
      refine then_k hK ?_; clear hK; clear K
      refine if_bool E rfl (fun hb => ?_) (fun hb => ?_)
      · replace hb := Nrm.nrm hb
        have hne : x[i] ≠ y[i] := (fun q => hb (by rw [q]))
        refine wp_seq_k ?_; intro K hK
        refine region_list ?_
        refine list_pure E rfl rfl (by decide) (rn_assign E rfl rfl) ?_; clear E a; intro a E
        refine wpList_nil ?_
        refine then_k hK ?_; clear hK; clear K
        refine wp_ret ?_
        refine in_ret ?_
        refine then_ret ?_; clear hK; clear K
        refine then_ret ?_
        refine in_ret ?_
        refine then_ret ?_; clear hK; clear K
        refine ret1 E rfl rfl ?_
        exact ⟨_, rfl, by rw [decide_eq_false]; intro q; subst q; exact hne rfl, S.tr⟩
      · replace hb := Nrm.nrm hb
        have heq : x[i] = y[i] := (by apply UInt8.toNat_inj.1; have : ((x[i]'hib).toNat : Int) = ((y[i]'hib2).toNat : Int) := hb; omega)
        refine wp_skip ?_
        refine in_normal ?_
        refine then_k hK ?_; clear hK; clear K
        refine region_list ?_
        refine list_pure E rfl rfl (by decide) (rn_add E rfl rfl rfl (by first | exact wa_lit (y := 1) (by omega) | exact w_in (by omega) | exact w_inu (by omega) | exact rfl)) ?_; clear E a; intro a E
        refine list_pure E rfl rfl (by decide) (rn_move E rfl rfl) ?_; clear E a; intro a E
        refine wpList_nil ?_
        refine then_normal ?_
        exact ⟨_, by omega, i + 1, rfl, by omega, fun j h => (by rcases Nat.lt_or_ge j i with c1 | c1; exact hm j c1; obtain rfl : j = i := (by omega); rw [List.getElem?_eq_getElem hib, List.getElem?_eq_getElem hib2, heq]), S, E.keep (keep_cons rfl (keep_cons rfl (keep_cons rfl (keep_cons rfl keep_nil))))⟩
    · replace hb := Nrm.nrm hb
      refine wp_exit ?_
      refine then_exit ?_; clear hK; clear K
      refine then_exit ?_
      refine in_exit ?_
      refine then_k hK ?_; clear hK; clear K
      refine wp_seq_k ?_; intro K hK
      refine region_list ?_
      refine list_pure E rfl rfl (by decide) (rn_assign E rfl rfl) ?_; clear E a; intro a E
      refine wpList_nil ?_
      refine then_k hK ?_; clear hK; clear K
      refine wp_ret ?_
      refine ret1 E rfl rfl ?_
      exact ⟨_, rfl, by rw [decide_eq_true]; exact List.ext_getElem? fun j => (by rcases Nat.lt_or_ge j i with c1 | c1; exact hm j c1; rw [List.getElem?_eq_none (by omega), List.getElem?_eq_none (by omega)]), S.tr⟩

theorem bnum_ret (pb p : Nat) (s : Rdr) (A : Chunk) (w0 : World) (hA : RdC 100 p s A) (k : Nat) (hk : k ≤ 6) (H : Hp w0 [[(pb, cel [ptr p] 79)], A]) :
    Ret Tryd.prog 36 #[ptr pb, .int .i64 k] w0 fun u w' => ∃ A', u = .int .i64 (s.num k).1 ∧ RdC 100 p (s.num k).2 A' ∧ Trs w0 w' [[(pb, cel [ptr p] 79)], A] [[(pb, cel [ptr p] 79)], A'] := by
  have S := St.begin H
  have hlt := num_lt s k
  have hp : 256 ^ k ≤ 256 ^ 6 := Nat.pow_le_pow_right (by omega) hk
  have e6 := p6
  refine enter2 12 Tryd.func36 rfl rfl (by decide) ?_; intro a E
  refine wp_seq_k ?_; intro K hK
  refine region_list ?_
  refine list_pure E rfl rfl (by decide) (rn_assign E rfl rfl) ?_; clear E a; intro a E
  refine wpList_nil ?_
  refine then_k hK ?_; clear hK; clear K
  refine wp_seq_k ?_; intro K hK
  refine region_list ?_
  refine list_pure E rfl rfl (by decide) (rn_move E rfl rfl) ?_; clear E a; intro a E
  refine list_pure E rfl rfl (by decide) (rn_nilCheck E rfl rfl) ?_; clear E a; intro a E
  refine list_pure E rfl rfl (by decide) (by first | exact rn_fieldAddr0 (q := 0) E rfl rfl rfl | exact rn_fieldAddr (q := 0) E rfl rfl rfl) ?_; clear E a; intro a E
  refine list_pure E rfl rfl (by decide) (by first | exact rn_load E rfl rfl rfl (S.get (by repeat (first | exact pk1 | apply pick_tail))) rfl | exact rn_loadc E rfl rfl rfl (by assumption)) ?_; clear E a; intro a E
  refine list_pure E rfl rfl (by decide) (rn_move E rfl rfl) ?_; clear E a; intro a E
  refine list_call E rfl rfl (by decide) rfl Tryd.func33 rfl (by kernel_rfl) rfl (rnum_ret p s A _ hA (S.hp.sel (sel_cons (by repeat (first | exact pk1 | apply pick_tail)) (sel_nil _))) k) ?_
  rintro v10 w ⟨A1, rfl, hA1, hT⟩; clear E a; intro a E
  have S := S.call1 (sel_cons (by repeat (first | exact pk1 | apply pick_tail)) (sel_nil _)) hT
  refine list_pure E rfl rfl (by decide) (by first | exact rn_convert E rfl rfl rfl rfl (by first | exact wu8 _ | exact w_nat (by omega) | exact w_natu (by omega) | exact w_in (by omega) | exact w_inu (by omega) | exact rfl) | exact rn_string E rfl rfl rfl rfl rfl (by assumption) (S.stab.at (by simp))) ?_; clear E a; intro a E
  refine list_pure E rfl rfl (by decide) (rn_assign E rfl rfl) ?_; clear E a; intro a E
  refine wpList_nil ?_
  refine then_k hK ?_; clear hK; clear K
  refine wp_ret ?_
  refine ret1 E rfl rfl ?_
  exact ⟨_, rfl, A1, rfl, hA1, (S.only (Bs := [[(pb, cel [ptr p] 79)], A1]) (sel_cons (by repeat (first | exact pk1 | apply pick_tail)) (sel_cons (by repeat (first | exact pk1 | apply pick_tail)) (sel_nil _)))).tr⟩

theorem opened_ret (D : Chunk) (v : Value) (b : List UInt8) (hD : Rd D 1 v b.length (byt b)) (hcap : ∃ ad c, v = .slice ad b.length c ∧ b.length ≤ c) (k : Nat) (hk : k < 256) (As : List Chunk) (hDA : D ∈ As) (hG : Tab As 2 shaK) (w0 : World) (H : Hp w0 As) :
    Ret Tryd.prog 35 #[v, .int .i64 k] w0 fun u w' => (opE b k ≠ 0 ∧ u = .tuple #[.pointer none, .int .i64 (opE b k)] ∧ Trs w0 w' As As) ∨ (opE b k = 0 ∧ 13 ≤ b.length ∧ b.length ≤ 65536 ∧ ∃ pb p A, u = .tuple #[ptr pb, .int .i64 0] ∧ RdC 100 p ⟨opX b, 1, 0⟩ A ∧ Trs w0 w' As ([(pb, cel [ptr p] 79)] :: A :: As)) := by
  obtain ⟨Rs, hp⟩ := mem_perm hDA
  have S := (St.begin H).perm hp
  have hG := hG.perm hp
  obtain ⟨ad, c, rfl, hc⟩ := hcap
  refine enter2 48 Tryd.func35 rfl rfl (by decide) ?_; intro a E
  refine wp_seq_k ?_; intro K hK
  refine region_list ?_
  refine list_pure E rfl rfl (by decide) (rn_assign E rfl rfl) ?_; clear E a; intro a E
  refine list_pure E rfl rfl (by decide) (rn_assign E rfl rfl) ?_; clear E a; intro a E
  refine wpList_nil ?_
  refine then_k hK ?_; clear hK; clear K
  refine wp_seq_k ?_; intro K hK
  refine wp_seq_k ?_; intro K hK
  refine wp_join (fun (a : Act) (w' : World) => ∃ bt : Bool, (bt = false ↔ 13 ≤ b.length ∧ b.length ≤ 65536) ∧ St w0 As w' (D :: Rs) ∧ Fr a 48 [(0, .slice ad b.length c), (1, .int .i64 k), (15, .bool bt)]) ?_ ?_
  · skip
    refine region_list ?_
    refine list_pure E rfl rfl (by decide) (rn_move E rfl rfl) ?_; clear E a; intro a E
    refine list_pure E rfl rfl (by decide) (by first | exact rn_len E rfl rfl rfl | exact rn_len_str E rfl rfl rfl | exact rn_len_string E rfl rfl rfl) ?_; clear E a; intro a E
    refine list_pure E rfl rfl (by decide) (rn_lss E rfl rfl rfl) ?_; clear E a; intro a E
    refine list_pure E rfl rfl (by decide) (rn_move E rfl rfl) ?_; clear E a; intro a E
    refine guard_split E (t := 11) rfl (fun hb11 => ?_) (fun hb11 => ?_)
    · have hb11n := hb11; replace hb11n := Nrm.nrm hb11n
      refine list_guard_no E rfl rfl rfl rfl hb11 rfl (by decide) ?_; clear E a; intro a E
      refine list_guard_no E rfl rfl rfl rfl hb11 rfl (by decide) ?_; clear E a; intro a E
      refine list_guard_no E rfl rfl rfl rfl hb11 rfl (by decide) ?_; clear E a; intro a E
      refine list_pure E rfl rfl (by decide) (rn_pick_yes' E rfl rfl hb11 rfl) ?_; clear E a; intro a E
      refine wpList_nil ?_
      refine joined_here ?_
      exact ⟨_, by simp; omega, S, E.keep (keep_cons rfl (keep_cons rfl (keep_cons rfl keep_nil)))⟩
    · have hb11n := hb11; replace hb11n := Nrm.nrm hb11n
      refine list_guard_yes E rfl rfl rfl rfl hb11 rfl (by decide) (rn_move E rfl rfl) ?_; clear E a; intro a E
      refine list_guard_yes E rfl rfl rfl rfl hb11 rfl (by decide) (by first | exact rn_len E rfl rfl rfl | exact rn_len_str E rfl rfl rfl | exact rn_len_string E rfl rfl rfl) ?_; clear E a; intro a E
      refine list_guard_yes E rfl rfl rfl rfl hb11 rfl (by decide) (rn_gtr E rfl rfl rfl) ?_; clear E a; intro a E
      refine list_pure E rfl rfl (by decide) (rn_pick_no' E rfl rfl hb11 rfl) ?_; clear E a; intro a E
      refine wpList_nil ?_
      refine joined_here ?_
      exact ⟨_, by simp; omega, S, E.keep (keep_cons rfl (keep_cons rfl (keep_cons rfl keep_nil)))⟩
  · clear E S a; intro a w J; obtain ⟨bt, hbt, S, E⟩ := J
    refine then_k hK ?_; clear hK; clear K
    refine if_bool E rfl (fun hb => ?_) (fun hb => ?_)
    · replace hb := Nrm.nrm hb
      have hE : opE b k = 230 := (by unfold opE; rw [if_pos (fun q => by rw [hbt.2 q] at hb; cases hb)])
      refine wp_seq_k ?_; intro K hK
      refine region_list ?_
      refine list_pure E rfl rfl (by decide) (rn_assign E rfl rfl) ?_; clear E a; intro a E
      refine list_pure E rfl rfl (by decide) (rn_assign E rfl rfl) ?_; clear E a; intro a E
      refine wpList_nil ?_
      refine then_k hK ?_; clear hK; clear K
      refine wp_ret ?_
      refine then_ret ?_; clear hK; clear K
      refine ret2 E rfl rfl rfl ?_
      exact ⟨_, rfl, .inl ⟨by rw [hE]; decide, by rw [hE], (S.perm hp.symm).tr⟩⟩
    · replace hb := Nrm.nrm hb
      have h13 := hbt.1 hb
      refine wp_skip ?_
      refine then_k hK ?_; clear hK; clear K
      refine wp_seq_k ?_; intro K hK
      refine wp_seq_k ?_; intro K hK
      obtain ⟨ad2, hs2, hR2⟩ := hD.cutc (lo := 0) (hi := 4) (by omega) (by omega) (by omega)
      have hl4 : (b.take 4).length = 4 := by rw [List.length_take]; omega
      rw [show ((byt b).drop (0 * 1)).take ((4 - 0) * 1) = byt (b.take 4) by simp [byt_take]] at hR2
      have hR2 : Rd D 1 (.slice ad2 (4 - 0) (c - 0)) (b.take 4).length (byt (b.take 4)) := by rw [hl4]; exact hR2
      have hXl := opX_length (b := b) h13.1
      refine region_list ?_
      refine list_pure E rfl rfl (by decide) (rn_move E rfl rfl) ?_; clear E a; intro a E
      refine list_pure E rfl rfl (by decide) (rn_slice_h (s := 1) (hi := 4) E rfl rfl rfl rfl rfl rfl (by omega)) ?_; clear E a; intro a E
      rw [hs2] at E
      refine list_call E rfl rfl (by decide) rfl Tryd.func32 rfl (by kernel_rfl) rfl (reader_ret D _ (b.take 4) _ hR2 (S.hp.sel (sel_cons (by repeat (first | exact pk1 | apply pick_tail)) (sel_nil _))) (by omega)) ?_
      rintro v18 w ⟨p, A, rfl, hA, hT⟩; clear E a; intro a E
      have S := S.call2 (sel_cons (by repeat (first | exact pk1 | apply pick_tail)) (sel_nil _)) hT
      refine list_call E rfl rfl (by decide) rfl Tryd.func33 rfl (by kernel_rfl) rfl (rnum_fit p (b.take 4) 0 A _ hA (S.hp.sel (sel_cons (by repeat (first | exact pk1 | apply pick_tail)) (sel_nil _))) 4 (by omega) (by omega) (by omega)) ?_
      rintro v19 w ⟨A1, rfl, hA1, hT⟩; clear E a; intro a E
      have S := S.call1 (sel_cons (by repeat (first | exact pk1 | apply pick_tail)) (sel_nil _)) hT; rw [show numOf (((b.take 4).drop 0).take 4) = nm b 0 4 by simp [nm, List.take_take]] at E
      refine list_pure E rfl rfl (by decide) (rn_move E rfl rfl) ?_; clear E a; intro a E
      refine list_pure E rfl rfl (by decide) (by first | exact rn_len E rfl rfl rfl | exact rn_len_str E rfl rfl rfl | exact rn_len_string E rfl rfl rfl) ?_; clear E a; intro a E
      refine list_pure E rfl rfl (by decide) (rn_sub E rfl rfl rfl (by first | exact ws_lit (y := 4) (by omega) (by omega) | exact w_in (by omega) | exact w_inu (by omega) | exact rfl)) ?_; clear E a; intro a E
      refine list_pure E rfl rfl (by decide) (by first | exact rn_convert E rfl rfl rfl rfl (by first | exact wu8 _ | exact w_nat (by omega) | exact w_natu (by omega) | exact w_in (by omega) | exact w_inu (by omega) | exact rfl) | exact rn_string E rfl rfl rfl rfl rfl (by assumption) (S.stab.at (by simp))) ?_; clear E a; intro a E
      refine list_pure E rfl rfl (by decide) (by first | exact rn_neq E rfl rfl rfl | exact rn_neq_ptr_nil E rfl rfl rfl rfl | exact rn_neq_bool E rfl rfl rfl rfl | exact rn_neq_string E rfl rfl rfl) ?_; clear E a; intro a E
      refine wpList_nil ?_
      refine then_k hK ?_; clear hK; clear K
      refine if_bool E rfl (fun hb => ?_) (fun hb => ?_)
      · replace hb := Nrm.nrm hb
        have hE : opE b k = 230 := (by unfold opE; rw [if_neg (fun q => q h13), if_pos (by omega)])
        refine wp_seq_k ?_; intro K hK
        refine region_list ?_
        refine list_pure E rfl rfl (by decide) (rn_assign E rfl rfl) ?_; clear E a; intro a E
        refine list_pure E rfl rfl (by decide) (rn_assign E rfl rfl) ?_; clear E a; intro a E
        refine wpList_nil ?_
        refine then_k hK ?_; clear hK; clear K
        refine wp_ret ?_
        refine then_ret ?_; clear hK; clear K
        refine ret2 E rfl rfl rfl ?_
        exact ⟨_, rfl, .inl ⟨by rw [hE]; decide, by rw [hE], ((S.front1 (A := D) (by repeat (first | exact pk1 | apply pick_tail))).del (A := A1) (by repeat (first | exact pk1 | apply pick_tail)) |>.perm hp.symm).tr⟩⟩
      · replace hb := Nrm.nrm hb
        have hn4 : nm b 0 4 = b.length - 4 := (by omega)
        refine wp_skip ?_
        refine then_k hK ?_; clear hK; clear K
        refine wp_seq_k ?_; intro K hK
        refine region_list ?_
        refine list_pure E rfl rfl (by decide) (rn_move E rfl rfl) ?_; clear E a; intro a E
        refine list_pure E rfl rfl (by decide) (by first | exact rn_len E rfl rfl rfl | exact rn_len_str E rfl rfl rfl | exact rn_len_string E rfl rfl rfl) ?_; clear E a; intro a E
        refine list_pure E rfl rfl (by decide) (rn_sub E rfl rfl rfl (by first | exact ws_lit (y := 8) (by omega) (by omega) | exact w_in (by omega) | exact w_inu (by omega) | exact rfl)) ?_; clear E a; intro a E
        refine list_pure E rfl rfl (by decide) (rn_assign E rfl rfl) ?_; clear E a; intro a E
        refine wpList_nil ?_
        refine then_k hK ?_; clear hK; clear K
        refine wp_seq_k ?_; intro K hK
        refine wp_seq_k ?_; intro K hK
        have S := (S.front1 (A := D) (by repeat (first | exact pk1 | apply pick_tail))).del (A := A1) (by repeat (first | exact pk1 | apply pick_tail))
        obtain ⟨ad3, hs3, hR3⟩ := hD.cutc (lo := 4) (hi := b.length - 8) (by omega) (by omega) (by omega)
        rw [show ((byt b).drop (4 * 1)).take ((b.length - 8 - 4) * 1) = byt (opX b) by rw [Nat.mul_one, Nat.mul_one, byt_drop, byt_take, opX, show b.length - 8 - 4 = b.length - 12 by omega], show b.length - 8 - 4 = (opX b).length by omega] at hR3
        rw [show b.length - 8 - 4 = (opX b).length by omega] at hs3
        obtain ⟨ad4, hs4, hR4⟩ := hD.cutc (lo := b.length - 8) (hi := b.length) (by omega) (by omega) (by omega)
        have hl8 : (b.drop (b.length - 8)).length = b.length - (b.length - 8) := List.length_drop
        rw [show ((byt b).drop ((b.length - 8) * 1)).take ((b.length - (b.length - 8)) * 1) = byt (b.drop (b.length - 8)) by rw [Nat.mul_one, Nat.mul_one, byt_drop, byt_take, List.take_of_length_le (by omega)], ← hl8] at hR4
        rw [← hl8] at hs4
        refine region_mix0 S (.ofL [(0, 0), (1, 0), (2, 0), (4, 0), (5, 0), (6, 0), (3, 1), (7, 3), (8, 2)]) (by kernel_rfl) (by kernel_rfl) ?_
        clear S; intro w S
        refine mix_pure E rfl rfl rfl (by decide) (fun w h => rn_move E rfl rfl) ?_; clear E a; intro a E
        refine mix_pure E rfl rfl rfl (by decide) (fun w h => rn_move E rfl rfl) ?_; clear E a; intro a E
        refine mix_pure E rfl rfl rfl (by decide) (fun w h => rn_slice_lh (s := 1) (lo := 4) (hi := b.length - 8) E rfl rfl rfl rfl rfl rfl rfl rfl (by omega) (by omega)) ?_; clear E a; intro a E
        rw [hs3] at E
        refine mix_pure E rfl rfl rfl (by decide) (fun w h => rn_move E rfl rfl) ?_; clear E a; intro a E
        refine mix_pure E rfl rfl rfl (by decide) (fun w h => rn_move E rfl rfl) ?_; clear E a; intro a E
        refine mix_pure E rfl rfl rfl (by decide) (fun w h => rn_slice_l (s := 1) (lo := b.length - 8) E rfl rfl rfl rfl rfl rfl (by omega)) ?_; clear E a; intro a E
        rw [hs4] at E
        refine mix_call E rfl rfl rfl (by decide) rfl Tryd.func52 rfl (by kernel_rfl) rfl (sum8_ret D _ (opX b) hR3 (by omega) _ (show D ∈ _ from (by repeat (first | exact mm1 | assumption | apply List.Mem.tail))) hG _ S.hp) ?_
        rintro v31 w ⟨g, rfl, hT⟩; clear E a; intro a E
        have S := S.all hT
        refine ⟨S.stab.sub (by first | (simp; done) | (simp +contextual; done)), ?_⟩
        refine mix_call3 E rfl rfl rfl (by decide) rfl Tryd.func63 rfl (by kernel_rfl) rfl (bequal_ret [(g, cel (byt (formOf (shaF (opX b)).a 8)) 5)] D _ _ (formOf (shaF (opX b)).a 8) (b.drop (b.length - 8)) (by have h := (buf_bytes g (formOf (shaF (opX b)).a 8) 5 (by rw [formOf_length]; omega)).rd; rw [formOf_length] at h ⊢; exact h) hR4 (by rw [formOf_length]; omega) _ (S.hp.sel (sel_cons (by repeat (first | exact pk1 | apply pick_tail)) (sel_cons (by repeat (first | exact pk1 | apply pick_tail)) (sel_nil _))))) ?_
        rintro v35 w ⟨rfl, hT⟩; clear E a; intro a E
        have S := S.call2 (sel_cons (by repeat (first | exact pk1 | apply pick_tail)) (sel_cons (by repeat (first | exact pk1 | apply pick_tail)) (sel_nil _))) hT
        refine mix_free E rfl rfl rfl (by decide) (fun w => rn_not E rfl rfl) ?_; clear E a; intro a E
        refine mix_nil ?_
        refine then_k hK ?_; clear hK; clear K
        refine if_bool E rfl (fun hb => ?_) (fun hb => ?_)
        · replace hb := Nrm.nrm hb
          have hE : opE b k = 231 := (by unfold opE; rw [if_neg (fun q => q h13), if_neg (by omega), if_pos (fun q => by rw [decide_eq_true q.symm] at hb; cases hb)])
          refine wp_seq_k ?_; intro K hK
          replace E := E.keep (e' := [(0, _), (1, _), (6, _)]) (keep_cons rfl (keep_cons rfl (keep_cons rfl (keep_nil))))
          refine region_list ?_
          refine list_pure E rfl rfl (by decide) (rn_assign E rfl rfl) ?_; clear E a; intro a E
          refine list_pure E rfl rfl (by decide) (rn_assign E rfl rfl) ?_; clear E a; intro a E
          refine wpList_nil ?_
          refine then_k hK ?_; clear hK; clear K
          refine wp_ret ?_
          refine then_ret ?_; clear hK; clear K
          refine ret2 E rfl rfl rfl ?_
          exact ⟨_, rfl, .inl ⟨by rw [hE]; decide, by rw [hE], ((S.del (A := [(g, _)]) (by repeat (first | exact pk1 | apply pick_tail))).perm hp.symm).tr⟩⟩
        · replace hb := Nrm.nrm hb
          have hsum : b.drop (b.length - 8) = formOf (shaF (opX b)).a 8 := (by have h : formOf (shaF (opX b)).a 8 = b.drop (b.length - 8) := (by simpa using hb); exact h.symm)
          refine wp_skip ?_
          refine then_k hK ?_; clear hK; clear K
          refine wp_seq_k ?_; intro K hK
          replace E := E.keep (e' := [(0, _), (1, _), (6, _)]) (keep_cons rfl (keep_cons rfl (keep_cons rfl (keep_nil))))
          have S := S.del (A := [(g, _)]) (by repeat (first | exact pk1 | apply pick_tail))
          refine region_list ?_
          refine list_pure E rfl rfl (by decide) (rn_move E rfl rfl) ?_; clear E a; intro a E
          refine list_pure E rfl rfl (by decide) (rn_move E rfl rfl) ?_; clear E a; intro a E
          refine list_pure E rfl rfl (by decide) (rn_slice_lh (s := 1) (lo := 4) (hi := b.length - 8) E rfl rfl rfl rfl rfl rfl rfl rfl (by omega) (by omega)) ?_; clear E a; intro a E
          rw [hs3] at E
          refine list_call E rfl rfl (by decide) rfl Tryd.func32 rfl (by kernel_rfl) rfl (reader_ret D _ (opX b) _ hR3 (S.hp.sel (sel_cons (by repeat (first | exact pk1 | apply pick_tail)) (sel_nil _))) (by omega)) ?_
          rintro v40 w ⟨p2, R, rfl, hR, hT⟩; clear E a; intro a E
          have S := S.call2 (sel_cons (by repeat (first | exact pk1 | apply pick_tail)) (sel_nil _)) hT
          refine list_pure E rfl rfl (by decide) (rn_build (cells := [_]) E rfl rfl rfl) ?_; clear E a; intro a E
          refine list_wp rfl (wp_box E S rfl rfl (by decide) rfl rfl ?_); clear E S a; intro a w b42 E S
          refine list_pure E rfl rfl (by decide) (rn_assign E rfl rfl) ?_; clear E a; intro a E
          refine wpList_nil ?_
          refine then_k hK ?_; clear hK; clear K
          refine wp_seq_k ?_; intro K hK
          refine wp_seq_k ?_; intro K hK
          refine region_list ?_
          refine list_pure E rfl rfl (by decide) (rn_move E rfl rfl) ?_; clear E a; intro a E
          refine list_call E rfl rfl (by decide) rfl Tryd.func36 rfl (by kernel_rfl) rfl (bnum_ret b42 p2 _ R _ hR 1 (by omega) (S.hp.sel (sel_cons (by repeat (first | exact pk1 | apply pick_tail)) (sel_cons (by repeat (first | exact pk1 | apply pick_tail)) (sel_nil _))))) ?_
          rintro v44 w ⟨R1, rfl, hR1, hT⟩; clear E a; intro a E
          have S := S.call2 (sel_cons (by repeat (first | exact pk1 | apply pick_tail)) (sel_cons (by repeat (first | exact pk1 | apply pick_tail)) (sel_nil _))) hT; rw [rnum_at (opX b) (q := 0) (k := 1) (by omega) (by omega) (by omega)] at E hR1
          refine list_pure E rfl rfl (by decide) (rn_move E rfl rfl) ?_; clear E a; intro a E
          refine list_pure E rfl rfl (by decide) (by first | exact rn_neq E rfl rfl rfl | exact rn_neq_ptr_nil E rfl rfl rfl rfl | exact rn_neq_bool E rfl rfl rfl rfl | exact rn_neq_string E rfl rfl rfl) ?_; clear E a; intro a E
          refine wpList_nil ?_
          refine then_k hK ?_; clear hK; clear K
          refine if_bool E rfl (fun hb => ?_) (fun hb => ?_)
          · replace hb := Nrm.nrm hb
            have hE : opE b k = 230 := (by unfold opE; rw [if_neg (fun q => q h13), if_neg (by omega), if_neg (fun q => q hsum), if_pos (by intro q; apply hb; show ((nm (opX b) 0 1 : Nat) : Int) = _; rw [q])])
            refine wp_seq_k ?_; intro K hK
            refine region_list ?_
            refine list_pure E rfl rfl (by decide) (rn_assign E rfl rfl) ?_; clear E a; intro a E
            refine list_pure E rfl rfl (by decide) (rn_assign E rfl rfl) ?_; clear E a; intro a E
            refine wpList_nil ?_
            refine then_k hK ?_; clear hK; clear K
            refine wp_ret ?_
            refine then_ret ?_; clear hK; clear K
            refine ret2 E rfl rfl rfl ?_
            exact ⟨_, rfl, .inl ⟨by rw [hE]; decide, by rw [hE], (((S.del (A := R1) (by repeat (first | exact pk1 | apply pick_tail))).del (A := [(b42, _)]) (by repeat (first | exact pk1 | apply pick_tail))).perm hp.symm).tr⟩⟩
          · replace hb := Nrm.nrm hb
            have hE : opE b k = 0 := (by unfold opE; rw [if_neg (fun q => q h13), if_neg (by omega), if_neg (fun q => q hsum), if_neg (fun q => q (by have h2 : ((nm (opX b) 0 1 : Nat) : Int) = (k : Int) := hb; omega))])
            refine wp_skip ?_
            refine then_k hK ?_; clear hK; clear K
            refine wp_seq_k ?_; intro K hK
            refine region_list ?_
            refine list_pure E rfl rfl (by decide) (rn_move E rfl rfl) ?_; clear E a; intro a E
            refine list_pure E rfl rfl (by decide) (rn_assign E rfl rfl) ?_; clear E a; intro a E
            refine list_pure E rfl rfl (by decide) (rn_assign E rfl rfl) ?_; clear E a; intro a E
            refine wpList_nil ?_
            refine then_k hK ?_; clear hK; clear K
            refine wp_ret ?_
            refine ret2 E rfl rfl rfl ?_
            exact ⟨_, rfl, .inr ⟨hE, h13.1, h13.2, b42, p2, R1, rfl, hR1, ((S.front2 (A := [(b42, _)]) (by repeat (first | exact pk1 | apply pick_tail)) (B := R1) (by repeat (first | exact pk1 | apply pick_tail))).perm ((hp.symm.cons _).cons _)).tr⟩⟩
end Go.Proofs.YtjhmjdgdgpgcdaaDoor
