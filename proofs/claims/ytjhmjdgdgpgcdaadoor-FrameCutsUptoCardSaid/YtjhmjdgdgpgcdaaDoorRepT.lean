/-
  Frames read by the document.
-/
import Derived.Test.YtjhmjdgdgpgcdaaDoorRepR
import Derived.Test.YtjhmjdgdgpgcdaaDoorRepD
import Derived.Test.YtjhmjdgdgpgcdaaDoorCodeU
namespace Go.Sl
theorem up_sT (c : UInt8) (s : Rdr) : ∀ n, sT (s.up c) n = (sT s n).up c
  | 0 => rfl
  | n + 1 => by show ((sT (s.up c) n).text 240).2 = _; rw [up_sT c s n, up_text]; rfl
theorem up_tT (c : UInt8) (s : Rdr) (n : Nat) : tT (s.up c) n = tT s n := by
  show ((sT (s.up c) n).text 240).1 = _; rw [up_sT, up_text]; rfl
theorem up_tL (c : UInt8) (s : Rdr) (n : Nat) : tL (s.up c) n = tL s n := by
  unfold tL; exact List.map_congr_left fun i _ => up_tT c s i
theorem up_dataD (c : UInt8) (s : Rdr) : dataD (s.up c) = ((dataD s).1, (dataD s).2.up c) := by
  unfold dataD; rw [up_num]; exact up_bytes _ _ _
theorem up_rqP (c : UInt8) (s : Rdr) : rqP dataD (s.up c) = ((rqP dataD s).1, (rqP dataD s).2.up c) := by
  simp only [rqP, up_num, up_sT, up_tT, up_dataD]
theorem up_rpP (c : UInt8) (s : Rdr) : rpP dataD (s.up c) = ((rpP dataD s).1, (rpP dataD s).2.up c) := by
  simp only [rpP, up_num, up_text, up_sT, up_tL, up_dataD]
theorem opX_up {b : List UInt8} (h : 13 ≤ b.length) : ∃ c, Rdr.mk (opX b) 1 0 = (Rdr.mk ((opX b).drop 1) 0 0).up c := by
  have hl := opX_length h
  match hx : opX b, hl with
  | [], hl => simp at hl; omega
  | c :: l, _ => exact ⟨c, rfl⟩
/-- Read from the body alone. -/
theorem rqP_body {b : List UInt8} (h : 13 ≤ b.length) : (rqP dataD ⟨opX b, 1, 0⟩).1 = (rqP dataD ⟨(opX b).drop 1, 0, 0⟩).1 ∧ (rqP dataD ⟨opX b, 1, 0⟩).2.done = (rqP dataD ⟨(opX b).drop 1, 0, 0⟩).2.done := by
  obtain ⟨c, hc⟩ := opX_up h
  rw [hc, up_rqP]
  exact ⟨rfl, up_done _ _⟩
theorem rpP_body {b : List UInt8} (h : 13 ≤ b.length) : (rpP dataD ⟨opX b, 1, 0⟩).1 = (rpP dataD ⟨(opX b).drop 1, 0, 0⟩).1 ∧ (rpP dataD ⟨opX b, 1, 0⟩).2.done = (rpP dataD ⟨(opX b).drop 1, 0, 0⟩).2.done := by
  obtain ⟨c, hc⟩ := opX_up h
  rw [hc, up_rpP]
  exact ⟨rfl, up_done _ _⟩
/-! ### The limit of the data -/
theorem bytes_over (s : Rdr) : (s.bytes (s.left + 1)).2.e ≠ 0 := by
  unfold Rdr.bytes Rdr.left
  by_cases h1 : s.e ≠ 0
  · rw [if_pos h1]; exact h1
  · rw [if_neg h1]
    by_cases h2 : (s.bs.length : Int) - s.at_ + 1 < 0
    · rw [if_pos h2]; simp
    · rw [if_neg h2, if_pos (by omega)]; simp
theorem bytes_len (s : Rdr) (n : Nat) (h : (s.bytes n).2.e = 0) : (s.bytes n).1.length = n := by
  revert h
  unfold Rdr.bytes
  by_cases h1 : s.e ≠ 0
  · rw [if_pos h1]; exact fun h => absurd h h1
  · rw [if_neg h1]
    by_cases h2 : (n : Int) < 0
    · omega
    · rw [if_neg h2]
      by_cases h3 : s.bs.length < s.at_ + (n : Int).toNat
      · rw [if_pos h3]; intro h; cases h
      · rw [if_neg h3]; intro _; exact s.cut_length _ _ (by omega)
theorem done_e {s : Rdr} (h : s.done = 0) : s.e = 0 := by
  unfold Rdr.done at h; split at h <;> omega
theorem data_two (most : Nat) (s : Rdr) : dataP most s = dataD s ∨ ((dataP most s).2.done ≠ 0 ∧ ((dataD s).2.done = 0 → most < (dataD s).1.length)) := by
  by_cases h : most < (s.num 2).1
  · refine .inr ⟨?_, fun hd => ?_⟩
    · unfold dataP; rw [if_pos h]; exact fun q => bytes_over _ (done_e q)
    · have := bytes_len (s.num 2).2 (s.num 2).1 (done_e hd)
      unfold dataD; omega
  · exact .inl (by unfold dataP dataD; rw [if_neg h])
theorem rqP_data (s0 : Rdr) : ∃ (s : Rdr) (g : List UInt8 → Rq), (∀ d, (g d).data = d) ∧ ∀ f, rqP f s0 = (g (f s).1, (f s).2) :=
  ⟨((((sT (((s0.num 1).2.num 4).2.num 1).2 4).num 6).2).num 6).2, fun d => ⟨(s0.num 1).1, ((s0.num 1).2.num 4).1, (((s0.num 1).2.num 4).2.num 1).1, tT (((s0.num 1).2.num 4).2.num 1).2 0, tT (((s0.num 1).2.num 4).2.num 1).2 1, tT (((s0.num 1).2.num 4).2.num 1).2 2, tT (((s0.num 1).2.num 4).2.num 1).2 3, ((sT (((s0.num 1).2.num 4).2.num 1).2 4).num 6).1, ((((sT (((s0.num 1).2.num 4).2.num 1).2 4).num 6).2).num 6).1, d⟩, fun _ => rfl, fun _ => by simp only [rqP]⟩
theorem rpP_data (s0 : Rdr) : ∃ (s : Rdr) (g : List UInt8 → Rp), (∀ d, (g d).data = d) ∧ ∀ f, rpP f s0 = (g (f s).1, (f s).2) := by
  obtain ⟨z, hz⟩ : ∃ z, z = ((((s0.num 1).2.num 4).2.num 2).2.num 6).2.text 2048 := ⟨_, rfl⟩
  refine ⟨sT (z.2.num 2).2 (min (z.2.num 2).1 241), fun d => ⟨(s0.num 1).1, ((s0.num 1).2.num 4).1, (((s0.num 1).2.num 4).2.num 2).1, ((((s0.num 1).2.num 4).2.num 2).2.num 6).1, z.1, tL (z.2.num 2).2 (min (z.2.num 2).1 241), d⟩, fun _ => rfl, fun _ => ?_⟩
  simp only [rpP, ← hz]
theorem rqF_two (b : List UInt8) : rqF (dataP 2048) b = rqF dataD b := by
  unfold rqF
  split
  · rfl
  · obtain ⟨s, g, hg⟩ := rqP_data ⟨opX b, 1, 0⟩
    rw [hg.2, hg.2]
    rcases data_two 2048 s with h | ⟨h1, h2⟩
    · rw [h]
    · rw [if_neg (fun q => h1 q.1), if_neg]
      rintro ⟨q1, q2⟩
      have := h2 q1
      have h3 : (g (dataD s).1).data.length ≤ 2048 := q2.2.2.2.2.2.2.2.2.2.2.2.2.2.2
      rw [hg.1] at h3
      omega
theorem rpF_two (b : List UInt8) : rpF (dataP 4096) b = rpF dataD b := by
  unfold rpF
  split
  · rfl
  · obtain ⟨s, g, hg⟩ := rpP_data ⟨opX b, 1, 0⟩
    rw [hg.2, hg.2]
    rcases data_two 4096 s with h | ⟨h1, h2⟩
    · rw [h]
    · rw [if_neg (fun q => h1 q.1), if_neg]
      rintro ⟨q1, q2⟩
      have := h2 q1
      have h3 : (g (dataD s).1).data.length ≤ 4096 := q2.2.2.2.2.2.2.2.2.2.2.2
      rw [hg.1] at h3
      omega
/-! ### A frame is one -/
theorem frm_opX {b : List UInt8} (h : 13 ≤ b.length) (hn : nm b 0 4 = b.length - 4) : frm (opX b) = b ↔ b.drop (b.length - 8) = formOf (shaF (opX b)).a 8 := by
  have hl := opX_length h
  have h4 : b.take 4 = formOf (b.length - 4) 4 := by
    rw [← hn]
    have := form_num (b.take 4)
    rw [List.length_take, Nat.min_eq_left (by omega)] at this
    rw [nm, List.drop_zero]; exact this.symm
  have hb : b = formOf (b.length - 4) 4 ++ opX b ++ b.drop (b.length - 8) := by
    rw [← h4, opX]
    conv => lhs; rw [← List.take_append_drop 4 b, ← List.take_append_drop (b.length - 12) (b.drop 4), List.drop_drop]
    rw [show 4 + (b.length - 12) = b.length - 8 by omega, List.append_assoc]
  have hf : frm (opX b) = formOf (b.length - 4) 4 ++ opX b ++ formOf (shaF (opX b)).a 8 := by
    rw [frm, hl, show b.length - 12 + 8 = b.length - 4 by omega]
  rw [hf]
  constructor
  · intro e
    have e2 := congrArg (List.drop (b.length - 8)) e
    rw [List.drop_left' (by rw [List.length_append, formOf_length, hl]; omega)] at e2
    exact e2.symm
  · intro e; rw [← e]; exact hb.symm
theorem nm4 : ∀ (b : List UInt8) (h : 4 ≤ b.length), nm b 0 4 = (b[0]'(by omega)).toNat + 256 * ((b[1]'(by omega)).toNat + 256 * ((b[2]'(by omega)).toNat + 256 * (b[3]'(by omega)).toNat))
  | a :: b :: c :: d :: r, _ => by simp [nm, numOf]
theorem opX_head {b : List UInt8} (h : 13 ≤ b.length) : opX b = (b[4]'(by omega)) :: (b.drop 5).take (b.length - 13) := by
  unfold opX
  rw [List.drop_eq_getElem_cons (show 4 < b.length by omega), show b.length - 12 = (b.length - 13) + 1 by omega, List.take_succ_cons]
theorem St.callnew {w0 w w' : World} {X Ls : List Chunk} {A L : Chunk} (S : St w0 X w Ls) (h : L ∈ Ls) (t : Trs w w' [L] [A, L]) : St w0 X w' (A :: Ls) := by
  obtain ⟨Rs, hp⟩ := mem_perm h
  exact ((S.perm hp).call2 (sel_cons pk1 (sel_nil _)) t).perm (hp.symm.cons _)
end Go.Sl
namespace Go.Proofs.YtjhmjdgdgpgcdaaDoor
open Go.Sl
set_option maxRecDepth 10000

theorem dnum_ret (p : Nat) (s : Rdr) (A : Chunk) (w0 : World) (hA : RdC 121 p s A) (k : Nat) (hk : k ≤ 6) (H : Hp w0 [A]) :
    Ret Tryd.prog 70 #[ptr p, .int .i64 k] w0 fun u w' => ∃ A', u = .int .i64 (s.num k).1 ∧ RdC 121 p (s.num k).2 A' ∧ Trs w0 w' [A] [A'] := by
  have S := St.begin H
  have hlt := num_lt s k
  have hp : 256 ^ k ≤ 256 ^ 6 := Nat.pow_le_pow_right (by omega) hk
  have e6 := p6
  refine enter2 11 Tryd.func70 rfl rfl (by decide) ?_; intro a E
  refine wp_seq_k ?_; intro K hK
  refine region_list ?_
  refine list_pure E rfl rfl (by decide) (rn_assign E rfl rfl) ?_; clear E a; intro a E
  refine wpList_nil ?_
  refine then_k hK ?_; clear hK; clear K
  refine wp_seq_k ?_; intro K hK
  refine region_list ?_
  refine list_pure E rfl rfl (by decide) (rn_move E rfl rfl) ?_; clear E a; intro a E
  refine list_pure E rfl rfl (by decide) (rn_move E rfl rfl) ?_; clear E a; intro a E
  refine list_call E rfl rfl (by decide) rfl Tryd.func86 rfl (by kernel_rfl) rfl (unum_ret p s A _ hA (S.hp.sel (sel_cons (by repeat (first | exact pk1 | apply pick_tail)) (sel_nil _))) k) ?_
  rintro v8 w ⟨A1, rfl, hA1, hT⟩; clear E a; intro a E
  have S := S.call1 (sel_cons (by repeat (first | exact pk1 | apply pick_tail)) (sel_nil _)) hT
  refine list_pure E rfl rfl (by decide) (rn_assign E rfl rfl) ?_; clear E a; intro a E
  refine wpList_nil ?_
  refine then_k hK ?_; clear hK; clear K
  refine wp_seq_k ?_; intro K hK
  refine region_list ?_
  refine list_pure E rfl rfl (by decide) (rn_move E rfl rfl) ?_; clear E a; intro a E
  refine list_pure E rfl rfl (by decide) (by first | exact rn_convert E rfl rfl rfl rfl (by first | exact wu8 _ | exact w_nat (by omega) | exact w_natu (by omega) | exact w_in (by omega) | exact w_inu (by omega) | exact rfl) | exact rn_string E rfl rfl rfl rfl rfl (by assumption) (S.stab.at (by simp))) ?_; clear E a; intro a E
  refine list_pure E rfl rfl (by decide) (rn_assign E rfl rfl) ?_; clear E a; intro a E
  refine wpList_nil ?_
  refine then_k hK ?_; clear hK; clear K
  refine wp_ret ?_
  refine ret1 E rfl rfl ?_
  exact ⟨_, rfl, A1, rfl, hA1, S.tr⟩

theorem dbody_ret (D : Chunk) (v : Value) (b : List UInt8) (hD : Rd D 1 v b.length (byt b)) (hcap : ∃ ad c, v = .slice ad b.length c ∧ b.length ≤ c) (k : Nat) (hk : k < 256) (As : List Chunk) (hDA : D ∈ As) (hG0 : Tab As 0 sha0.l) (hG1 : Tab As 1 shaK) (w0 : World) (H : Hp w0 As) :
    Ret Tryd.prog 69 #[v, .int .i64 k] w0 fun u w' => (opE b k ≠ 0 ∧ u = .tuple #[.pointer none, .int .i64 (opE b k)] ∧ Trs w0 w' As As) ∨ (opE b k = 0 ∧ 13 ≤ b.length ∧ b.length ≤ 65536 ∧ ∃ p A, u = .tuple #[ptr p, .int .i64 0] ∧ RdC 121 p ⟨(opX b).drop 1, 0, 0⟩ A ∧ Trs w0 w' As (A :: As)) := by
  have S := St.begin H
  obtain ⟨ad, c, rfl, hc⟩ := hcap
  refine enter2 70 Tryd.func69 rfl rfl (by decide) ?_; intro a E
  refine wp_seq_k ?_; intro K hK
  refine region_list ?_
  refine list_pure E rfl rfl (by decide) (rn_assign E rfl rfl) ?_; clear E a; intro a E
  refine list_pure E rfl rfl (by decide) (rn_assign E rfl rfl) ?_; clear E a; intro a E
  refine wpList_nil ?_
  refine then_k hK ?_; clear hK; clear K
  refine wp_seq_k ?_; intro K hK
  refine wp_seq_k ?_; intro K hK
  refine wp_join (fun (a : Act) (w' : World) => ∃ bt : Bool, (bt = false ↔ 13 ≤ b.length ∧ b.length ≤ 65536) ∧ St w0 As w' As ∧ Fr a 70 [(0, .slice ad b.length c), (1, .int .i64 k), (15, .bool bt)]) ?_ ?_
  · skip
    refine region_list ?_
    refine list_pure E rfl rfl (by decide) (rn_move E rfl rfl) ?_; clear E a; intro a E
    refine list_pure E rfl rfl (by decide) (by first | exact rn_len E rfl rfl rfl | exact rn_len_str E rfl rfl rfl | exact rn_len_string E rfl rfl rfl) ?_; clear E a; intro a E
    refine list_pure E rfl rfl (by decide) (rn_lss E rfl rfl rfl) ?_; clear E a; intro a E
    refine list_pure E rfl rfl (by decide) (rn_move E rfl rfl) ?_; clear E a; intro a E
    refine guard_split E (t := 11) rfl (fun hb11 => ?_) (fun hb11 => ?_)
    · have hb11n := hb11; replace hb11n := Nrm.nrm hb11n
      refine list_guard_no E rfl rfl rfl rfl hb11 rfl (by decide) ?_; clear E a; intro a E
      refine list_guard_no E rfl rfl rfl rfl hb11 rfl (by decide) ?_; clear E a; intro a E
      refine list_guard_no E rfl rfl rfl rfl hb11 rfl (by decide) ?_; clear E a; intro a E
      refine list_pure E rfl rfl (by decide) (rn_pick_yes' E rfl rfl hb11 rfl) ?_; clear E a; intro a E
      refine wpList_nil ?_
      refine joined_here ?_
      exact ⟨_, by simp; omega, S, E.keep (keep_cons rfl (keep_cons rfl (keep_cons rfl keep_nil)))⟩
    · have hb11n := hb11; replace hb11n := Nrm.nrm hb11n
      refine list_guard_yes E rfl rfl rfl rfl hb11 rfl (by decide) (rn_move E rfl rfl) ?_; clear E a; intro a E
      refine list_guard_yes E rfl rfl rfl rfl hb11 rfl (by decide) (by first | exact rn_len E rfl rfl rfl | exact rn_len_str E rfl rfl rfl | exact rn_len_string E rfl rfl rfl) ?_; clear E a; intro a E
      refine list_guard_yes E rfl rfl rfl rfl hb11 rfl (by decide) (rn_gtr E rfl rfl rfl) ?_; clear E a; intro a E
      refine list_pure E rfl rfl (by decide) (rn_pick_no' E rfl rfl hb11 rfl) ?_; clear E a; intro a E
      refine wpList_nil ?_
      refine joined_here ?_
      exact ⟨_, by simp; omega, S, E.keep (keep_cons rfl (keep_cons rfl (keep_cons rfl keep_nil)))⟩
  · clear E S a; intro a w J; obtain ⟨bt, hbt, S, E⟩ := J
    refine then_k hK ?_; clear hK; clear K
    refine if_bool E rfl (fun hb => ?_) (fun hb => ?_)
    · replace hb := Nrm.nrm hb
      have hE : opE b k = 230 := (by unfold opE; rw [if_pos (fun q => by rw [hbt.2 q] at hb; cases hb)])
      refine wp_seq_k ?_; intro K hK
      refine region_list ?_
      refine list_pure E rfl rfl (by decide) (rn_assign E rfl rfl) ?_; clear E a; intro a E
      refine list_pure E rfl rfl (by decide) (rn_assign E rfl rfl) ?_; clear E a; intro a E
      refine wpList_nil ?_
      refine then_k hK ?_; clear hK; clear K
      refine wp_ret ?_
      refine then_ret ?_; clear hK; clear K
      refine ret2 E rfl rfl rfl ?_
      exact ⟨_, rfl, .inl ⟨by rw [hE]; decide, by rw [hE], S.tr⟩⟩
    · replace hb := Nrm.nrm hb
      have h13 := hbt.1 hb
      refine wp_skip ?_
      refine then_k hK ?_; clear hK; clear K
      refine wp_seq_k ?_; intro K hK
      obtain ⟨g, off, rfl⟩ := hD.addr (by omega)
      have l0 := (b[0]'(by omega)).toNat_lt
      have l1 := (b[1]'(by omega)).toNat_lt
      have l2 := (b[2]'(by omega)).toNat_lt
      have l3 := (b[3]'(by omega)).toNat_lt
      have l4 := (b[4]'(by omega)).toNat_lt
      refine region_mix0 S (.ofL [(0, 0), (1, 0), (2, 0), (3, 0), (4, 0), (5, 0), (6, 0), (7, 0), (8, 0), (9, 0), (10, 0), (11, 0), (12, 0), (13, 0), (14, 0), (15, 0), (16, 0), (17, 0), (18, 0), (19, 0), (20, 0), (21, 0), (22, 0)]) (by kernel_rfl) (by kernel_rfl) ?_
      clear S; intro w S
      refine mix_pure E rfl rfl rfl (by decide) (fun w h => rn_move E rfl rfl) ?_; clear E a; intro a E
      refine mix_pure E rfl rfl rfl (by decide) (fun w h => rn_indexAddr1 (i := 0) E rfl rfl rfl rfl rfl rfl (by omega)) ?_; clear E a; intro a E
      refine mix_pure E rfl rfl rfl (by decide) (fun w h => rn_loadc E rfl rfl rfl (hD.byte (h.at hDA) (show 0 < b.length by omega))) ?_; clear E a; intro a E
      refine mix_pure E rfl rfl rfl (by decide) (fun w h => by first | exact rn_convert E rfl rfl rfl rfl (by first | exact wu8 _ | exact w_nat (by omega) | exact w_natu (by omega) | exact w_in (by omega) | exact w_inu (by omega) | exact rfl) | exact rn_string E rfl rfl rfl rfl rfl (by assumption) (S.stab.at (by simp))) ?_; clear E a; intro a E
      refine mix_pure E rfl rfl rfl (by decide) (fun w h => rn_move E rfl rfl) ?_; clear E a; intro a E
      refine mix_pure E rfl rfl rfl (by decide) (fun w h => rn_indexAddr1 (i := 1) E rfl rfl rfl rfl rfl rfl (by omega)) ?_; clear E a; intro a E
      refine mix_pure E rfl rfl rfl (by decide) (fun w h => rn_loadc E rfl rfl rfl (hD.byte (h.at hDA) (show 1 < b.length by omega))) ?_; clear E a; intro a E
      refine mix_pure E rfl rfl rfl (by decide) (fun w h => by first | exact rn_convert E rfl rfl rfl rfl (by first | exact wu8 _ | exact w_nat (by omega) | exact w_natu (by omega) | exact w_in (by omega) | exact w_inu (by omega) | exact rfl) | exact rn_string E rfl rfl rfl rfl rfl (by assumption) (S.stab.at (by simp))) ?_; clear E a; intro a E
      refine mix_pure E rfl rfl rfl (by decide) (fun w h => rn_move E rfl rfl) ?_; clear E a; intro a E
      refine mix_pure E rfl rfl rfl (by decide) (fun w h => rn_indexAddr1 (i := 2) E rfl rfl rfl rfl rfl rfl (by omega)) ?_; clear E a; intro a E
      refine mix_pure E rfl rfl rfl (by decide) (fun w h => rn_loadc E rfl rfl rfl (hD.byte (h.at hDA) (show 2 < b.length by omega))) ?_; clear E a; intro a E
      refine mix_pure E rfl rfl rfl (by decide) (fun w h => by first | exact rn_convert E rfl rfl rfl rfl (by first | exact wu8 _ | exact w_nat (by omega) | exact w_natu (by omega) | exact w_in (by omega) | exact w_inu (by omega) | exact rfl) | exact rn_string E rfl rfl rfl rfl rfl (by assumption) (S.stab.at (by simp))) ?_; clear E a; intro a E
      refine mix_pure E rfl rfl rfl (by decide) (fun w h => rn_move E rfl rfl) ?_; clear E a; intro a E
      refine mix_pure E rfl rfl rfl (by decide) (fun w h => rn_indexAddr1 (i := 3) E rfl rfl rfl rfl rfl rfl (by omega)) ?_; clear E a; intro a E
      refine mix_pure E rfl rfl rfl (by decide) (fun w h => rn_loadc E rfl rfl rfl (hD.byte (h.at hDA) (show 3 < b.length by omega))) ?_; clear E a; intro a E
      refine mix_pure E rfl rfl rfl (by decide) (fun w h => by first | exact rn_convert E rfl rfl rfl rfl (by first | exact wu8 _ | exact w_nat (by omega) | exact w_natu (by omega) | exact w_in (by omega) | exact w_inu (by omega) | exact rfl) | exact rn_string E rfl rfl rfl rfl rfl (by assumption) (S.stab.at (by simp))) ?_; clear E a; intro a E
      refine mix_pure E rfl rfl rfl (by decide) (fun w h => rn_mul E rfl rfl rfl (by first | exact wm_lit (x := 256) (by omega) | exact wm_litu (x := 256) (by omega) | exact w_in (by omega) | exact rfl)) ?_; clear E a; intro a E
      refine mix_pure E rfl rfl rfl (by decide) (fun w h => rn_add E rfl rfl rfl (by first | exact wa1 (by omega) | exact w_in (by omega) | exact w_inu (by omega) | exact rfl)) ?_; clear E a; intro a E
      refine mix_pure E rfl rfl rfl (by decide) (fun w h => rn_mul E rfl rfl rfl (by first | exact wm_lit (x := 256) (by omega) | exact wm_litu (x := 256) (by omega) | exact w_in (by omega) | exact rfl)) ?_; clear E a; intro a E
      refine mix_pure E rfl rfl rfl (by decide) (fun w h => rn_add E rfl rfl rfl (by first | exact wa1 (by omega) | exact w_in (by omega) | exact w_inu (by omega) | exact rfl)) ?_; clear E a; intro a E
      refine mix_pure E rfl rfl rfl (by decide) (fun w h => rn_mul E rfl rfl rfl (by first | exact wm_lit (x := 256) (by omega) | exact wm_litu (x := 256) (by omega) | exact w_in (by omega) | exact rfl)) ?_; clear E a; intro a E
      refine mix_pure E rfl rfl rfl (by decide) (fun w h => rn_add E rfl rfl rfl (by first | exact wa1 (by omega) | exact w_in (by omega) | exact w_inu (by omega) | exact rfl)) ?_; clear E a; intro a E
      refine mix_pure E rfl rfl rfl (by decide) (fun w h => rn_assign E rfl rfl) ?_; clear E a; intro a E
      refine mix_nil ?_
      refine then_k hK ?_; clear hK; clear K
      refine wp_seq_k ?_; intro K hK
      refine wp_seq_k ?_; intro K hK
      replace E := E.keep (e' := [(0, _), (1, _), (6, _)]) (keep_cons rfl (keep_cons rfl (keep_cons rfl (keep_nil))))
      have hn4 := nm4 b (by omega)
      refine region_list ?_
      refine list_pure E rfl rfl (by decide) (rn_move E rfl rfl) ?_; clear E a; intro a E
      refine list_pure E rfl rfl (by decide) (rn_move E rfl rfl) ?_; clear E a; intro a E
      refine list_pure E rfl rfl (by decide) (by first | exact rn_len E rfl rfl rfl | exact rn_len_str E rfl rfl rfl | exact rn_len_string E rfl rfl rfl) ?_; clear E a; intro a E
      refine list_pure E rfl rfl (by decide) (rn_sub E rfl rfl rfl (by first | exact ws_lit (y := 4) (by omega) (by omega) | exact w_in (by omega) | exact w_inu (by omega) | exact rfl)) ?_; clear E a; intro a E
      refine list_pure E rfl rfl (by decide) (by first | exact rn_neq E rfl rfl rfl | exact rn_neq_ptr_nil E rfl rfl rfl rfl | exact rn_neq_bool E rfl rfl rfl rfl | exact rn_neq_string E rfl rfl rfl) ?_; clear E a; intro a E
      refine wpList_nil ?_
      refine then_k hK ?_; clear hK; clear K
      refine if_bool E rfl (fun hb => ?_) (fun hb => ?_)
      · replace hb := Nrm.nrm hb
        have hE : opE b k = 230 := (by unfold opE; rw [if_neg (fun q => q h13), if_pos (by omega)])
        refine wp_seq_k ?_; intro K hK
        refine region_list ?_
        refine list_pure E rfl rfl (by decide) (rn_assign E rfl rfl) ?_; clear E a; intro a E
        refine list_pure E rfl rfl (by decide) (rn_assign E rfl rfl) ?_; clear E a; intro a E
        refine wpList_nil ?_
        refine then_k hK ?_; clear hK; clear K
        refine wp_ret ?_
        refine then_ret ?_; clear hK; clear K
        refine ret2 E rfl rfl rfl ?_
        exact ⟨_, rfl, .inl ⟨by rw [hE]; decide, by rw [hE], S.tr⟩⟩
      · replace hb := Nrm.nrm hb
        have hnn : nm b 0 4 = b.length - 4 := (by omega)
        refine wp_skip ?_
        refine then_k hK ?_; clear hK; clear K
        refine wp_seq_k ?_; intro K hK
        obtain ⟨ad5, hs5, hR5⟩ := hD.cutc (lo := 5) (hi := b.length - 8) (by omega) (by omega) (by omega)
        have hox := opX_head h13.1
        obtain ⟨x, hx⟩ : ∃ x, x = (b.drop 5).take (b.length - 13) := ⟨_, rfl⟩
        have hxl : x.length = b.length - 8 - 5 := by rw [hx, List.length_take, List.length_drop]; omega
        rw [show ((byt b).drop (5 * 1)).take ((b.length - 8 - 5) * 1) = byt x by rw [Nat.mul_one, Nat.mul_one, byt_drop, byt_take, hx, show b.length - 8 - 5 = b.length - 13 by omega], ← hxl] at hR5
        rw [← hxl] at hs5
        rw [← hx] at hox
        have hfx := frm_opX h13.1 hnn
        refine region_mix0 S (.ofL [(0, 0), (1, 0), (2, 0), (3, 0), (4, 0), (5, 0), (6, 0), (7, 0), (8, 0), (9, 3), (10, 2)]) (by kernel_rfl) (by kernel_rfl) ?_
        clear S; intro w S
        refine mix_pure E rfl rfl rfl (by decide) (fun w h => rn_move E rfl rfl) ?_; clear E a; intro a E
        refine mix_pure E rfl rfl rfl (by decide) (fun w h => rn_indexAddr1 (i := 4) E rfl rfl rfl rfl rfl rfl (by omega)) ?_; clear E a; intro a E
        refine mix_pure E rfl rfl rfl (by decide) (fun w h => rn_loadc E rfl rfl rfl (hD.byte (h.at hDA) (show 4 < b.length by omega))) ?_; clear E a; intro a E
        refine mix_pure E rfl rfl rfl (by decide) (fun w h => by first | exact rn_convert E rfl rfl rfl rfl (by first | exact wu8 _ | exact w_nat (by omega) | exact w_natu (by omega) | exact w_in (by omega) | exact w_inu (by omega) | exact rfl) | exact rn_string E rfl rfl rfl rfl rfl (by assumption) (S.stab.at (by simp))) ?_; clear E a; intro a E
        refine mix_pure E rfl rfl rfl (by decide) (fun w h => rn_move E rfl rfl) ?_; clear E a; intro a E
        refine mix_pure E rfl rfl rfl (by decide) (fun w h => rn_move E rfl rfl) ?_; clear E a; intro a E
        refine mix_pure E rfl rfl rfl (by decide) (fun w h => by first | exact rn_len E rfl rfl rfl | exact rn_len_str E rfl rfl rfl | exact rn_len_string E rfl rfl rfl) ?_; clear E a; intro a E
        refine mix_pure E rfl rfl rfl (by decide) (fun w h => rn_sub E rfl rfl rfl (by first | exact ws_lit (y := 8) (by omega) (by omega) | exact w_in (by omega) | exact w_inu (by omega) | exact rfl)) ?_; clear E a; intro a E
        refine mix_pure E rfl rfl rfl (by decide) (fun w h => rn_slice_lh (s := 1) (lo := 5) (hi := b.length - 8) E rfl rfl rfl rfl rfl rfl rfl rfl (by omega) (by omega)) ?_; clear E a; intro a E
        rw [hs5] at E
        refine mix_call3 E rfl rfl rfl (by decide) rfl Tryd.func23 rfl (by kernel_rfl) rfl (dframed_ret (b[4]'(by omega)).toNat (by omega) D _ x hR5 (by omega) _ (show D ∈ _ from (by repeat (first | exact mm1 | assumption | apply List.Mem.tail))) hG0 hG1 _ S.hp) ?_
        rintro v52 w ⟨C, hC, hT⟩; clear E a; intro a E
        have S := S.all hT
        rw [UInt8.ofNat_toNat, ← hox] at hC
        obtain ⟨adf, cf, rfl⟩ := hC.slice
        refine mix_free E rfl rfl rfl (by decide) (fun w => rn_assign E rfl rfl) ?_; clear E a; intro a E
        refine mix_nil ?_
        refine then_k hK ?_; clear hK; clear K
        refine wp_seq_k ?_; intro K hK
        refine wp_seq_k ?_; intro K hK
        refine region_list ?_
        refine list_pure E rfl rfl (by decide) (rn_move E rfl rfl) ?_; clear E a; intro a E
        refine list_pure E rfl rfl (by decide) (rn_string E rfl rfl rfl rfl rfl (bs := frm (opX b)) hC.rd (S.stab.at (by repeat (first | exact mm1 | assumption | apply List.Mem.tail)))) ?_; clear E a; intro a E
        refine list_pure E rfl rfl (by decide) (rn_move E rfl rfl) ?_; clear E a; intro a E
        refine list_pure E rfl rfl (by decide) (rn_string E rfl rfl rfl rfl rfl (bs := b) hD (S.stab.at (by repeat (first | exact mm1 | assumption | apply List.Mem.tail)))) ?_; clear E a; intro a E
        refine list_pure E rfl rfl (by decide) (by first | exact rn_neq E rfl rfl rfl | exact rn_neq_ptr_nil E rfl rfl rfl rfl | exact rn_neq_bool E rfl rfl rfl rfl | exact rn_neq_string E rfl rfl rfl) ?_; clear E a; intro a E
        refine wpList_nil ?_
        refine then_k hK ?_; clear hK; clear K
        refine if_bool E rfl (fun hb => ?_) (fun hb => ?_)
        · replace hb := Nrm.nrm hb
          have hE : opE b k = 231 := (by unfold opE; rw [if_neg (fun q => q h13), if_neg (by omega), if_pos (fun q => (show ¬ frm (opX b) = b by simpa using hb) (hfx.2 q))])
          refine wp_seq_k ?_; intro K hK
          replace E := E.keep (e' := [(0, _), (1, _)]) (keep_cons rfl (keep_cons rfl (keep_nil)))
          refine region_list ?_
          refine list_pure E rfl rfl (by decide) (rn_assign E rfl rfl) ?_; clear E a; intro a E
          refine list_pure E rfl rfl (by decide) (rn_assign E rfl rfl) ?_; clear E a; intro a E
          refine wpList_nil ?_
          refine then_k hK ?_; clear hK; clear K
          refine wp_ret ?_
          refine then_ret ?_; clear hK; clear K
          refine ret2 E rfl rfl rfl ?_
          exact ⟨_, rfl, .inl ⟨by rw [hE]; decide, by rw [hE], S.tail.tr⟩⟩
        · replace hb := Nrm.nrm hb
          have hsum := hfx.1 (show frm (opX b) = b by simpa using hb)
          refine wp_skip ?_
          refine then_k hK ?_; clear hK; clear K
          refine wp_seq_k ?_; intro K hK
          refine wp_seq_k ?_; intro K hK
          replace E := E.keep (e' := [(0, _), (1, _)]) (keep_cons rfl (keep_cons rfl (keep_nil)))
          refine region_list ?_
          refine list_pure E rfl rfl (by decide) (rn_move E rfl rfl) ?_; clear E a; intro a E
          refine list_pure E rfl rfl (by decide) (rn_indexAddr1 (i := 4) E rfl rfl rfl rfl rfl rfl (by omega)) ?_; clear E a; intro a E
          refine list_pure E rfl rfl (by decide) (rn_loadc E rfl rfl rfl (hD.byte (S.stab.at (by repeat (first | exact mm1 | assumption | apply List.Mem.tail))) (show 4 < b.length by omega))) ?_; clear E a; intro a E
          refine list_pure E rfl rfl (by decide) (by first | exact rn_convert E rfl rfl rfl rfl (by first | exact wu8 _ | exact w_nat (by omega) | exact w_natu (by omega) | exact w_in (by omega) | exact w_inu (by omega) | exact rfl) | exact rn_string E rfl rfl rfl rfl rfl (by assumption) (S.stab.at (by simp))) ?_; clear E a; intro a E
          refine list_pure E rfl rfl (by decide) (rn_move E rfl rfl) ?_; clear E a; intro a E
          refine list_pure E rfl rfl (by decide) (by first | exact rn_neq E rfl rfl rfl | exact rn_neq_ptr_nil E rfl rfl rfl rfl | exact rn_neq_bool E rfl rfl rfl rfl | exact rn_neq_string E rfl rfl rfl) ?_; clear E a; intro a E
          refine wpList_nil ?_
          have hk1 : nm (opX b) 0 1 = (b[4]'(by omega)).toNat := by rw [hox]; simp [nm, numOf]
          refine then_k hK ?_; clear hK; clear K
          refine if_bool E rfl (fun hb => ?_) (fun hb => ?_)
          · replace hb := Nrm.nrm hb
            have hE : opE b k = 230 := (by unfold opE; rw [if_neg (fun q => q h13), if_neg (by omega), if_neg (fun q => q hsum), if_pos (by omega)])
            refine wp_seq_k ?_; intro K hK
            refine region_list ?_
            refine list_pure E rfl rfl (by decide) (rn_assign E rfl rfl) ?_; clear E a; intro a E
            refine list_pure E rfl rfl (by decide) (rn_assign E rfl rfl) ?_; clear E a; intro a E
            refine wpList_nil ?_
            refine then_k hK ?_; clear hK; clear K
            refine wp_ret ?_
            refine then_ret ?_; clear hK; clear K
            refine ret2 E rfl rfl rfl ?_
            exact ⟨_, rfl, .inl ⟨by rw [hE]; decide, by rw [hE], S.tail.tr⟩⟩
          · replace hb := Nrm.nrm hb
            have hE : opE b k = 0 := (by unfold opE; rw [if_neg (fun q => q h13), if_neg (by omega), if_neg (fun q => q hsum), if_neg (by omega)])
            refine wp_skip ?_
            refine then_k hK ?_; clear hK; clear K
            refine wp_seq_k ?_; intro K hK
            refine region_list ?_
            refine list_pure E rfl rfl (by decide) (rn_move E rfl rfl) ?_; clear E a; intro a E
            refine list_pure E rfl rfl (by decide) (rn_move E rfl rfl) ?_; clear E a; intro a E
            refine list_pure E rfl rfl (by decide) (by first | exact rn_len E rfl rfl rfl | exact rn_len_str E rfl rfl rfl | exact rn_len_string E rfl rfl rfl) ?_; clear E a; intro a E
            refine list_pure E rfl rfl (by decide) (rn_sub E rfl rfl rfl (by first | exact ws_lit (y := 8) (by omega) (by omega) | exact w_in (by omega) | exact w_inu (by omega) | exact rfl)) ?_; clear E a; intro a E
            refine list_pure E rfl rfl (by decide) (rn_slice_lh (s := 1) (lo := 5) (hi := b.length - 8) E rfl rfl rfl rfl rfl rfl rfl rfl (by omega) (by omega)) ?_; clear E a; intro a E
            rw [hs5] at E
            refine list_call E rfl rfl (by decide) rfl Tryd.func85 rfl (by kernel_rfl) rfl (uopen_ret D _ x _ hR5 (S.hpone (show D ∈ _ from (by repeat (first | exact mm1 | assumption | apply List.Mem.tail)))) (by omega)) ?_
            rintro v69 w ⟨p, A, rfl, hA, hT⟩; clear E a; intro a E
            have S := S.callnew (show D ∈ _ from (by repeat (first | exact mm1 | assumption | apply List.Mem.tail))) hT
            refine list_pure E rfl rfl (by decide) (rn_assign E rfl rfl) ?_; clear E a; intro a E
            refine list_pure E rfl rfl (by decide) (rn_assign E rfl rfl) ?_; clear E a; intro a E
            refine wpList_nil ?_
            refine then_k hK ?_; clear hK; clear K
            refine wp_ret ?_
            refine ret2 E rfl rfl rfl ?_
            exact ⟨_, rfl, .inr ⟨hE, h13.1, h13.2, p, A, rfl, by rw [hox]; exact hA, (S.del (A := C) (by repeat (first | exact pk1 | apply pick_tail))).tr⟩⟩

theorem dreadrq_ret (D : Chunk) (v : Value) (b : List UInt8) (hD : Rd D 1 v b.length (byt b)) (hcap : ∃ ad c, v = .slice ad b.length c ∧ b.length ≤ c) (As : List Chunk) (hDA : D ∈ As) (hG0 : Tab As 0 sha0.l) (hG1 : Tab As 1 shaK) (w0 : World) (H : Hp w0 As) :
    Ret Tryd.prog 45 #[v] w0 fun u w' => ∃ x C, u = .tuple #[rqagg (rqF dataD b).1 x, .int .i64 (rqF dataD b).2] ∧ Buf C 5 1 x (rqF dataD b).1.data.length (byt (rqF dataD b).1.data) ∧ Trs w0 w' As (C :: As) := by
  have S := St.begin H
  refine enter1 65 Tryd.func45 rfl rfl (by decide) ?_; intro a E
  refine wp_seq_k ?_; intro K hK
  refine region_list ?_
  refine list_wp rfl (wp_alloc E S rfl rfl (by decide) rfl rfl rfl ?_); clear E S a; intro a w b2 E S
  refine list_pure E rfl rfl (by decide) (rn_assign E rfl rfl) ?_; clear E a; intro a E
  refine wpList_nil ?_
  refine then_k hK ?_; clear hK; clear K
  refine wp_seq_k ?_; intro K hK
  refine region_list ?_
  refine list_pure E rfl rfl (by decide) (rn_move E rfl rfl) ?_; clear E a; intro a E
  refine list_call E rfl rfl (by decide) rfl Tryd.func69 rfl (by kernel_rfl) rfl (dbody_ret D v b hD hcap 1 (by omega) _ (show D ∈ _ from (by repeat (first | exact mm1 | assumption | apply List.Mem.tail))) hG0.tail hG1.tail _ S.hp) ?_
  rintro v12 w hO; clear E a; intro a E
  skip
  rcases hO with ⟨hE, rfl, hT⟩ | ⟨hE, h13, h64, p, A, rfl, hA, hT⟩
  · skip
    have S := S.all hT
    refine list_pure E rfl rfl (by decide) (rn_move E rfl rfl) ?_; clear E a; intro a E
    refine list_pure E rfl rfl (by decide) (rn_extract E rfl rfl rfl) ?_; clear E a; intro a E
    refine list_pure E rfl rfl (by decide) (rn_extract E rfl rfl rfl) ?_; clear E a; intro a E
    refine list_pure E rfl rfl (by decide) (rn_assign E rfl rfl) ?_; clear E a; intro a E
    refine list_pure E rfl rfl (by decide) (rn_assign E rfl rfl) ?_; clear E a; intro a E
    refine wpList_nil ?_
    refine then_k hK ?_; clear hK; clear K
    refine wp_seq_k ?_; intro K hK
    refine wp_seq_k ?_; intro K hK
    refine region_list ?_
    refine list_pure E rfl rfl (by decide) (rn_move E rfl rfl) ?_; clear E a; intro a E
    refine list_pure E rfl rfl (by decide) (by first | exact rn_neq E rfl rfl rfl | exact rn_neq_ptr_nil E rfl rfl rfl rfl | exact rn_neq_bool E rfl rfl rfl rfl | exact rn_neq_string E rfl rfl rfl) ?_; clear E a; intro a E
    refine wpList_nil ?_
    refine then_k hK ?_; clear hK; clear K
    refine if_bool E rfl (fun hb => ?_) (fun hb => ?_)
    · replace hb := Nrm.nrm hb
      skip
      refine wp_seq_k ?_; intro K hK
      refine region_list ?_
      refine list_pure E rfl rfl (by decide) (rn_build (cells := [_, _, _, _, _, _, _, _, _, _]) E rfl rfl rfl) ?_; clear E a; intro a E
      refine list_pure E rfl rfl (by decide) (rn_move E rfl rfl) ?_; clear E a; intro a E
      refine list_wp rfl (wp_storeN E S rfl rfl rfl rfl (by simp [Value.oneCell']) rfl (by repeat (first | exact pk1 | apply pick_tail)) (by simp) ?_); clear E S a; intro a w E S; simp only [List.take_succ_cons, List.take_zero, List.drop_succ_cons, List.drop_zero, List.cons_append, List.nil_append, List.append_nil, List.length_cons, List.length_nil, Nat.zero_add, Nat.add_zero] at S
      refine list_pure E rfl rfl (by decide) (rn_assign E rfl rfl) ?_; clear E a; intro a E
      refine wpList_nil ?_
      refine then_k hK ?_; clear hK; clear K
      refine wp_ret ?_
      refine then_ret ?_; clear hK; clear K
      refine ret_ct E rfl rfl rfl (S.get (by repeat (first | exact pk1 | apply pick_tail))) rfl ?_
      have hv : rqF dataD b = (rq0, opE b 1) := by unfold rqF; rw [if_pos hE]
      exact ⟨_, rfl, _, [], by rw [hv], by rw [hv]; exact Buf.nil _ _, (S.del (A := [(b2, _)]) (by repeat (first | exact pk1 | apply pick_tail))).addNil.tr⟩
    · replace hb := Nrm.nrm hb
      exfalso; omega
  · skip
    have S := S.all hT
    refine list_pure E rfl rfl (by decide) (rn_move E rfl rfl) ?_; clear E a; intro a E
    refine list_pure E rfl rfl (by decide) (rn_extract E rfl rfl rfl) ?_; clear E a; intro a E
    refine list_pure E rfl rfl (by decide) (rn_extract E rfl rfl rfl) ?_; clear E a; intro a E
    refine list_pure E rfl rfl (by decide) (rn_assign E rfl rfl) ?_; clear E a; intro a E
    refine list_pure E rfl rfl (by decide) (rn_assign E rfl rfl) ?_; clear E a; intro a E
    refine wpList_nil ?_
    refine then_k hK ?_; clear hK; clear K
    refine wp_seq_k ?_; intro K hK
    refine wp_seq_k ?_; intro K hK
    refine region_list ?_
    refine list_pure E rfl rfl (by decide) (rn_move E rfl rfl) ?_; clear E a; intro a E
    refine list_pure E rfl rfl (by decide) (by first | exact rn_neq E rfl rfl rfl | exact rn_neq_ptr_nil E rfl rfl rfl rfl | exact rn_neq_bool E rfl rfl rfl rfl | exact rn_neq_string E rfl rfl rfl) ?_; clear E a; intro a E
    refine wpList_nil ?_
    refine then_k hK ?_; clear hK; clear K
    refine if_bool E rfl (fun hb => ?_) (fun hb => ?_)
    · replace hb := Nrm.nrm hb
      exfalso; omega
    · replace hb := Nrm.nrm hb
      skip
      refine wp_skip ?_
      refine then_k hK ?_; clear hK; clear K
      refine wp_seq_k ?_; intro K hK
      refine region_list ?_
      refine list_pure E rfl rfl (by decide) (rn_build (cells := [_, _, _, _, _, _, _, _, _, _]) E rfl rfl rfl) ?_; clear E a; intro a E
      refine list_wp rfl (wp_alloc E S rfl rfl (by decide) rfl rfl rfl ?_); clear E S a; intro a w b6 E S
      refine list_wp rfl (wp_storeN E S rfl rfl rfl rfl (by simp [Value.oneCell']) rfl (by repeat (first | exact pk1 | apply pick_tail)) (by simp) ?_); clear E S a; intro a w E S; simp only [List.take_succ_cons, List.take_zero, List.drop_succ_cons, List.drop_zero, List.cons_append, List.nil_append, List.append_nil, List.length_cons, List.length_nil, Nat.zero_add, Nat.add_zero] at S
      refine wpList_nil ?_
      refine then_k hK ?_; clear hK; clear K
      refine wp_seq_k ?_; intro K hK
      refine region_list ?_
      refine list_pure E rfl rfl (by decide) (rn_move E rfl rfl) ?_; clear E a; intro a E
      refine list_call E rfl rfl (by decide) rfl Tryd.func70 rfl (by kernel_rfl) rfl (dnum_ret p _ A _ hA 1 (by omega) (S.hp.sel (sel_cons (by repeat (first | exact pk1 | apply pick_tail)) (sel_nil _)))) ?_
      rintro v21 w ⟨A1, rfl, hA1, hT⟩; clear E a; intro a E
      have S := S.call1 (sel_cons (by repeat (first | exact pk1 | apply pick_tail)) (sel_nil _)) hT
      obtain ⟨s1, hs1⟩ : ∃ s1, s1 = (Rdr.mk ((opX b).drop 1) 0 0).num 1 := ⟨_, rfl⟩
      rw [show (((1 : Nat) : Int)) = 1 from rfl, ← hs1] at E hA1
      refine list_pure E rfl rfl (by decide) (by first | exact rn_fieldAddr0 (q := 0) E rfl rfl rfl | exact rn_fieldAddr (q := 0) E rfl rfl rfl) ?_; clear E a; intro a E
      refine list_wp rfl (wp_store1 E S rfl rfl rfl rfl rfl rfl (by repeat (first | exact pk1 | apply pick_tail)) (by first | exact Nat.le_of_ble_eq_true rfl | (simp; done) | (simp; omega)) ?_); clear E S a; intro a w E S; try dsimp only [List.set] at S
      refine wpList_nil ?_
      refine then_k hK ?_; clear hK; clear K
      refine wp_seq_k ?_; intro K hK
      refine region_list ?_
      refine list_pure E rfl rfl (by decide) (rn_move E rfl rfl) ?_; clear E a; intro a E
      refine list_call E rfl rfl (by decide) rfl Tryd.func70 rfl (by kernel_rfl) rfl (dnum_ret p _ A1 _ hA1 4 (by omega) (S.hp.sel (sel_cons (by repeat (first | exact pk1 | apply pick_tail)) (sel_nil _)))) ?_
      rintro v24 w ⟨A2, rfl, hA2, hT⟩; clear E a; intro a E
      have S := S.call1 (sel_cons (by repeat (first | exact pk1 | apply pick_tail)) (sel_nil _)) hT
      obtain ⟨s2, hs2⟩ : ∃ s2, s2 = (s1.2).num 4 := ⟨_, rfl⟩
      rw [show (((4 : Nat) : Int)) = 4 from rfl, ← hs2] at E hA2
      refine list_pure E rfl rfl (by decide) (by first | exact rn_fieldAddr0 (q := 1) E rfl rfl rfl | exact rn_fieldAddr (q := 1) E rfl rfl rfl) ?_; clear E a; intro a E
      refine list_wp rfl (wp_store1 E S rfl rfl rfl rfl rfl rfl (by repeat (first | exact pk1 | apply pick_tail)) (by first | exact Nat.le_of_ble_eq_true rfl | (simp; done) | (simp; omega)) ?_); clear E S a; intro a w E S; try dsimp only [List.set] at S
      refine wpList_nil ?_
      refine then_k hK ?_; clear hK; clear K
      refine wp_seq_k ?_; intro K hK
      refine region_list ?_
      refine list_pure E rfl rfl (by decide) (rn_move E rfl rfl) ?_; clear E a; intro a E
      refine list_call E rfl rfl (by decide) rfl Tryd.func70 rfl (by kernel_rfl) rfl (dnum_ret p _ A2 _ hA2 1 (by omega) (S.hp.sel (sel_cons (by repeat (first | exact pk1 | apply pick_tail)) (sel_nil _)))) ?_
      rintro v27 w ⟨A3, rfl, hA3, hT⟩; clear E a; intro a E
      have S := S.call1 (sel_cons (by repeat (first | exact pk1 | apply pick_tail)) (sel_nil _)) hT
      obtain ⟨s3, hs3⟩ : ∃ s3, s3 = (s2.2).num 1 := ⟨_, rfl⟩
      rw [show (((1 : Nat) : Int)) = 1 from rfl, ← hs3] at E hA3
      refine list_pure E rfl rfl (by decide) (by first | exact rn_fieldAddr0 (q := 2) E rfl rfl rfl | exact rn_fieldAddr (q := 2) E rfl rfl rfl) ?_; clear E a; intro a E
      refine list_wp rfl (wp_store1 E S rfl rfl rfl rfl rfl rfl (by repeat (first | exact pk1 | apply pick_tail)) (by first | exact Nat.le_of_ble_eq_true rfl | (simp; done) | (simp; omega)) ?_); clear E S a; intro a w E S; try dsimp only [List.set] at S
      refine wpList_nil ?_
      refine then_k hK ?_; clear hK; clear K
      refine wp_seq_k ?_; intro K hK
      refine region_list ?_
      refine list_pure E rfl rfl (by decide) (rn_move E rfl rfl) ?_; clear E a; intro a E
      refine list_call E rfl rfl (by decide) rfl Tryd.func71 rfl (by kernel_rfl) rfl (utext_ret p (sT s3.2 0) A3 _ hA3 (S.hp.sel (sel_cons (by repeat (first | exact pk1 | apply pick_tail)) (sel_nil _))) 240) ?_
      rintro v30 w ⟨A4, rfl, hA4, hT⟩; clear E a; intro a E
      have S := S.call1 (sel_cons (by repeat (first | exact pk1 | apply pick_tail)) (sel_nil _)) hT
      rw [show ((sT s3.2 0).text 240).1 = tT s3.2 0 from rfl] at E
      have hA4 : RdC 121 p (sT s3.2 1) A4 := hA4
      refine list_pure E rfl rfl (by decide) (by first | exact rn_fieldAddr0 (q := 3) E rfl rfl rfl | exact rn_fieldAddr (q := 3) E rfl rfl rfl) ?_; clear E a; intro a E
      refine list_wp rfl (wp_store1 E S rfl rfl rfl rfl rfl rfl (by repeat (first | exact pk1 | apply pick_tail)) (by first | exact Nat.le_of_ble_eq_true rfl | (simp; done) | (simp; omega)) ?_); clear E S a; intro a w E S; try dsimp only [List.set] at S
      refine wpList_nil ?_
      refine then_k hK ?_; clear hK; clear K
      refine wp_seq_k ?_; intro K hK
      replace E := E.keep (e' := [(2, _), (3, _), (4, _), (6, _)]) (keep_cons rfl (keep_cons rfl (keep_cons rfl (keep_cons rfl (keep_nil)))))
      refine region_list ?_
      refine list_pure E rfl rfl (by decide) (rn_move E rfl rfl) ?_; clear E a; intro a E
      refine list_call E rfl rfl (by decide) rfl Tryd.func71 rfl (by kernel_rfl) rfl (utext_ret p (sT s3.2 1) A4 _ hA4 (S.hp.sel (sel_cons (by repeat (first | exact pk1 | apply pick_tail)) (sel_nil _))) 240) ?_
      rintro v33 w ⟨A5, rfl, hA5, hT⟩; clear E a; intro a E
      have S := S.call1 (sel_cons (by repeat (first | exact pk1 | apply pick_tail)) (sel_nil _)) hT
      rw [show ((sT s3.2 1).text 240).1 = tT s3.2 1 from rfl] at E
      have hA5 : RdC 121 p (sT s3.2 2) A5 := hA5
      refine list_pure E rfl rfl (by decide) (by first | exact rn_fieldAddr0 (q := 4) E rfl rfl rfl | exact rn_fieldAddr (q := 4) E rfl rfl rfl) ?_; clear E a; intro a E
      refine list_wp rfl (wp_store1 E S rfl rfl rfl rfl rfl rfl (by repeat (first | exact pk1 | apply pick_tail)) (by first | exact Nat.le_of_ble_eq_true rfl | (simp; done) | (simp; omega)) ?_); clear E S a; intro a w E S; try dsimp only [List.set] at S
      refine wpList_nil ?_
      refine then_k hK ?_; clear hK; clear K
      refine wp_seq_k ?_; intro K hK
      refine region_list ?_
      refine list_pure E rfl rfl (by decide) (rn_move E rfl rfl) ?_; clear E a; intro a E
      refine list_call E rfl rfl (by decide) rfl Tryd.func71 rfl (by kernel_rfl) rfl (utext_ret p (sT s3.2 2) A5 _ hA5 (S.hp.sel (sel_cons (by repeat (first | exact pk1 | apply pick_tail)) (sel_nil _))) 240) ?_
      rintro v36 w ⟨A6, rfl, hA6, hT⟩; clear E a; intro a E
      have S := S.call1 (sel_cons (by repeat (first | exact pk1 | apply pick_tail)) (sel_nil _)) hT
      rw [show ((sT s3.2 2).text 240).1 = tT s3.2 2 from rfl] at E
      have hA6 : RdC 121 p (sT s3.2 3) A6 := hA6
      refine list_pure E rfl rfl (by decide) (by first | exact rn_fieldAddr0 (q := 5) E rfl rfl rfl | exact rn_fieldAddr (q := 5) E rfl rfl rfl) ?_; clear E a; intro a E
      refine list_wp rfl (wp_store1 E S rfl rfl rfl rfl rfl rfl (by repeat (first | exact pk1 | apply pick_tail)) (by first | exact Nat.le_of_ble_eq_true rfl | (simp; done) | (simp; omega)) ?_); clear E S a; intro a w E S; try dsimp only [List.set] at S
      refine wpList_nil ?_
      refine then_k hK ?_; clear hK; clear K
      refine wp_seq_k ?_; intro K hK
      refine region_list ?_
      refine list_pure E rfl rfl (by decide) (rn_move E rfl rfl) ?_; clear E a; intro a E
      refine list_call E rfl rfl (by decide) rfl Tryd.func71 rfl (by kernel_rfl) rfl (utext_ret p (sT s3.2 3) A6 _ hA6 (S.hp.sel (sel_cons (by repeat (first | exact pk1 | apply pick_tail)) (sel_nil _))) 240) ?_
      rintro v39 w ⟨A7, rfl, hA7, hT⟩; clear E a; intro a E
      have S := S.call1 (sel_cons (by repeat (first | exact pk1 | apply pick_tail)) (sel_nil _)) hT
      rw [show ((sT s3.2 3).text 240).1 = tT s3.2 3 from rfl] at E
      have hA7 : RdC 121 p (sT s3.2 4) A7 := hA7
      refine list_pure E rfl rfl (by decide) (by first | exact rn_fieldAddr0 (q := 6) E rfl rfl rfl | exact rn_fieldAddr (q := 6) E rfl rfl rfl) ?_; clear E a; intro a E
      refine list_wp rfl (wp_store1 E S rfl rfl rfl rfl rfl rfl (by repeat (first | exact pk1 | apply pick_tail)) (by first | exact Nat.le_of_ble_eq_true rfl | (simp; done) | (simp; omega)) ?_); clear E S a; intro a w E S; try dsimp only [List.set] at S
      refine wpList_nil ?_
      refine then_k hK ?_; clear hK; clear K
      refine wp_seq_k ?_; intro K hK
      refine region_list ?_
      refine list_pure E rfl rfl (by decide) (rn_move E rfl rfl) ?_; clear E a; intro a E
      refine list_call E rfl rfl (by decide) rfl Tryd.func70 rfl (by kernel_rfl) rfl (dnum_ret p _ A7 _ hA7 6 (by omega) (S.hp.sel (sel_cons (by repeat (first | exact pk1 | apply pick_tail)) (sel_nil _)))) ?_
      rintro v42 w ⟨A8, rfl, hA8, hT⟩; clear E a; intro a E
      have S := S.call1 (sel_cons (by repeat (first | exact pk1 | apply pick_tail)) (sel_nil _)) hT
      obtain ⟨s4, hs4⟩ : ∃ s4, s4 = (sT s3.2 4).num 6 := ⟨_, rfl⟩
      rw [show (((6 : Nat) : Int)) = 6 from rfl, ← hs4] at E hA8
      refine list_pure E rfl rfl (by decide) (by first | exact rn_fieldAddr0 (q := 7) E rfl rfl rfl | exact rn_fieldAddr (q := 7) E rfl rfl rfl) ?_; clear E a; intro a E
      refine list_wp rfl (wp_store1 E S rfl rfl rfl rfl rfl rfl (by repeat (first | exact pk1 | apply pick_tail)) (by first | exact Nat.le_of_ble_eq_true rfl | (simp; done) | (simp; omega)) ?_); clear E S a; intro a w E S; try dsimp only [List.set] at S
      refine wpList_nil ?_
      refine then_k hK ?_; clear hK; clear K
      refine wp_seq_k ?_; intro K hK
      refine region_list ?_
      refine list_pure E rfl rfl (by decide) (rn_move E rfl rfl) ?_; clear E a; intro a E
      refine list_call E rfl rfl (by decide) rfl Tryd.func70 rfl (by kernel_rfl) rfl (dnum_ret p _ A8 _ hA8 6 (by omega) (S.hp.sel (sel_cons (by repeat (first | exact pk1 | apply pick_tail)) (sel_nil _)))) ?_
      rintro v45 w ⟨A9, rfl, hA9, hT⟩; clear E a; intro a E
      have S := S.call1 (sel_cons (by repeat (first | exact pk1 | apply pick_tail)) (sel_nil _)) hT
      obtain ⟨s5, hs5⟩ : ∃ s5, s5 = (s4.2).num 6 := ⟨_, rfl⟩
      rw [show (((6 : Nat) : Int)) = 6 from rfl, ← hs5] at E hA9
      refine list_pure E rfl rfl (by decide) (by first | exact rn_fieldAddr0 (q := 8) E rfl rfl rfl | exact rn_fieldAddr (q := 8) E rfl rfl rfl) ?_; clear E a; intro a E
      refine list_wp rfl (wp_store1 E S rfl rfl rfl rfl rfl rfl (by repeat (first | exact pk1 | apply pick_tail)) (by first | exact Nat.le_of_ble_eq_true rfl | (simp; done) | (simp; omega)) ?_); clear E S a; intro a w E S; try dsimp only [List.set] at S
      refine wpList_nil ?_
      refine then_k hK ?_; clear hK; clear K
      refine wp_seq_k ?_; intro K hK
      refine region_list ?_
      refine list_pure E rfl rfl (by decide) (rn_move E rfl rfl) ?_; clear E a; intro a E
      refine list_call E rfl rfl (by decide) rfl Tryd.func70 rfl (by kernel_rfl) rfl (dnum_ret p _ A9 _ hA9 2 (by omega) (S.hp.sel (sel_cons (by repeat (first | exact pk1 | apply pick_tail)) (sel_nil _)))) ?_
      rintro v48 w ⟨A10, rfl, hA10, hT⟩; clear E a; intro a E
      have S := S.call1 (sel_cons (by repeat (first | exact pk1 | apply pick_tail)) (sel_nil _)) hT
      obtain ⟨s6, hs6⟩ : ∃ s6, s6 = (s5.2).num 2 := ⟨_, rfl⟩
      rw [show (((2 : Nat) : Int)) = 2 from rfl, ← hs6] at E hA10
      refine list_pure E rfl rfl (by decide) (rn_assign E rfl rfl) ?_; clear E a; intro a E
      refine wpList_nil ?_
      refine then_k hK ?_; clear hK; clear K
      refine wp_seq_k ?_; intro K hK
      refine region_list ?_
      refine list_pure E rfl rfl (by decide) (rn_move E rfl rfl) ?_; clear E a; intro a E
      refine list_pure E rfl rfl (by decide) (rn_move E rfl rfl) ?_; clear E a; intro a E
      refine list_call E rfl rfl (by decide) rfl Tryd.func72 rfl (by kernel_rfl) rfl (ubytes_ret p _ A10 _ hA10 (S.hp.sel (sel_cons (by repeat (first | exact pk1 | apply pick_tail)) (sel_nil _))) s6.1 (by rw [hs6]; have := num_lt s5.2 2; rw [show (((2 : Nat) : Int)) = 2 from rfl] at this; have := p2; omega)) ?_
      rintro v51 w ⟨A11, C, hA11, hT, hC⟩; clear E a; intro a E
      have S := S.call2 (sel_cons (by repeat (first | exact pk1 | apply pick_tail)) (sel_nil _)) hT
      obtain ⟨s7, hs7⟩ : ∃ s7, s7 = s6.2.bytes s6.1 := ⟨_, rfl⟩
      rw [← hs7] at hA11 hC
      obtain ⟨ad, c, rfl⟩ := hC.slice
      obtain ⟨R, hR⟩ : ∃ R : Rq, R = ⟨s1.1, s2.1, s3.1, tT s3.2 0, tT s3.2 1, tT s3.2 2, tT s3.2 3, s4.1, s5.1, s7.1⟩ := ⟨_, rfl⟩
      have hP : rqP dataD ⟨(opX b).drop 1, 0, 0⟩ = (R, s7.2) := by subst hR hs7 hs6 hs5 hs4 hs3 hs2 hs1; rfl
      have hbd := rqP_body h13
      rw [hP] at hbd
      have hv : rqF dataD b = if s7.2.done = 0 ∧ R.may then (R, 0) else (rq0, 230) := by unfold rqF; rw [if_neg (by omega), hbd.1, hbd.2]
      refine list_pure E rfl rfl (by decide) (by first | exact rn_fieldAddr0 (q := 9) E rfl rfl rfl | exact rn_fieldAddr (q := 9) E rfl rfl rfl) ?_; clear E a; intro a E
      refine list_wp rfl (wp_store1 E S rfl rfl rfl rfl rfl rfl (by repeat (first | exact pk1 | apply pick_tail)) (by first | exact Nat.le_of_ble_eq_true rfl | (simp; done) | (simp; omega)) ?_); clear E S a; intro a w E S; try dsimp only [List.set] at S
      refine wpList_nil ?_
      refine then_k hK ?_; clear hK; clear K
      refine wp_seq_k ?_; intro K hK
      replace E := E.keep (e' := [(2, _), (3, _), (4, _), (6, _)]) (keep_cons rfl (keep_cons rfl (keep_cons rfl (keep_cons rfl (keep_nil)))))
      refine region_list ?_
      refine list_pure E rfl rfl (by decide) (rn_move E rfl rfl) ?_; clear E a; intro a E
      refine list_call E rfl rfl (by decide) rfl Tryd.func73 rfl (by kernel_rfl) rfl (udone_ret p _ A11 _ hA11 (S.hp.sel (sel_cons (by repeat (first | exact pk1 | apply pick_tail)) (sel_nil _)))) ?_
      rintro v54 w ⟨rfl, hT⟩; clear E a; intro a E
      have S := S.call1 (sel_cons (by repeat (first | exact pk1 | apply pick_tail)) (sel_nil _)) hT
      refine list_pure E rfl rfl (by decide) (rn_assign E rfl rfl) ?_; clear E a; intro a E
      refine wpList_nil ?_
      refine then_k hK ?_; clear hK; clear K
      refine wp_seq_k ?_; intro K hK
      refine region_list ?_
      refine list_pure E rfl rfl (by decide) (rn_load_blk (vs := [_, _, _, _, _, _, _, _, _, _]) E rfl rfl rfl (S.get (by repeat (first | exact pk1 | apply pick_tail))) rfl rfl) ?_; clear E a; intro a E
      refine list_call E rfl rfl (by decide) rfl Tryd.func29 rfl (by kernel_rfl) rfl (dasks_ret ⟨s1.1, s2.1, s3.1, tT s3.2 0, tT s3.2 1, tT s3.2 2, tT s3.2 3, s4.1, s5.1, s7.1⟩ ad c _) ?_
      rintro v56 w ⟨rfl, hT⟩; clear E a; intro a E
      have S := S.quiet hT; rw [← hR] at E
      refine list_pure E rfl rfl (by decide) (rn_assign E rfl rfl) ?_; clear E a; intro a E
      refine wpList_nil ?_
      refine then_k hK ?_; clear hK; clear K
      refine wp_seq_k ?_; intro K hK
      refine wp_seq_k ?_; intro K hK
      refine region_list ?_
      refine list_pure E rfl rfl (by decide) (rn_move E rfl rfl) ?_; clear E a; intro a E
      refine list_pure E rfl rfl (by decide) (by first | exact rn_neq E rfl rfl rfl | exact rn_neq_ptr_nil E rfl rfl rfl rfl | exact rn_neq_bool E rfl rfl rfl rfl | exact rn_neq_string E rfl rfl rfl) ?_; clear E a; intro a E
      refine list_pure E rfl rfl (by decide) (rn_move E rfl rfl) ?_; clear E a; intro a E
      refine guard_split E (t := 59) rfl (fun hb59 => ?_) (fun hb59 => ?_)
      · have hb59n := hb59; replace hb59n := Nrm.nrm hb59n
        refine list_guard_no E rfl rfl rfl rfl hb59 rfl (by decide) ?_; clear E a; intro a E
        refine list_guard_no E rfl rfl rfl rfl hb59 rfl (by decide) ?_; clear E a; intro a E
        refine list_pure E rfl rfl (by decide) (rn_pick_yes' E rfl rfl hb59 rfl) ?_; clear E a; intro a E
        refine wpList_nil ?_
        refine then_k hK ?_; clear hK; clear K
        refine if_true' E rfl rfl ?_
        refine wp_seq_k ?_; intro K hK
        refine region_list ?_
        refine list_pure E rfl rfl (by decide) (rn_build (cells := [_, _, _, _, _, _, _, _, _, _]) E rfl rfl rfl) ?_; clear E a; intro a E
        refine list_wp rfl (wp_storeN E S rfl rfl rfl rfl (by simp [Value.oneCell']) rfl (by repeat (first | exact pk1 | apply pick_tail)) (by simp) ?_); clear E S a; intro a w E S; simp only [List.take_succ_cons, List.take_zero, List.drop_succ_cons, List.drop_zero, List.cons_append, List.nil_append, List.append_nil, List.length_cons, List.length_nil, Nat.zero_add, Nat.add_zero] at S
        refine list_pure E rfl rfl (by decide) (rn_assign E rfl rfl) ?_; clear E a; intro a E
        refine wpList_nil ?_
        refine then_k hK ?_; clear hK; clear K
        refine wp_ret ?_
        refine then_ret ?_; clear hK; clear K
        refine ret_ct E rfl rfl rfl (S.get (by repeat (first | exact pk1 | apply pick_tail))) rfl ?_
        rw [if_neg (fun q => by have := q.1; have := q.2; simp_all)] at hv
        exact ⟨_, rfl, _, [], by rw [hv], by rw [hv]; exact Buf.nil _ _, ((((S.del (A := [(b2, _)]) (by repeat (first | exact pk1 | apply pick_tail))).del (A := A11) (by repeat (first | exact pk1 | apply pick_tail))).del (A := [(b6, _)]) (by repeat (first | exact pk1 | apply pick_tail))).del (A := C) (by repeat (first | exact pk1 | apply pick_tail))).addNil.tr⟩
      · have hb59n := hb59; replace hb59n := Nrm.nrm hb59n
        refine list_guard_yes E rfl rfl rfl rfl hb59 rfl (by decide) (rn_move E rfl rfl) ?_; clear E a; intro a E
        refine list_guard_yes E rfl rfl rfl rfl hb59 rfl (by decide) (rn_not E rfl rfl) ?_; clear E a; intro a E
        refine list_pure E rfl rfl (by decide) (rn_pick_no' E rfl rfl hb59 rfl) ?_; clear E a; intro a E
        refine wpList_nil ?_
        refine then_k hK ?_; clear hK; clear K
        refine if_bool E rfl (fun hb => ?_) (fun hb => ?_)
        · replace hb := Nrm.nrm hb
          refine wp_seq_k ?_; intro K hK
          refine region_list ?_
          refine list_pure E rfl rfl (by decide) (rn_build (cells := [_, _, _, _, _, _, _, _, _, _]) E rfl rfl rfl) ?_; clear E a; intro a E
          refine list_wp rfl (wp_storeN E S rfl rfl rfl rfl (by simp [Value.oneCell']) rfl (by repeat (first | exact pk1 | apply pick_tail)) (by simp) ?_); clear E S a; intro a w E S; simp only [List.take_succ_cons, List.take_zero, List.drop_succ_cons, List.drop_zero, List.cons_append, List.nil_append, List.append_nil, List.length_cons, List.length_nil, Nat.zero_add, Nat.add_zero] at S
          refine list_pure E rfl rfl (by decide) (rn_assign E rfl rfl) ?_; clear E a; intro a E
          refine wpList_nil ?_
          refine then_k hK ?_; clear hK; clear K
          refine wp_ret ?_
          refine then_ret ?_; clear hK; clear K
          refine ret_ct E rfl rfl rfl (S.get (by repeat (first | exact pk1 | apply pick_tail))) rfl ?_
          rw [if_neg (fun q => by have := q.1; have := q.2; simp_all)] at hv
          exact ⟨_, rfl, _, [], by rw [hv], by rw [hv]; exact Buf.nil _ _, ((((S.del (A := [(b2, _)]) (by repeat (first | exact pk1 | apply pick_tail))).del (A := A11) (by repeat (first | exact pk1 | apply pick_tail))).del (A := [(b6, _)]) (by repeat (first | exact pk1 | apply pick_tail))).del (A := C) (by repeat (first | exact pk1 | apply pick_tail))).addNil.tr⟩
        · replace hb := Nrm.nrm hb
          refine wp_skip ?_
          refine then_k hK ?_; clear hK; clear K
          refine wp_seq_k ?_; intro K hK
          refine region_list ?_
          refine list_pure E rfl rfl (by decide) (rn_load_blk (vs := [_, _, _, _, _, _, _, _, _, _]) E rfl rfl rfl (S.get (by repeat (first | exact pk1 | apply pick_tail))) rfl rfl) ?_; clear E a; intro a E
          refine list_wp rfl (wp_storeN E S rfl rfl rfl rfl (by simp [Value.oneCell']) rfl (by repeat (first | exact pk1 | apply pick_tail)) (by simp) ?_); clear E S a; intro a w E S; simp only [List.take_succ_cons, List.take_zero, List.drop_succ_cons, List.drop_zero, List.cons_append, List.nil_append, List.append_nil, List.length_cons, List.length_nil, Nat.zero_add, Nat.add_zero] at S
          refine list_pure E rfl rfl (by decide) (rn_assign E rfl rfl) ?_; clear E a; intro a E
          refine wpList_nil ?_
          refine then_k hK ?_; clear hK; clear K
          refine wp_ret ?_
          refine ret_ct E rfl rfl rfl (S.get (by repeat (first | exact pk1 | apply pick_tail))) rfl ?_
          rw [if_pos ⟨by omega, by simpa using hb⟩] at hv
          exact ⟨_, rfl, _, C, by rw [hv, hR], by rw [hv, hR]; exact hC, (((S.del (A := [(b2, _)]) (by repeat (first | exact pk1 | apply pick_tail))).del (A := A11) (by repeat (first | exact pk1 | apply pick_tail))).del (A := [(b6, _)]) (by repeat (first | exact pk1 | apply pick_tail))).tr⟩
end Go.Proofs.YtjhmjdgdgpgcdaaDoor
