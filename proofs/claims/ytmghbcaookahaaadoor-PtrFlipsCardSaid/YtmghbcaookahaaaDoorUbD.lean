/-
  Uberblocks: reading, and the document's functions.
-/
import Derived.Test.YtmghbcaookahaaaDoorUbS
namespace Go.Sl
/-- What the document's 'formed' says. -/
def formB (b L : List UInt8) (f : Nat) : Bool := openB b L && decide (f ≤ 96 ∧ (b.take 96).drop f = List.replicate (96 - f) 0)
theorem formB_iff (b L : List UInt8) (f : Nat) : formB b L f = true ↔ openB b L = true ∧ f ≤ 96 ∧ (b.take 96).drop f = List.replicate (96 - f) 0 := by simp [formB]
theorem formB_false {b L : List UInt8} {f : Nat} (h : ¬ (openB b L = true ∧ f ≤ 96 ∧ (b.take 96).drop f = List.replicate (96 - f) 0)) : formB b L f = false := by
  cases hh : formB b L f
  · rfl
  · exact absurd ((formB_iff b L f).1 hh) h
theorem take_drop_eq (b : List UInt8) (f : Nat) : (b.drop f).take (96 - f) = (b.take 96).drop f := by rw [List.drop_take]
theorem nm_take (b : List UInt8) {m q k : Nat} (h : q + k ≤ m) : nm (b.take m) q k = nm b q k := nm_other fun j h1 h2 => by rw [List.getElem?_take_of_lt (by omega)]
theorem ptAt_take (b : List UInt8) {m q : Nat} (h : q + 48 ≤ m) : ptAt (b.take m) q = ptAt b q := by
  unfold ptAt
  rw [nm_take b (by omega), nm_take b (by omega), nm_take b (by omega), nm_take b (by omega), nm_take b (by omega), nm_take b (by omega), nm_take b (by omega), nm_take b (by omega), nm_take b (by omega)]
theorem ptAt_drop (b : List UInt8) (q : Nat) : ptAt (b.drop q) 0 = ptAt b q := by simp [ptAt, nm, List.drop_drop]
theorem ubAt_take (b : List UInt8) : ubAt (b.take 96) = ubAt b := by
  unfold ubAt
  rw [nm_take b (by omega), nm_take b (by omega), nm_take b (by omega), ptAt_take b (by omega)]
/-- The root as the document reads it. -/
theorem root_dec {b : List UInt8} (hl : b.length = 128) (hz : (b.take 92).drop 76 = List.replicate 16 0) : ptdecE ((b.drop 28).take 64) = ptE (ptAt b 28) := by
  have h1 : ((b.drop 28).take 64).length = 64 := by rw [List.length_take, List.length_drop]; omega
  have h2 : ((b.drop 28).take 64).drop 48 = List.replicate 16 0 := by rw [List.drop_take, List.drop_drop]; rw [List.drop_take] at hz; exact hz
  unfold ptdecE
  rw [if_neg (by omega), if_neg (fun q => q h2), ptAt_take _ (by omega), ptAt_drop]
theorem root_val {b : List UInt8} (hl : b.length = 128) (hz : (b.take 92).drop 76 = List.replicate 16 0) : ptdec ((b.drop 28).take 64) = if ptE (ptAt b 28) = 0 then ptAt b 28 else ptZero := by
  unfold ptdec
  rw [root_dec hl hz, ptAt_take _ (by omega), ptAt_drop]
theorem zeros_split (b : List UInt8) (hl : b.length = 128) : (b.take 96).drop 76 = List.replicate 20 0 ↔ (b.take 92).drop 76 = List.replicate 16 0 ∧ (b.take 96).drop 92 = List.replicate 4 0 := by
  have e : (b.take 96).drop 76 = (b.take 92).drop 76 ++ (b.take 96).drop 92 := by
    rw [List.drop_take, List.drop_take, List.drop_take, show 96 - 76 = 16 + 4 from rfl, List.take_add, List.drop_drop]
  have l1 : ((b.take 92).drop 76).length = 16 := by rw [List.length_drop, List.length_take]; omega
  rw [e, show (List.replicate 20 (0 : UInt8)) = List.replicate 16 0 ++ List.replicate 4 0 by simp [List.replicate_append_replicate]]
  constructor
  · intro h; exact List.append_inj h (by rw [l1]; simp)
  · rintro ⟨h1, h2⟩; rw [h1, h2]
/-- The document's answer. -/
theorem ubdec_form {b : List UInt8} (hf : formB b uLet 92 = true) (hz : (b.drop 76).take (92 - 76) = List.replicate (92 - 76) 0) : ubdecE b = ubE (ubAt b) := by
  obtain ⟨h1, h2, h3⟩ := (formB_iff _ _ _).1 hf
  have hl := ((openB_iff _ _).1 h1).1
  have hz2 : (b.take 92).drop 76 = List.replicate 16 0 := by rw [List.drop_take]; exact hz
  have := (zeros_split b hl).2 ⟨hz2, h3⟩
  rw [ubdecE_open h1]; unfold ubtE; rw [if_neg (fun q => q this), ubAt_take]
theorem ubdec_noform {b : List UInt8} (hf : formB b uLet 92 = false) : ubdecE b = 45 := by
  cases h1 : openB b uLet
  · exact ubdecE_shut h1
  · rw [ubdecE_open h1]; unfold ubtE
    refine if_pos (fun q => ?_)
    have hl := ((openB_iff _ _).1 h1).1
    have := ((zeros_split b hl).1 q).2
    rw [(formB_iff b uLet 92).2 ⟨h1, by omega, this⟩] at hf
    cases hf
theorem ubdec_nozero {b : List UInt8} (hf : formB b uLet 92 = true) (hz : ¬ (b.drop 76).take (92 - 76) = List.replicate (92 - 76) 0) : ubdecE b = 45 := by
  obtain ⟨h1, h2, h3⟩ := (formB_iff _ _ _).1 hf
  have hl := ((openB_iff _ _).1 h1).1
  rw [ubdecE_open h1]; unfold ubtE
  refine if_pos (fun q => hz ?_)
  have := ((zeros_split b hl).1 q).1
  rw [List.drop_take] at this; exact this
theorem ubE_root {u : Ub} (h : ptE u.root ≠ 0) : ubE u = 44 := ubE_no (fun q => h ((ubE_iff u).1 q).2.2.1)
theorem ubdec_val {b : List UInt8} (h : ubdecE b = 0) : ubdec b = ubAt b := by unfold ubdec; rw [if_pos h, ubAt_take]
theorem ubdec_none {b : List UInt8} (h : ubdecE b ≠ 0) : ubdec b = ubZero := by unfold ubdec; rw [if_neg h]
end Go.Sl
namespace Go.Proofs.YtmghbcaookahaaaDoor
open Go.Sl
set_option maxRecDepth 10000

theorem opened_ret (O : Chunk) (v : Value) (b L : List UInt8) (hO : Rd O 1 v b.length (byt b)) (hcap : ∃ ad c, v = .slice ad b.length c ∧ b.length ≤ c) (hL : L.length = 4) (w0 : World) (H : Hp w0 [O]) :
    Ret Tryd.prog 50 #[v, str L] w0 fun u w' => ∃ w, u = .tuple #[w, .bool (openB b L)] ∧ (openB b L = true → Rd O 1 w (b.take 96).length (byt (b.take 96))) ∧ Trs w0 w' [O] [O] := by
  have S := St.begin H
  obtain ⟨ad, c, rfl, hc⟩ := hcap
  refine enter2 28 Tryd.func50 rfl rfl (by decide) ?_; intro a E
  refine wp_seq_k ?_; intro K hK
  refine region_list ?_
  refine list_pure E rfl rfl (by decide) (rn_assign E rfl rfl) ?_; clear E a; intro a E
  refine list_pure E rfl rfl (by decide) (rn_assign E rfl rfl) ?_; clear E a; intro a E
  refine wpList_nil ?_
  refine then_k hK ?_; clear hK; clear K
  refine wp_seq_k ?_; intro K hK
  refine wp_seq_k ?_; intro K hK
  refine wp_join (fun (a : Act) (w' : World) => ∃ bt : Bool, (bt = false ↔ b.length = 128 ∧ b.take 4 = L) ∧ St w0 [O] w' [O] ∧ Fr a 28 [(0, .slice ad b.length c), (17, .bool bt)]) ?_ ?_
  · skip
    refine region_list ?_
    refine list_pure E rfl rfl (by decide) (rn_move E rfl rfl) ?_; clear E a; intro a E
    refine list_pure E rfl rfl (by decide) (by first | exact rn_len E rfl rfl rfl | exact rn_len_str E rfl rfl rfl | exact rn_len_string E rfl rfl rfl) ?_; clear E a; intro a E
    refine list_pure E rfl rfl (by decide) (by first | exact rn_neq E rfl rfl rfl | exact rn_neq_ptr_nil E rfl rfl rfl rfl | exact rn_neq_bool E rfl rfl rfl rfl | exact rn_neq_string E rfl rfl rfl) ?_; clear E a; intro a E
    refine list_pure E rfl rfl (by decide) (rn_move E rfl rfl) ?_; clear E a; intro a E
    refine guard_split E (t := 9) rfl (fun hb9 => ?_) (fun hb9 => ?_)
    · have hb9n := hb9; replace hb9n := Nrm.nrm hb9n
      refine list_guard_no E rfl rfl rfl rfl hb9 rfl (by decide) ?_; clear E a; intro a E
      refine list_guard_no E rfl rfl rfl rfl hb9 rfl (by decide) ?_; clear E a; intro a E
      refine list_guard_no E rfl rfl rfl rfl hb9 rfl (by decide) ?_; clear E a; intro a E
      refine list_guard_no E rfl rfl rfl rfl hb9 rfl (by decide) ?_; clear E a; intro a E
      refine list_guard_no E rfl rfl rfl rfl hb9 rfl (by decide) ?_; clear E a; intro a E
      refine list_guard_no E rfl rfl rfl rfl hb9 rfl (by decide) ?_; clear E a; intro a E
      refine list_guard_no E rfl rfl rfl rfl hb9 rfl (by decide) ?_; clear E a; intro a E
      refine list_pure E rfl rfl (by decide) (rn_pick_yes' E rfl rfl hb9 rfl) ?_; clear E a; intro a E
      refine wpList_nil ?_
      refine joined_here ?_
      exact ⟨_, by simp; omega, S, E.keep (keep_cons rfl (keep_cons rfl keep_nil))⟩
    · have hb9n := hb9; replace hb9n := Nrm.nrm hb9n
      have hl : b.length = 128 := by omega
      obtain ⟨ad2, c2, hs2, hR2⟩ := hO.cut (lo := 0) (hi := 4) (by omega) (by omega) (by omega)
      rw [Nat.sub_zero] at hs2 hR2
      rw [show (List.drop (0 * 1) (byt b)).take (4 * 1) = byt (b.take 4) by simp [byt_take]] at hR2
      have hl4 : (b.take 4).length = 4 := by rw [List.length_take]; omega
      refine list_guard_yes E rfl rfl rfl rfl hb9 rfl (by decide) (rn_move E rfl rfl) ?_; clear E a; intro a E
      refine list_guard_yes E rfl rfl rfl rfl hb9 rfl (by decide) (rn_move E rfl rfl) ?_; clear E a; intro a E
      refine list_guard_yes E rfl rfl rfl rfl hb9 rfl (by decide) (by first | exact rn_len E rfl rfl rfl | exact rn_len_str E rfl rfl rfl | exact rn_len_string E rfl rfl rfl) ?_; clear E a; intro a E
      refine list_guard_yes E rfl rfl rfl rfl hb9 rfl (by decide) (rn_slice_h (s := 1) (hi := 4) E rfl rfl rfl rfl rfl (by rw [hL]) (by omega)) ?_; clear E a; intro a E
      try rw [hs2] at E
      refine list_guard_yes E rfl rfl rfl rfl hb9 rfl (by decide) (rn_string E rfl rfl rfl rfl rfl (sl_of O (b := b.take 4) (by rw [hl4]; exact hR2) rfl rfl) (S.stab.at (by repeat (first | exact mm1 | apply List.Mem.tail)))) ?_; clear E a; intro a E
      refine list_guard_yes E rfl rfl rfl rfl hb9 rfl (by decide) (rn_move E rfl rfl) ?_; clear E a; intro a E
      refine list_guard_yes E rfl rfl rfl rfl hb9 rfl (by decide) (by first | exact rn_neq E rfl rfl rfl | exact rn_neq_ptr_nil E rfl rfl rfl rfl | exact rn_neq_bool E rfl rfl rfl rfl | exact rn_neq_string E rfl rfl rfl) ?_; clear E a; intro a E
      refine list_pure E rfl rfl (by decide) (rn_pick_no' E rfl rfl hb9 rfl) ?_; clear E a; intro a E
      refine wpList_nil ?_
      refine joined_here ?_
      exact ⟨_, by simp; omega, S, E.keep (keep_cons rfl (keep_cons rfl keep_nil))⟩
  · clear E S a; intro a w J; obtain ⟨bt, hbt, S, E⟩ := J
    refine then_k hK ?_; clear hK; clear K
    refine if_bool E rfl (fun hb => ?_) (fun hb => ?_)
    · replace hb := Nrm.nrm hb
      have hno : openB b L = false := openB_no (fun q => by rw [hbt.2 ⟨q.1, q.2.1⟩] at hb; cases hb)
      refine wp_seq_k ?_; intro K hK
      refine region_list ?_
      refine list_pure E rfl rfl (by decide) (rn_assign E rfl rfl) ?_; clear E a; intro a E
      refine list_pure E rfl rfl (by decide) (rn_assign E rfl rfl) ?_; clear E a; intro a E
      refine wpList_nil ?_
      refine then_k hK ?_; clear hK; clear K
      refine wp_ret ?_
      refine then_ret ?_; clear hK; clear K
      refine ret2 E rfl rfl rfl ?_
      exact ⟨_, rfl, _, by rw [hno], fun q => (by rw [hno] at q; cases q), S.tr⟩
    · replace hb := Nrm.nrm hb
      obtain ⟨hl, h4⟩ := hbt.1 hb
      refine wp_skip ?_
      refine then_k hK ?_; clear hK; clear K
      refine wp_seq_k ?_; intro K hK
      refine wp_seq_k ?_; intro K hK
      obtain ⟨ad3, c3, hs3, hR3⟩ := hO.cut (lo := 96) (hi := b.length) (by omega) (by omega) (by omega)
      rw [show (List.drop (96 * 1) (byt b)).take ((b.length - 96) * 1) = byt (b.drop 96) by rw [Nat.mul_one, Nat.mul_one, byt_drop, byt_take, List.take_of_length_le (by rw [List.length_drop]; omega)]] at hR3
      have hl3 : (b.drop 96).length = b.length - 96 := List.length_drop
      rw [← hl3] at hR3 hs3
      obtain ⟨ad5, c5, hs5, hR5⟩ := hO.cut (lo := 0) (hi := 96) (by omega) (by omega) (by omega)
      rw [Nat.sub_zero] at hs5 hR5
      rw [show (List.drop (0 * 1) (byt b)).take (96 * 1) = byt (b.take 96) by simp [byt_take]] at hR5
      have hl5 : (b.take 96).length = 96 := by rw [List.length_take]; omega
      have hR5 : Rd O 1 (.slice ad5 96 c5) (b.take 96).length (byt (b.take 96)) := by rw [hl5]; exact hR5
      refine region_mix0 S (.ofL [(0, 0), (1, 0), (4, 0), (5, 0), (2, 1), (3, 1), (6, 3), (7, 2)]) (by kernel_rfl) (by kernel_rfl) ?_
      clear S; intro w S
      refine mix_pure E rfl rfl rfl (by decide) (fun w h => rn_move E rfl rfl) ?_; clear E a; intro a E
      refine mix_pure E rfl rfl rfl (by decide) (fun w h => rn_slice_l (s := 1) (lo := 96) E rfl rfl rfl rfl rfl rfl (by omega)) ?_; clear E a; intro a E
      rw [hs3] at E
      refine mix_pure E rfl rfl rfl (by decide) (fun w h => rn_move E rfl rfl) ?_; clear E a; intro a E
      refine mix_pure E rfl rfl rfl (by decide) (fun w h => rn_slice_h (s := 1) (hi := 96) E rfl rfl rfl rfl rfl rfl (by omega)) ?_; clear E a; intro a E
      rw [hs5] at E
      refine mix_call E rfl rfl rfl (by decide) rfl Tryd.func66 rfl (by kernel_rfl) rfl (reader_ret O _ (b.drop 96) _ hR3 (S.hp.sel (sel_cons (by repeat (first | exact pk1 | apply pick_tail)) (sel_nil _))) (by omega)) ?_
      rintro v20 w ⟨p, R, rfl, hR, hT⟩; clear E a; intro a E
      have S := S.call2 (sel_cons (by repeat (first | exact pk1 | apply pick_tail)) (sel_nil _)) hT
      refine ⟨S.stab.sub (by first | (simp; done) | (simp +contextual; done)), ?_⟩
      refine mix_call E rfl rfl rfl (by decide) rfl Tryd.func70 rfl (by kernel_rfl) rfl (takesum_ret p (b.drop 96) 0 R _ hR (S.hp.sel (sel_cons (by repeat (first | exact pk1 | apply pick_tail)) (sel_nil _))) (by omega)) ?_
      rintro v21 w ⟨R1, rfl, hR1, hT⟩; clear E a; intro a E
      have S := S.call1 (sel_cons (by repeat (first | exact pk1 | apply pick_tail)) (sel_nil _)) hT
      refine ⟨S.stab.sub (by first | (simp; done) | (simp +contextual; done)), ?_⟩
      refine mix_call3 E rfl rfl rfl (by decide) rfl Tryd.func71 rfl (by kernel_rfl) rfl (sumcheck_ret (fsAt (b.drop 96) 0) O _ (b.take 96) hR5 (by omega) _ (S.hp.sel (sel_cons (by repeat (first | exact pk1 | apply pick_tail)) (sel_nil _)))) ?_
      rintro v24 w ⟨rfl, hT⟩; clear E a; intro a E
      have S := S.call1 (sel_cons (by repeat (first | exact pk1 | apply pick_tail)) (sel_nil _)) hT; rw [fsAt_drop, Fs.eqB_eq] at E
      refine mix_free E rfl rfl rfl (by decide) (fun w => rn_not E rfl rfl) ?_; clear E a; intro a E
      refine mix_nil ?_
      refine then_k hK ?_; clear hK; clear K
      refine if_bool E rfl (fun hb => ?_) (fun hb => ?_)
      · replace hb := Nrm.nrm hb
        have hno : openB b L = false := openB_no (fun q => by rw [decide_eq_true q.2.2] at hb; cases hb)
        refine wp_seq_k ?_; intro K hK
        refine region_list ?_
        refine list_pure E rfl rfl (by decide) (rn_assign E rfl rfl) ?_; clear E a; intro a E
        refine list_pure E rfl rfl (by decide) (rn_assign E rfl rfl) ?_; clear E a; intro a E
        refine wpList_nil ?_
        refine then_k hK ?_; clear hK; clear K
        refine wp_ret ?_
        refine then_ret ?_; clear hK; clear K
        refine ret2 E rfl rfl rfl ?_
        exact ⟨_, rfl, _, by rw [hno], fun q => (by rw [hno] at q; cases q), (S.only (Bs := [O]) (sel_cons (by repeat (first | exact pk1 | apply pick_tail)) (sel_nil _))).tr⟩
      · replace hb := Nrm.nrm hb
        have hyes : openB b L = true := (openB_iff b L).2 ⟨hl, h4, by simpa using hb⟩
        refine wp_skip ?_
        refine then_k hK ?_; clear hK; clear K
        refine wp_seq_k ?_; intro K hK
        refine region_list ?_
        refine list_pure E rfl rfl (by decide) (rn_move E rfl rfl) ?_; clear E a; intro a E
        refine list_pure E rfl rfl (by decide) (rn_slice_h (s := 1) (hi := 96) E rfl rfl rfl rfl rfl rfl (by omega)) ?_; clear E a; intro a E
        rw [hs5] at E
        refine list_pure E rfl rfl (by decide) (rn_assign E rfl rfl) ?_; clear E a; intro a E
        refine list_pure E rfl rfl (by decide) (rn_assign E rfl rfl) ?_; clear E a; intro a E
        refine wpList_nil ?_
        refine then_k hK ?_; clear hK; clear K
        refine wp_ret ?_
        refine ret2 E rfl rfl rfl ?_
        exact ⟨_, rfl, _, by rw [hyes], fun _ => hR5, (S.only (Bs := [O]) (sel_cons (by repeat (first | exact pk1 | apply pick_tail)) (sel_nil _))).tr⟩

theorem formed_ret (O : Chunk) (v : Value) (b L : List UInt8) (f : Nat) (hO : Rd O 1 v b.length (byt b)) (hcap : ∃ ad c, v = .slice ad b.length c ∧ b.length ≤ c) (w0 : World) (H : Hp w0 [O]) :
    Ret Tryd.prog 53 #[v, str L, .int .i64 f] w0 fun u w' => u = .bool (formB b L f) ∧ Trs w0 w' [O] [O] := by
  have S := St.begin H
  obtain ⟨ad, c, rfl, hc⟩ := hcap
  refine enter3 34 Tryd.func53 rfl rfl (by decide) ?_; intro a E
  refine wp_seq_k ?_; intro K hK
  refine region_list ?_
  refine list_pure E rfl rfl (by decide) (rn_assign E rfl rfl) ?_; clear E a; intro a E
  refine wpList_nil ?_
  refine then_k hK ?_; clear hK; clear K
  refine wp_seq_k ?_; intro K hK
  refine wp_seq_k ?_; intro K hK
  refine wp_join (fun (a : Act) (w' : World) => ∃ bt : Bool, (bt = false ↔ b.length = 128 ∧ f ≤ 96 ∧ b.take 4 = L) ∧ St w0 [O] w' [O] ∧ Fr a 34 [(0, .slice ad b.length c), (2, .int .i64 f), (21, .bool bt)]) ?_ ?_
  · skip
    refine region_list ?_
    refine list_pure E rfl rfl (by decide) (rn_move E rfl rfl) ?_; clear E a; intro a E
    refine list_pure E rfl rfl (by decide) (by first | exact rn_len E rfl rfl rfl | exact rn_len_str E rfl rfl rfl | exact rn_len_string E rfl rfl rfl) ?_; clear E a; intro a E
    refine list_pure E rfl rfl (by decide) (by first | exact rn_neq E rfl rfl rfl | exact rn_neq_ptr_nil E rfl rfl rfl rfl | exact rn_neq_bool E rfl rfl rfl rfl | exact rn_neq_string E rfl rfl rfl) ?_; clear E a; intro a E
    refine list_pure E rfl rfl (by decide) (rn_move E rfl rfl) ?_; clear E a; intro a E
    refine guard_split E (t := 11) rfl (fun hb11 => ?_) (fun hb11 => ?_)
    · have hb11n := hb11; replace hb11n := Nrm.nrm hb11n
      refine list_guard_no E rfl rfl rfl rfl hb11 rfl (by decide) ?_; clear E a; intro a E
      refine list_guard_no E rfl rfl rfl rfl hb11 rfl (by decide) ?_; clear E a; intro a E
      refine list_pure E rfl rfl (by decide) (rn_pick_yes' E rfl rfl hb11 rfl) ?_; clear E a; intro a E
      refine list_pure E rfl rfl (by decide) (rn_move E rfl rfl) ?_; clear E a; intro a E
      refine list_guard_no E rfl rfl rfl rfl rfl rfl (by decide) ?_; clear E a; intro a E
      refine list_guard_no E rfl rfl rfl rfl rfl rfl (by decide) ?_; clear E a; intro a E
      refine list_guard_no E rfl rfl rfl rfl rfl rfl (by decide) ?_; clear E a; intro a E
      refine list_guard_no E rfl rfl rfl rfl rfl rfl (by decide) ?_; clear E a; intro a E
      refine list_guard_no E rfl rfl rfl rfl rfl rfl (by decide) ?_; clear E a; intro a E
      refine list_pure E rfl rfl (by decide) (rn_pick_yes' E rfl rfl rfl rfl) ?_; clear E a; intro a E
      refine wpList_nil ?_
      refine joined_here ?_
      exact ⟨_, by first | (simp; omega) | (simp [hl]; intros; omega), S, E.keep (keep_cons rfl (keep_cons rfl (keep_cons rfl keep_nil)))⟩
    · have hb11n := hb11; replace hb11n := Nrm.nrm hb11n
      refine list_guard_yes E rfl rfl rfl rfl hb11 rfl (by decide) (rn_move E rfl rfl) ?_; clear E a; intro a E
      refine list_guard_yes E rfl rfl rfl rfl hb11 rfl (by decide) (rn_gtr E rfl rfl rfl) ?_; clear E a; intro a E
      refine list_pure E rfl rfl (by decide) (rn_pick_no' E rfl rfl hb11 rfl) ?_; clear E a; intro a E
      refine list_pure E rfl rfl (by decide) (rn_move E rfl rfl) ?_; clear E a; intro a E
      refine guard_split E (t := 15) rfl (fun hb15 => ?_) (fun hb15 => ?_)
      · have hb15n := hb15; replace hb15n := Nrm.nrm hb15n
        refine list_guard_no E rfl rfl rfl rfl hb15 rfl (by decide) ?_; clear E a; intro a E
        refine list_guard_no E rfl rfl rfl rfl hb15 rfl (by decide) ?_; clear E a; intro a E
        refine list_guard_no E rfl rfl rfl rfl hb15 rfl (by decide) ?_; clear E a; intro a E
        refine list_guard_no E rfl rfl rfl rfl hb15 rfl (by decide) ?_; clear E a; intro a E
        refine list_guard_no E rfl rfl rfl rfl hb15 rfl (by decide) ?_; clear E a; intro a E
        refine list_pure E rfl rfl (by decide) (rn_pick_yes' E rfl rfl hb15 rfl) ?_; clear E a; intro a E
        refine wpList_nil ?_
        refine joined_here ?_
        exact ⟨_, by first | (simp; omega) | (simp [hl]; intros; omega), S, E.keep (keep_cons rfl (keep_cons rfl (keep_cons rfl keep_nil)))⟩
      · have hb15n := hb15; replace hb15n := Nrm.nrm hb15n
        have hl : b.length = 128 := by omega
        obtain ⟨ad2, c2, hs2, hR2⟩ := hO.cut (lo := 0) (hi := 4) (by omega) (by omega) (by omega)
        rw [Nat.sub_zero] at hs2 hR2
        rw [show (List.drop (0 * 1) (byt b)).take (4 * 1) = byt (b.take 4) by simp [byt_take]] at hR2
        have hl4 : (b.take 4).length = 4 := by rw [List.length_take]; omega
        refine list_guard_yes E rfl rfl rfl rfl hb15 rfl (by decide) (rn_move E rfl rfl) ?_; clear E a; intro a E
        refine list_guard_yes E rfl rfl rfl rfl hb15 rfl (by decide) (rn_slice_h (s := 1) (hi := 4) E rfl rfl rfl rfl rfl rfl (by omega)) ?_; clear E a; intro a E
        try rw [hs2] at E
        refine list_guard_yes E rfl rfl rfl rfl hb15 rfl (by decide) (rn_string E rfl rfl rfl rfl rfl (sl_of O (b := b.take 4) (by rw [hl4]; exact hR2) rfl rfl) (S.stab.at (by repeat (first | exact mm1 | apply List.Mem.tail)))) ?_; clear E a; intro a E
        refine list_guard_yes E rfl rfl rfl rfl hb15 rfl (by decide) (rn_move E rfl rfl) ?_; clear E a; intro a E
        refine list_guard_yes E rfl rfl rfl rfl hb15 rfl (by decide) (by first | exact rn_neq E rfl rfl rfl | exact rn_neq_ptr_nil E rfl rfl rfl rfl | exact rn_neq_bool E rfl rfl rfl rfl | exact rn_neq_string E rfl rfl rfl) ?_; clear E a; intro a E
        refine list_pure E rfl rfl (by decide) (rn_pick_no' E rfl rfl hb15 rfl) ?_; clear E a; intro a E
        refine wpList_nil ?_
        refine joined_here ?_
        exact ⟨_, by first | (simp; omega) | (simp [hl]; intros; omega), S, E.keep (keep_cons rfl (keep_cons rfl (keep_cons rfl keep_nil)))⟩
  · clear E S a; intro a w J; obtain ⟨bt, hbt, S, E⟩ := J
    refine then_k hK ?_; clear hK; clear K
    refine if_bool E rfl (fun hb => ?_) (fun hb => ?_)
    · replace hb := Nrm.nrm hb
      have hno : formB b L f = false := formB_false (fun q => by rw [hbt.2 ⟨((openB_iff b L).1 q.1).1, q.2.1, ((openB_iff b L).1 q.1).2.1⟩] at hb; cases hb)
      refine wp_seq_k ?_; intro K hK
      refine region_list ?_
      refine list_pure E rfl rfl (by decide) (rn_assign E rfl rfl) ?_; clear E a; intro a E
      refine wpList_nil ?_
      refine then_k hK ?_; clear hK; clear K
      refine wp_ret ?_
      refine then_ret ?_; clear hK; clear K
      refine ret1 E rfl rfl ?_
      exact ⟨_, rfl, by rw [hno], S.tr⟩
    · replace hb := Nrm.nrm hb
      obtain ⟨hl, hf, h4⟩ := hbt.1 hb
      refine wp_skip ?_
      refine then_k hK ?_; clear hK; clear K
      refine wp_seq_k ?_; intro K hK
      refine region_list ?_
      refine list_pure E rfl rfl (by decide) (rn_move E rfl rfl) ?_; clear E a; intro a E
      refine list_pure E rfl rfl (by decide) (rn_move E rfl rfl) ?_; clear E a; intro a E
      refine list_call E rfl rfl (by decide) rfl Tryd.func47 rfl (by kernel_rfl) rfl (dnought_ret O _ b hO f 96 (by omega) (by omega) (by omega) _ (S.hp.sel (sel_cons (by repeat (first | exact pk1 | apply pick_tail)) (sel_nil _)))) ?_
      rintro v24 w ⟨rfl, hT⟩; clear E a; intro a E
      have S := S.call1 (sel_cons (by repeat (first | exact pk1 | apply pick_tail)) (sel_nil _)) hT; rw [take_drop_eq] at E
      refine list_pure E rfl rfl (by decide) (rn_assign E rfl rfl) ?_; clear E a; intro a E
      refine wpList_nil ?_
      refine then_k hK ?_; clear hK; clear K
      refine wp_seq_k ?_; intro K hK
      obtain ⟨ad5, c5, hs5, hR5⟩ := hO.cut (lo := 0) (hi := 96) (by omega) (by omega) (by omega)
      rw [Nat.sub_zero] at hs5 hR5
      rw [show (List.drop (0 * 1) (byt b)).take (96 * 1) = byt (b.take 96) by simp [byt_take]] at hR5
      have hl5 : (b.take 96).length = 96 := by rw [List.length_take]; omega
      have hR5 : Rd O 1 (.slice ad5 96 c5) (b.take 96).length (byt (b.take 96)) := by rw [hl5]; exact hR5
      refine wp_join (fun (a : Act) (w' : World) => St w0 [O] w' [O] ∧ Fr a 34 [(6, .bool (formB b L f))]) ?_ ?_
      · skip
        refine region_mix0 S (.ofL [(0, 0), (1, 0), (2, 0), (4, 0), (5, 0), (3, 1), (6, 3), (7, 2), (8, 2), (9, 2)]) (by kernel_rfl) (by kernel_rfl) ?_
        clear S; intro w S
        refine mix_pure E rfl rfl rfl (by decide) (fun w h => rn_move E rfl rfl) ?_; clear E a; intro a E
        refine mix_pure E rfl rfl rfl (by decide) (fun w h => rn_move E rfl rfl) ?_; clear E a; intro a E
        refine guard_split E (t := 26) rfl (fun hb26 => ?_) (fun hb26 => ?_)
        · have hb26n := hb26; replace hb26n := Nrm.nrm hb26n
          refine mix_guard_yes E rfl rfl rfl rfl rfl hb26 rfl (by decide) (fun w h => rn_move E rfl rfl) ?_; clear E a; intro a E
          refine mix_guard_yes E rfl rfl rfl rfl rfl hb26 rfl (by decide) (fun w h => rn_move E rfl rfl) ?_; clear E a; intro a E
          refine mix_guard_yes E rfl rfl rfl rfl rfl hb26 rfl (by decide) (fun w h => rn_slice_h (s := 1) (hi := 96) E rfl rfl rfl rfl rfl rfl (by omega)) ?_; clear E a; intro a E
          try rw [hs5] at E
          refine mix_guard_act E rfl rfl rfl rfl rfl hb26 ?_; refine wp_call' E rfl (by decide) rfl Tryd.func49 rfl (by kernel_rfl) rfl (dsumat_ret O _ b hO 96 (by omega) (by omega) _ (S.hp.sel (sel_cons (by repeat (first | exact pk1 | apply pick_tail)) (sel_nil _)))) ?_
          rintro v28 w ⟨rfl, hT⟩; clear E a; intro a E
          have S := S.call1 (sel_cons (by repeat (first | exact pk1 | apply pick_tail)) (sel_nil _)) hT
          refine ⟨S.stab.sub (by first | (simp; done) | (simp +contextual; done)), ?_⟩
          refine mix_guard_last E rfl rfl rfl rfl rfl hb26 ?_; refine wp_call' E rfl (by decide) rfl Tryd.func64 rfl (by kernel_rfl) rfl (dfletcher_ret O _ (b.take 96) hR5 (by omega) _ (S.hp.sel (sel_cons (by repeat (first | exact pk1 | apply pick_tail)) (sel_nil _)))) ?_
          rintro v31 w ⟨rfl, hT⟩; clear E a; intro a E
          have S := S.call1 (sel_cons (by repeat (first | exact pk1 | apply pick_tail)) (sel_nil _)) hT
          refine mix_guard_free E rfl rfl rfl rfl rfl hb26 rfl (by decide) (fun w => by first | exact rn_eql_pair E rfl rfl rfl rfl (by kernel_rfl) (by kernel_rfl) rfl rfl rfl | exact rn_eql_cells E rfl rfl rfl rfl (by kernel_rfl) (by kernel_rfl) rfl) ?_; clear E a; intro a E
          refine mix_free E rfl rfl rfl (by decide) (fun w => rn_pick_yes' E rfl rfl hb26 rfl) ?_; clear E a; intro a E
          refine mix_free E rfl rfl rfl (by decide) (fun w => rn_assign E rfl rfl) ?_; clear E a; intro a E
          refine mix_nil ?_
          refine joined_here ?_
          have hq : formB b L f = (fsAt b 96).eqB (fletch (b.take 96)) := by rw [Fs.eqB_eq, Bool.eq_iff_iff, formB_iff, openB_iff, decide_eq_true_eq]; exact ⟨fun q => q.1.2.2, fun q => ⟨⟨hl, h4, q⟩, hf, by simpa using hb26n⟩⟩
          exact ⟨S.only (Bs := [O]) (sel_cons (by repeat (first | exact pk1 | apply pick_tail)) (sel_nil _)), by rw [hq]; exact E.keep (keep_cons rfl keep_nil)⟩
        · have hb26n := hb26; replace hb26n := Nrm.nrm hb26n
          refine mix_guard_no E rfl rfl rfl rfl rfl hb26 rfl (by decide) ?_; clear E a; intro a E
          refine mix_guard_no E rfl rfl rfl rfl rfl hb26 rfl (by decide) ?_; clear E a; intro a E
          refine mix_guard_no E rfl rfl rfl rfl rfl hb26 rfl (by decide) ?_; clear E a; intro a E
          refine mix_guard_no_act E rfl rfl rfl rfl rfl hb26 rfl (by decide) S.stab ?_; clear E a; intro a E
          refine mix_guard_no_last E rfl rfl rfl rfl rfl hb26 rfl (by decide) ?_; clear E a; intro a E
          refine mix_guard_no2 E rfl rfl rfl rfl rfl hb26 rfl (by decide) ?_; clear E a; intro a E
          refine mix_free E rfl rfl rfl (by decide) (fun w => rn_pick_no' E rfl rfl hb26 rfl) ?_; clear E a; intro a E
          refine mix_free E rfl rfl rfl (by decide) (fun w => rn_assign E rfl rfl) ?_; clear E a; intro a E
          refine mix_nil ?_
          refine joined_here ?_
          have hq : formB b L f = false := formB_false (fun q => by rw [decide_eq_true q.2.2] at hb26; cases hb26)
          exact ⟨S.only (Bs := [O]) (sel_cons (by repeat (first | exact pk1 | apply pick_tail)) (sel_nil _)), by rw [hq]; exact E.keep (keep_cons rfl keep_nil)⟩
      · clear E S a; intro a w J; obtain ⟨S, E⟩ := J
        refine then_k hK ?_; clear hK; clear K
        refine wp_ret ?_
        refine ret1 E rfl rfl ?_
        exact ⟨_, rfl, rfl, S.tr⟩
end Go.Proofs.YtmghbcaookahaaaDoor
