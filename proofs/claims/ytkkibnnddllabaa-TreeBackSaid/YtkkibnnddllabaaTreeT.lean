/-
  Objects as blocks: pieces, Split; the document's.
-/
import Derived.Test.YtkkibnnddllabaaTreeS
namespace Go.Sl
theorem thin_set {bs : List (List UInt8)} {i : Nat} {y : List UInt8} (hi : i < bs.length) (h : thinB bs[i] = y) : ((bs.take i).map thinB ++ bs.drop i).set i y = (bs.take (i + 1)).map thinB ++ bs.drop (i + 1) := by
  have h1 : ((bs.take i).map thinB).length = i := by simp; omega
  rw [List.set_append, if_neg (by omega), h1, Nat.sub_self, List.drop_eq_getElem_cons hi, List.set_cons_zero, List.take_add_one, List.getElem?_eq_getElem hi, List.map_append, List.append_assoc]
  show _ = _ ++ ([thinB bs[i]] ++ _)
  rw [h]; rfl
theorem thin_keep {bs : List (List UInt8)} {i : Nat} (hi : i < bs.length) (h : thinB bs[i] = bs[i]) : (bs.take (i + 1)).map thinB ++ bs.drop (i + 1) = (bs.take i).map thinB ++ bs.drop i := by
  rw [List.drop_eq_getElem_cons hi, List.take_add_one, List.getElem?_eq_getElem hi, List.map_append, List.append_assoc]
  show _ ++ ([thinB bs[i]] ++ _) = _
  rw [h]; rfl
end Go.Sl
namespace Go.Proofs.Ytkkibnnddllabaa
open Go.Sl
set_option maxRecDepth 10000

/-- A list of blocks: the slice of slices, and their own blocks. -/
def Bl (C D : Chunk) (v : Value) (bs : List (List UInt8)) : Prop := ∃ vs, Buf C 22 1 v bs.length vs ∧ Inn 5 1 byt D vs bs
def Pl (C D : Chunk) (v : Value) (bs : List (List Pt)) : Prop := ∃ vs, Buf C 30 1 v bs.length vs ∧ Inn 40 9 (fun l => l.flatMap Pt.lay) D vs bs

theorem pieces_ret (O : Chunk) (v : Value) (b : List UInt8) (hO : Rd O 1 v b.length (byt b)) (hbl : b.length ≤ 140737488355328) (hcap : ∃ ad c, v = .slice ad b.length c ∧ b.length ≤ c) (k : Nat) (hk : 64 ≤ k) (hk2 : k ≤ 1024) (w0 : World) (H : Hp w0 [O]) :
    Ret Try.prog 30 #[v, .int .i64 k] w0 fun u w' => ∃ C D, Bl C D u (chop k b) ∧ Trs w0 w' [O] [C, D, O] := by
  have S := (St.begin H).addNil.addNil
  obtain ⟨ad, c, rfl, hcap⟩ := hcap
  refine enter2 25 Try.func30 rfl rfl (by decide) ?_; intro a E
  refine wp_seq_k ?_; intro K hK
  refine region_list ?_
  refine list_pure E rfl rfl (by decide) (rn_assign E rfl rfl) ?_; clear E a; intro a E
  refine wpList_nil ?_
  refine then_k hK ?_; clear hK; clear K
  refine wp_seq_k ?_; intro K hK
  refine region_list ?_
  refine list_pure E rfl rfl (by decide) (rn_assign E rfl rfl) ?_; clear E a; intro a E
  refine wpList_nil ?_
  refine then_k hK ?_; clear hK; clear K
  refine wp_seq_k ?_; intro K hK
  refine wp_block ?_
  refine wp_loop_ghost (fun (m : Nat) (a : Act) (w' : World) => ∃ (i q p : Nat) (ad' : Option Addr) (c' : Nat) (vo : Value) (C D : Chunk) (vs : List Value), m = b.length - p ∧ q = i * k ∧ p = min q b.length ∧ q < b.length + k ∧ b.length - p ≤ c' ∧ Rd O 1 (.slice ad' (b.length - p) c') (b.length - p) (byt (b.drop p)) ∧ Buf C 22 1 vo i vs ∧ Inn 5 1 byt D vs (chopN k b i) ∧ St w0 [O] w' [C, D, O] ∧ Fr a 25 [(0, .slice ad' (b.length - p) c'), (1, .int .i64 k), (5, vo)]) (b.length - 0) ?_ ?_
  · exact ⟨0, 0, 0, ad, c, _, [], [], [], rfl, by simp, by simp, by omega, by omega, by simpa using hO, Buf.nil _ _, rfl, S, E.keep (keep_cons rfl (keep_cons rfl (keep_cons rfl keep_nil)))⟩
  clear E; clear a; rintro m a w ⟨i, q, p, ad', c', vo, C, D, vs, rfl, hq, hp, hqk, hcc, hR, hC, hD, S, E⟩
  refine wp_seq_k ?_; intro K hK
  refine wp_seq_k ?_; intro K hK
  refine region_list ?_
  refine list_pure E rfl rfl (by decide) (rn_move E rfl rfl) ?_; clear E a; intro a E
  refine list_pure E rfl rfl (by decide) (by first | exact rn_len E rfl rfl rfl | exact rn_len_str E rfl rfl rfl | exact rn_len_string E rfl rfl rfl) ?_; clear E a; intro a E
  refine list_pure E rfl rfl (by decide) (rn_gtr E rfl rfl rfl) ?_; clear E a; intro a E
  refine wpList_nil ?_
  refine then_k hK ?_; clear hK; clear K
  refine if_bool E rfl (fun hb => ?_) (fun hb => ?_)
  · first | with_reducible replace hb := n1 hb | with_reducible replace hb := n2 hb | with_reducible replace hb := n3 hb | with_reducible replace hb := n4 hb | with_reducible replace hb := n5 hb | with_reducible replace hb := n6 hb | replace hb := n1 hb | replace hb := n2 hb | replace hb := n3 hb | replace hb := n4 hb | replace hb := n5 hb | replace hb := n6 hb | skip
    refine wp_skip ?_
    refine then_k hK ?_; clear hK; clear K
    refine wp_block ?_
    refine wp_seq_k ?_; intro K hK
    have hpq : p = q := by omega
    obtain ⟨n, hn⟩ : ∃ n, n = min k (b.length - p) := ⟨_, rfl⟩
    have hik : i * 64 ≤ i * k := Nat.mul_le_mul_left _ hk
    refine region_list ?_
    refine list_pure E rfl rfl (by decide) (rn_move E rfl rfl) ?_; clear E a; intro a E
    refine list_pure E rfl rfl (by decide) (rn_move E rfl rfl) ?_; clear E a; intro a E
    refine list_pure E rfl rfl (by decide) (by first | exact rn_len E rfl rfl rfl | exact rn_len_str E rfl rfl rfl | exact rn_len_string E rfl rfl rfl) ?_; clear E a; intro a E
    refine list_pure E rfl rfl (by decide) (rn_min E rfl rfl rfl) ?_; clear E a; intro a E
    rw [show min (k : Int) ((b.length - p : Nat) : Int) = (n : Int) by omega] at E
    refine list_pure E rfl rfl (by decide) (rn_assign E rfl rfl) ?_; clear E a; intro a E
    refine wpList_nil ?_
    refine then_k hK ?_; clear hK; clear K
    refine wp_seq_k ?_; intro K hK
    refine region_list ?_
    refine list_pure E rfl rfl (by decide) (rn_move E rfl rfl) ?_; clear E a; intro a E
    refine list_pure E rfl rfl (by decide) (rn_move E rfl rfl) ?_; clear E a; intro a E
    refine list_pure E rfl rfl (by decide) (rn_move E rfl rfl) ?_; clear E a; intro a E
    refine list_pure E rfl rfl (by decide) (rn_slice_h (hi := n) (s := 1) E rfl rfl rfl rfl rfl rfl (by omega)) ?_; clear E a; intro a E
    have hlp : (b.drop p).length = b.length - p := List.length_drop
    have hR1 : Rd O 1 (sliced ad' 0 n c' 1) ((b.drop p).take k).length (byt ((b.drop p).take k)) := by
      rw [← hlp] at hR
      have h := hR.bytes (lo := 0) (hi := n) (mx := c') (by omega) (by omega) (by omega)
      rw [List.drop_zero, Nat.sub_zero] at h
      rwa [show (b.drop p).take n = (b.drop p).take k by rw [hn, ← hlp, ← List.take_take, List.take_length]] at h
    refine list_call E rfl rfl (by decide) rfl Try.func55 rfl (by kernel_rfl) rfl (bclone_ret O _ ((b.drop p).take k) (by simp; omega) hR1 _ (S.hp.sel (sel_cons (by first | exact pk1 | exact pk2 | exact pk3 | exact pk4 | exact pk5 | exact pk6 | exact pk7 | exact pk8 | exact pk9) (sel_nil _)))) ?_
    rintro v18 w ⟨B, hB, hT⟩; clear E a; intro a E
    have S := S.call2 (sel_cons (by first | exact pk1 | exact pk2 | exact pk3 | exact pk4 | exact pk5 | exact pk6 | exact pk7 | exact pk8 | exact pk9) (sel_nil _)) hT; obtain ⟨ad18, c18, rfl⟩ := hB.slice
    refine list_wp rfl (wp_bslice (cells := [_]) E S rfl rfl (by decide) rfl rfl rfl rfl rfl (by decide) rfl ?_); clear E S a; intro a w b19 E S
    refine list_wp rfl (wp_append (by' := 24) E S rfl rfl (by decide) rfl rfl hC (by first | exact pk1 | exact pk2 | exact pk3 | exact pk4 | exact pk5 | exact pk6 | exact pk7 | exact pk8 | exact pk9) ((rd_cells (g := b19) (T := 22) (xs := [.slice ad18 ((b.drop p).take k).length c18]) (s := 1) (m := 1) rfl (by simp [Value.oneCell']) (by omega) 1).src (S.stab.at (by first | exact mm1 | exact mm2 | exact mm3 | exact mm4 | exact mm5 | exact mm6 | exact mm7 | exact mm8)) rfl) rfl rfl rfl rfl rfl rfl (by simp only [maxLen]; omega) (by omega) ?_); clear E S a; intro a w v20 C20 E S hB20
    refine list_pure E rfl rfl (by decide) (rn_assign E rfl rfl) ?_; clear E a; intro a E
    refine wpList_nil ?_
    refine then_k hK ?_; clear hK; clear K
    refine region_list ?_
    refine list_pure E rfl rfl (by decide) (rn_move E rfl rfl) ?_; clear E a; intro a E
    refine list_pure E rfl rfl (by decide) (rn_move E rfl rfl) ?_; clear E a; intro a E
    refine list_pure E rfl rfl (by decide) (rn_slice_l (lo := n) (s := 1) E rfl rfl rfl rfl rfl rfl (by omega)) ?_; clear E a; intro a E
    refine list_pure E rfl rfl (by decide) (rn_assign E rfl rfl) ?_; clear E a; intro a E
    refine wpList_nil ?_
    refine in_normal ?_
    refine then_normal ?_
    obtain ⟨ad2, c2, he2, hc2, hR2⟩ := hR.tailc (n := n) (by omega) hcc
    rw [he2, show b.length - p - n = b.length - (p + n) by omega] at E
    rw [Nat.mul_one, byt_drop, List.drop_drop, show b.length - p - n = b.length - (p + n) by omega] at hR2
    have S := S.gather (A := D) (B := B) (by first | exact pk1 | exact pk2 | exact pk3 | exact pk4 | exact pk5 | exact pk6 | exact pk7 | exact pk8 | exact pk9) (by first | exact pk1 | exact pk2 | exact pk3 | exact pk4 | exact pk5 | exact pk6 | exact pk7 | exact pk8 | exact pk9)
    exact ⟨_, by omega, i + 1, q + k, p + n, ad2, c2, v20, C20, D ++ B, vs ++ [_], rfl, by rw [hq, Nat.succ_mul], by omega, by omega, by omega, hR2, hB20, by rw [chopN_succ, ← hq, ← hpq]; exact hD.snoc hB, S.only (Bs := [C20, D ++ B, O]) (sel_cons (by first | exact pk1 | exact pk2 | exact pk3 | exact pk4 | exact pk5 | exact pk6 | exact pk7 | exact pk8 | exact pk9) (sel_cons (by first | exact pk1 | exact pk2 | exact pk3 | exact pk4 | exact pk5 | exact pk6 | exact pk7 | exact pk8 | exact pk9) (sel_cons (by first | exact pk1 | exact pk2 | exact pk3 | exact pk4 | exact pk5 | exact pk6 | exact pk7 | exact pk8 | exact pk9) (sel_nil _)))), E.keep (keep_cons rfl (keep_cons rfl (keep_cons rfl keep_nil)))⟩
  · first | with_reducible replace hb := n1 hb | with_reducible replace hb := n2 hb | with_reducible replace hb := n3 hb | with_reducible replace hb := n4 hb | with_reducible replace hb := n5 hb | with_reducible replace hb := n6 hb | replace hb := n1 hb | replace hb := n2 hb | replace hb := n3 hb | replace hb := n4 hb | replace hb := n5 hb | replace hb := n6 hb | skip
    refine wp_exit ?_
    refine then_exit ?_; clear hK; clear K
    refine then_exit ?_
    refine in_exit ?_
    refine then_k hK ?_; clear hK; clear K
    refine wp_seq_k ?_; intro K hK
    refine region_list ?_
    refine list_pure E rfl rfl (by decide) (rn_move E rfl rfl) ?_; clear E a; intro a E
    refine list_pure E rfl rfl (by decide) (rn_assign E rfl rfl) ?_; clear E a; intro a E
    refine wpList_nil ?_
    refine then_k hK ?_; clear hK; clear K
    refine wp_ret ?_
    refine ret1 E rfl rfl ?_
    obtain rfl : nch b.length k = i := nch_eq (by omega) (by omega)
    exact ⟨_, rfl, C, D, ⟨vs, by rw [chop_length]; exact hC, hD⟩, S.tr⟩
theorem ppieces_ret (O : Chunk) (v : Value) (b : List Pt) (hO : Rd O 9 v b.length (b.flatMap Pt.lay)) (hbl : b.length ≤ 1000000) (hcap : ∃ ad c, v = .slice ad b.length c ∧ b.length ≤ c) (k : Nat) (hk : 1 ≤ k) (hk2 : k ≤ 1024) (w0 : World) (H : Hp w0 [O]) :
    Ret Try.prog 34 #[v, .int .i64 k] w0 fun u w' => ∃ C D, Pl C D u (chop k b) ∧ Trs w0 w' [O] [C, D, O] := by
  have S := (St.begin H).addNil.addNil
  obtain ⟨ad, c, rfl, hcap⟩ := hcap
  refine enter2 25 Try.func34 rfl rfl (by decide) ?_; intro a E
  refine wp_seq_k ?_; intro K hK
  refine region_list ?_
  refine list_pure E rfl rfl (by decide) (rn_assign E rfl rfl) ?_; clear E a; intro a E
  refine wpList_nil ?_
  refine then_k hK ?_; clear hK; clear K
  refine wp_seq_k ?_; intro K hK
  refine region_list ?_
  refine list_pure E rfl rfl (by decide) (rn_assign E rfl rfl) ?_; clear E a; intro a E
  refine wpList_nil ?_
  refine then_k hK ?_; clear hK; clear K
  refine wp_seq_k ?_; intro K hK
  refine wp_block ?_
  refine wp_loop_ghost (fun (m : Nat) (a : Act) (w' : World) => ∃ (i q p : Nat) (ad' : Option Addr) (c' : Nat) (vo : Value) (C D : Chunk) (vs : List Value), m = b.length - p ∧ q = i * k ∧ p = min q b.length ∧ q < b.length + k ∧ b.length - p ≤ c' ∧ Rd O 9 (.slice ad' (b.length - p) c') (b.length - p) ((b.drop p).flatMap Pt.lay) ∧ Buf C 30 1 vo i vs ∧ Inn 40 9 (fun l => l.flatMap Pt.lay) D vs (chopN k b i) ∧ St w0 [O] w' [C, D, O] ∧ Fr a 25 [(0, .slice ad' (b.length - p) c'), (1, .int .i64 k), (5, vo)]) (b.length - 0) ?_ ?_
  · exact ⟨0, 0, 0, ad, c, _, [], [], [], rfl, by simp, by simp, by omega, by omega, by simpa using hO, Buf.nil _ _, rfl, S, E.keep (keep_cons rfl (keep_cons rfl (keep_cons rfl keep_nil)))⟩
  clear E; clear a; rintro m a w ⟨i, q, p, ad', c', vo, C, D, vs, rfl, hq, hp, hqk, hcc, hR, hC, hD, S, E⟩
  refine wp_seq_k ?_; intro K hK
  refine wp_seq_k ?_; intro K hK
  refine region_list ?_
  refine list_pure E rfl rfl (by decide) (rn_move E rfl rfl) ?_; clear E a; intro a E
  refine list_pure E rfl rfl (by decide) (by first | exact rn_len E rfl rfl rfl | exact rn_len_str E rfl rfl rfl | exact rn_len_string E rfl rfl rfl) ?_; clear E a; intro a E
  refine list_pure E rfl rfl (by decide) (rn_gtr E rfl rfl rfl) ?_; clear E a; intro a E
  refine wpList_nil ?_
  refine then_k hK ?_; clear hK; clear K
  refine if_bool E rfl (fun hb => ?_) (fun hb => ?_)
  · first | with_reducible replace hb := n1 hb | with_reducible replace hb := n2 hb | with_reducible replace hb := n3 hb | with_reducible replace hb := n4 hb | with_reducible replace hb := n5 hb | with_reducible replace hb := n6 hb | replace hb := n1 hb | replace hb := n2 hb | replace hb := n3 hb | replace hb := n4 hb | replace hb := n5 hb | replace hb := n6 hb | skip
    refine wp_skip ?_
    refine then_k hK ?_; clear hK; clear K
    refine wp_block ?_
    refine wp_seq_k ?_; intro K hK
    have hpq : p = q := by omega
    obtain ⟨n, hn⟩ : ∃ n, n = min k (b.length - p) := ⟨_, rfl⟩
    have hik : i * 1 ≤ i * k := Nat.mul_le_mul_left _ hk
    refine region_list ?_
    refine list_pure E rfl rfl (by decide) (rn_move E rfl rfl) ?_; clear E a; intro a E
    refine list_pure E rfl rfl (by decide) (rn_move E rfl rfl) ?_; clear E a; intro a E
    refine list_pure E rfl rfl (by decide) (by first | exact rn_len E rfl rfl rfl | exact rn_len_str E rfl rfl rfl | exact rn_len_string E rfl rfl rfl) ?_; clear E a; intro a E
    refine list_pure E rfl rfl (by decide) (rn_min E rfl rfl rfl) ?_; clear E a; intro a E
    rw [show min (k : Int) ((b.length - p : Nat) : Int) = (n : Int) by omega] at E
    refine list_pure E rfl rfl (by decide) (rn_assign E rfl rfl) ?_; clear E a; intro a E
    refine wpList_nil ?_
    refine then_k hK ?_; clear hK; clear K
    refine wp_seq_k ?_; intro K hK
    refine region_list ?_
    refine list_pure E rfl rfl (by decide) (rn_move E rfl rfl) ?_; clear E a; intro a E
    refine list_pure E rfl rfl (by decide) (rn_move E rfl rfl) ?_; clear E a; intro a E
    refine list_pure E rfl rfl (by decide) (rn_move E rfl rfl) ?_; clear E a; intro a E
    refine list_pure E rfl rfl (by decide) (rn_slice_h (hi := n) (s := 9) E rfl rfl rfl rfl rfl rfl (by omega)) ?_; clear E a; intro a E
    have hlp : (b.drop p).length = b.length - p := List.length_drop
    have hR1 : Rd O 9 (sliced ad' 0 n c' 9) ((b.drop p).take k).length (((b.drop p).take k).flatMap Pt.lay) := by
      rw [← hlp] at hR
      have h := hR.lays Pt.lay_len (lo := 0) (hi := n) (mx := c') (by omega) (by omega) (by omega)
      rw [List.drop_zero, Nat.sub_zero] at h
      rwa [show (b.drop p).take n = (b.drop p).take k by rw [hn, ← hlp, ← List.take_take, List.take_length]] at h
    refine list_call E rfl rfl (by decide) rfl Try.func57 rfl (by kernel_rfl) rfl (pclone_ret O _ ((b.drop p).take k) (by simp; omega) hR1 _ (S.hp.sel (sel_cons (by first | exact pk1 | exact pk2 | exact pk3 | exact pk4 | exact pk5 | exact pk6 | exact pk7 | exact pk8 | exact pk9) (sel_nil _)))) ?_
    rintro v18 w ⟨B, hB, hT⟩; clear E a; intro a E
    have S := S.call2 (sel_cons (by first | exact pk1 | exact pk2 | exact pk3 | exact pk4 | exact pk5 | exact pk6 | exact pk7 | exact pk8 | exact pk9) (sel_nil _)) hT; obtain ⟨ad18, c18, rfl⟩ := hB.slice
    refine list_wp rfl (wp_bslice (cells := [_]) E S rfl rfl (by decide) rfl rfl rfl rfl rfl (by decide) rfl ?_); clear E S a; intro a w b19 E S
    refine list_wp rfl (wp_append (by' := 24) E S rfl rfl (by decide) rfl rfl hC (by first | exact pk1 | exact pk2 | exact pk3 | exact pk4 | exact pk5 | exact pk6 | exact pk7 | exact pk8 | exact pk9) ((rd_cells (g := b19) (T := 30) (xs := [.slice ad18 ((b.drop p).take k).length c18]) (s := 1) (m := 1) rfl (by simp [Value.oneCell']) (by omega) 1).src (S.stab.at (by first | exact mm1 | exact mm2 | exact mm3 | exact mm4 | exact mm5 | exact mm6 | exact mm7 | exact mm8)) rfl) rfl rfl rfl rfl rfl rfl (by simp only [maxLen]; omega) (by omega) ?_); clear E S a; intro a w v20 C20 E S hB20
    refine list_pure E rfl rfl (by decide) (rn_assign E rfl rfl) ?_; clear E a; intro a E
    refine wpList_nil ?_
    refine then_k hK ?_; clear hK; clear K
    refine region_list ?_
    refine list_pure E rfl rfl (by decide) (rn_move E rfl rfl) ?_; clear E a; intro a E
    refine list_pure E rfl rfl (by decide) (rn_move E rfl rfl) ?_; clear E a; intro a E
    refine list_pure E rfl rfl (by decide) (rn_slice_l (lo := n) (s := 9) E rfl rfl rfl rfl rfl rfl (by omega)) ?_; clear E a; intro a E
    refine list_pure E rfl rfl (by decide) (rn_assign E rfl rfl) ?_; clear E a; intro a E
    refine wpList_nil ?_
    refine in_normal ?_
    refine then_normal ?_
    obtain ⟨ad2, c2, he2, hc2, hR2⟩ := hR.tailc (n := n) (by omega) hcc
    rw [he2, show b.length - p - n = b.length - (p + n) by omega] at E
    rw [flat_drop Pt.lay_len, List.drop_drop, show b.length - p - n = b.length - (p + n) by omega] at hR2
    have S := S.gather (A := D) (B := B) (by first | exact pk1 | exact pk2 | exact pk3 | exact pk4 | exact pk5 | exact pk6 | exact pk7 | exact pk8 | exact pk9) (by first | exact pk1 | exact pk2 | exact pk3 | exact pk4 | exact pk5 | exact pk6 | exact pk7 | exact pk8 | exact pk9)
    exact ⟨_, by omega, i + 1, q + k, p + n, ad2, c2, v20, C20, D ++ B, vs ++ [_], rfl, by rw [hq, Nat.succ_mul], by omega, by omega, by omega, hR2, hB20, by rw [chopN_succ, ← hq, ← hpq]; exact hD.snoc hB, S.only (Bs := [C20, D ++ B, O]) (sel_cons (by first | exact pk1 | exact pk2 | exact pk3 | exact pk4 | exact pk5 | exact pk6 | exact pk7 | exact pk8 | exact pk9) (sel_cons (by first | exact pk1 | exact pk2 | exact pk3 | exact pk4 | exact pk5 | exact pk6 | exact pk7 | exact pk8 | exact pk9) (sel_cons (by first | exact pk1 | exact pk2 | exact pk3 | exact pk4 | exact pk5 | exact pk6 | exact pk7 | exact pk8 | exact pk9) (sel_nil _)))), E.keep (keep_cons rfl (keep_cons rfl (keep_cons rfl keep_nil)))⟩
  · first | with_reducible replace hb := n1 hb | with_reducible replace hb := n2 hb | with_reducible replace hb := n3 hb | with_reducible replace hb := n4 hb | with_reducible replace hb := n5 hb | with_reducible replace hb := n6 hb | replace hb := n1 hb | replace hb := n2 hb | replace hb := n3 hb | replace hb := n4 hb | replace hb := n5 hb | replace hb := n6 hb | skip
    refine wp_exit ?_
    refine then_exit ?_; clear hK; clear K
    refine then_exit ?_
    refine in_exit ?_
    refine then_k hK ?_; clear hK; clear K
    refine wp_seq_k ?_; intro K hK
    refine region_list ?_
    refine list_pure E rfl rfl (by decide) (rn_move E rfl rfl) ?_; clear E a; intro a E
    refine list_pure E rfl rfl (by decide) (rn_assign E rfl rfl) ?_; clear E a; intro a E
    refine wpList_nil ?_
    refine then_k hK ?_; clear hK; clear K
    refine wp_ret ?_
    refine ret1 E rfl rfl ?_
    obtain rfl : nch b.length k = i := nch_eq (by omega) (by omega)
    exact ⟨_, rfl, C, D, ⟨vs, by rw [chop_length]; exact hC, hD⟩, S.tr⟩

theorem thin_ret (C D : Chunk) (v : Value) (bs : List (List UInt8)) (hB : Bl C D v bs) (hl : bs.length ≤ 140737488355328) (hs : ∀ x ∈ bs, x.length ≤ 1024) (w0 : World) (H : Hp w0 [C, D]) :
    Ret Try.prog 29 #[v] w0 fun u w' => ∃ C' D', Bl C' D' u (bs.map thinB) ∧ Trs w0 w' [C, D] [C', D'] := by
  have S := St.begin H
  obtain ⟨vs, hC, hD⟩ := hB
  obtain ⟨ad, c, rfl⟩ := hC.slice
  refine enter1 19 Try.func29 rfl rfl (by decide) ?_; intro a E
  refine wp_seq_k ?_; intro K hK
  refine region_list ?_
  refine list_pure E rfl rfl (by decide) (rn_assign E rfl rfl) ?_; clear E a; intro a E
  refine wpList_nil ?_
  refine then_k hK ?_; clear hK; clear K
  refine wp_seq_k ?_; intro K hK
  refine wp_seq_k ?_; intro K hK
  refine region_list ?_
  refine list_pure E rfl rfl (by decide) (rn_move E rfl rfl) ?_; clear E a; intro a E
  refine list_pure E rfl rfl (by decide) (by first | exact rn_len E rfl rfl rfl | exact rn_len_str E rfl rfl rfl | exact rn_len_string E rfl rfl rfl) ?_; clear E a; intro a E
  refine list_pure E rfl rfl (by decide) (rn_move E rfl rfl) ?_; clear E a; intro a E
  refine wpList_nil ?_
  refine then_k hK ?_; clear hK; clear K
  refine wp_block ?_
  refine wp_loop_ghost (fun (m : Nat) (a : Act) (w' : World) => ∃ (i : Nat) (C' D' : Chunk) (vs : List Value), m = bs.length - i ∧ i ≤ bs.length ∧ Buf C' 22 1 (.slice ad bs.length c) bs.length vs ∧ Inn 5 1 byt D' vs ((bs.take i).map thinB ++ bs.drop i) ∧ St w0 [C, D] w' [C', D'] ∧ Fr a 19 [(0, .slice ad bs.length c), (5, .slice ad bs.length c), (6, .int .i64 bs.length), (7, .int .i64 i)]) (bs.length - 0) ?_ ?_
  · exact ⟨0, C, D, vs, rfl, by omega, hC, by simpa using hD, S, E.keep (keep_cons rfl (keep_cons rfl (keep_cons rfl (keep_cons rfl keep_nil))))⟩
  clear E; clear a; rintro m a w ⟨i, C', D', vs, rfl, hi, hC, hD, S, E⟩
  refine wp_seq_k ?_; intro K hK
  refine region_list ?_
  refine list_pure E rfl rfl (by decide) (rn_lss E rfl rfl rfl) ?_; clear E a; intro a E
  refine wpList_nil ?_
  refine then_k hK ?_; clear hK; clear K
  refine wp_seq_k ?_; intro K hK
  refine if_bool E rfl (fun hb => ?_) (fun hb => ?_)
  · first | with_reducible replace hb := n1 hb | with_reducible replace hb := n2 hb | with_reducible replace hb := n3 hb | with_reducible replace hb := n4 hb | with_reducible replace hb := n5 hb | with_reducible replace hb := n6 hb | replace hb := n1 hb | replace hb := n2 hb | replace hb := n3 hb | replace hb := n4 hb | replace hb := n5 hb | replace hb := n6 hb | skip
    refine wp_skip ?_
    refine then_k hK ?_; clear hK; clear K
    refine wp_seq_k ?_; intro K hK
    refine wp_block ?_
    refine wp_seq_k ?_; intro K hK
    have hib : i < bs.length := by omega
    have hL : ((bs.take i).map thinB ++ bs.drop i).length = bs.length := by rw [List.length_append, List.length_map, List.length_take, List.length_drop]; omega
    have hx : ((bs.take i).map thinB ++ bs.drop i)[i]'(by omega) = bs[i] := by rw [List.getElem_append_right (by simp; omega), List.getElem_drop]; congr 1; simp; omega
    obtain ⟨A, X, B, vi, rfl, hvi, hX, hk⟩ := hD.at (i := i) (by omega)
    rw [hx] at hX
    obtain ⟨adx, cx, rfl⟩ := hX.slice
    obtain ⟨g, rfl⟩ := hC.addr (by omega)
    refine region_list ?_
    refine list_pure E rfl rfl (by decide) (rn_move E rfl rfl) ?_; clear E a; intro a E
    refine list_pure E rfl rfl (by decide) (by first | exact rn_indexAddr1 E rfl rfl rfl rfl rfl rfl (by omega) | exact rn_indexAddr E rfl rfl rfl rfl rfl rfl (by omega) | exact rn_indexAddr_array E rfl rfl rfl rfl rfl rfl (by omega)) ?_; clear E a; intro a E
    refine list_pure E rfl rfl (by decide) (rn_loadc E rfl rfl rfl (hC.rd.cells (S.stab.at (by first | exact mm1 | exact mm2 | exact mm3 | exact mm4 | exact mm5 | exact mm6 | exact mm7 | exact mm8)) rfl i _ hvi)) ?_; clear E a; intro a E
    refine list_pure E rfl rfl (by decide) (rn_assign E rfl rfl) ?_; clear E a; intro a E
    refine list_pure E rfl rfl (by decide) (rn_assign E rfl rfl) ?_; clear E a; intro a E
    refine wpList_nil ?_
    refine then_k hK ?_; clear hK; clear K
    refine wp_seq_k ?_; intro K hK
    refine region_list ?_
    refine list_pure E rfl rfl (by decide) (rn_move E rfl rfl) ?_; clear E a; intro a E
    refine list_call E rfl rfl (by decide) rfl Try.func13 rfl (by kernel_rfl) rfl (blank_ret (A ++ (X ++ B)) _ bs[i] (hX.rd.sub fun x hx => by simp [hx]) (by have := hs _ (List.getElem_mem hib); omega) _ (S.hp.sel (sel_cons (by first | exact pk1 | exact pk2 | exact pk3 | exact pk4 | exact pk5 | exact pk6 | exact pk7 | exact pk8 | exact pk9) (sel_nil _)))) ?_
    rintro v13 w ⟨rfl, hT⟩; clear E a; intro a E
    have S := S.call1 (sel_cons (by first | exact pk1 | exact pk2 | exact pk3 | exact pk4 | exact pk5 | exact pk6 | exact pk7 | exact pk8 | exact pk9) (sel_nil _)) hT
    refine wpList_nil ?_
    refine then_k hK ?_; clear hK; clear K
    refine if_bool E rfl (fun hb => ?_) (fun hb => ?_)
    · first | with_reducible replace hb := n1 hb | with_reducible replace hb := n2 hb | with_reducible replace hb := n3 hb | with_reducible replace hb := n4 hb | with_reducible replace hb := n5 hb | with_reducible replace hb := n6 hb | replace hb := n1 hb | replace hb := n2 hb | replace hb := n3 hb | replace hb := n4 hb | replace hb := n5 hb | replace hb := n6 hb | skip
      refine region_list ?_
      refine list_pure E rfl rfl (by decide) (rn_move E rfl rfl) ?_; clear E a; intro a E
      refine list_pure E rfl rfl (by decide) (rn_move E rfl rfl) ?_; clear E a; intro a E
      refine list_pure E rfl rfl (by decide) (by first | exact rn_indexAddr1 E rfl rfl rfl rfl rfl rfl (by omega) | exact rn_indexAddr E rfl rfl rfl rfl rfl rfl (by omega) | exact rn_indexAddr_array E rfl rfl rfl rfl rfl rfl (by omega)) ?_; clear E a; intro a E
      refine list_wp rfl (wp_elem1 E S rfl rfl rfl rfl rfl rfl hC (by first | exact pk1 | exact pk2 | exact pk3 | exact pk4 | exact pk5 | exact pk6 | exact pk7 | exact pk8 | exact pk9) (by rw [hC.1]; omega) (Nat.zero_add _) ?_); clear E S a; intro a w Cs3 E hBs3 S
      refine wpList_nil ?_
      refine in_normal ?_
      refine then_k hK ?_; clear hK; clear K
      refine region_list ?_
      refine list_pure E rfl rfl (by decide) (rn_add E rfl rfl rfl (by first | exact wa_lit (y := 1) (by omega) | exact w_in (by omega) | exact w_inu (by omega) | exact rfl)) ?_; clear E a; intro a E
      refine list_pure E rfl rfl (by decide) (rn_move E rfl rfl) ?_; clear E a; intro a E
      refine wpList_nil ?_
      refine then_normal ?_
      have S := S.perm2.cutMid
      have hk := hk [] (.slice none 0 0) [] (Buf.nil _ _)
      exact ⟨_, by omega, i + 1, Cs3, A ++ B, _, rfl, by omega, hBs3, by rw [thin_set (by omega) (thinB_of (by simpa [blankB] using hb))] at hk; simpa using hk, S.perm2, E.keep (keep_cons rfl (keep_cons rfl (keep_cons rfl (keep_cons rfl keep_nil))))⟩
    · first | with_reducible replace hb := n1 hb | with_reducible replace hb := n2 hb | with_reducible replace hb := n3 hb | with_reducible replace hb := n4 hb | with_reducible replace hb := n5 hb | with_reducible replace hb := n6 hb | replace hb := n1 hb | replace hb := n2 hb | replace hb := n3 hb | replace hb := n4 hb | replace hb := n5 hb | replace hb := n6 hb | skip
      refine wp_skip ?_
      refine in_normal ?_
      refine then_k hK ?_; clear hK; clear K
      refine region_list ?_
      refine list_pure E rfl rfl (by decide) (rn_add E rfl rfl rfl (by first | exact wa_lit (y := 1) (by omega) | exact w_in (by omega) | exact w_inu (by omega) | exact rfl)) ?_; clear E a; intro a E
      refine list_pure E rfl rfl (by decide) (rn_move E rfl rfl) ?_; clear E a; intro a E
      refine wpList_nil ?_
      refine then_normal ?_
      have hD2 : Inn 5 1 byt (A ++ (X ++ B)) vs ((bs.take (i + 1)).map thinB ++ bs.drop (i + 1)) := by
        rw [thin_keep (by omega) (thinB_no (by simpa [blankB] using hb))]; exact hD
      exact ⟨_, by omega, i + 1, C', _, vs, rfl, by omega, hC, hD2, S.perm2, E.keep (keep_cons rfl (keep_cons rfl (keep_cons rfl (keep_cons rfl keep_nil))))⟩
  · first | with_reducible replace hb := n1 hb | with_reducible replace hb := n2 hb | with_reducible replace hb := n3 hb | with_reducible replace hb := n4 hb | with_reducible replace hb := n5 hb | with_reducible replace hb := n6 hb | replace hb := n1 hb | replace hb := n2 hb | replace hb := n3 hb | replace hb := n4 hb | replace hb := n5 hb | replace hb := n6 hb | skip
    refine wp_exit ?_
    refine then_exit ?_; clear hK; clear K
    refine then_exit ?_
    refine in_exit ?_
    refine then_k hK ?_; clear hK; clear K
    refine wp_seq_k ?_; intro K hK
    refine region_list ?_
    refine list_pure E rfl rfl (by decide) (rn_move E rfl rfl) ?_; clear E a; intro a E
    refine list_pure E rfl rfl (by decide) (rn_assign E rfl rfl) ?_; clear E a; intro a E
    refine wpList_nil ?_
    refine then_k hK ?_; clear hK; clear K
    refine wp_ret ?_
    refine ret1 E rfl rfl ?_
    obtain rfl : i = bs.length := by omega
    exact ⟨_, rfl, C', D', ⟨vs, by rw [List.length_map]; exact hC, by simpa using hD⟩, S.tr⟩

theorem chop_small {α : Type} {k : Nat} {b : List α} : ∀ x ∈ chop k b, x.length ≤ k := by
  intro x hx
  simp only [chop, chopN, List.mem_map] at hx
  obtain ⟨j, -, rfl⟩ := hx
  rw [List.length_take]; omega
theorem nch_le {n k : Nat} (hk : 1 ≤ k) : nch n k ≤ n := by
  unfold nch
  rcases Nat.eq_zero_or_pos n with rfl | hn
  · rw [Nat.zero_add, Nat.div_eq_of_lt (by omega)]; omega
  · refine Nat.div_le_of_le_mul ?_
    have : n - 1 ≤ k * (n - 1) := Nat.le_mul_of_pos_left _ hk
    obtain ⟨m, rfl⟩ : ∃ m, n = m + 1 := ⟨n - 1, by omega⟩
    rw [Nat.mul_add]
    simp only [Nat.add_sub_cancel] at this
    omega

theorem split_ret (O : Chunk) (v : Value) (b : List UInt8) (hO : Rd O 1 v b.length (byt b)) (hbl : b.length ≤ 140737488355328) (hcap : ∃ ad c, v = .slice ad b.length c ∧ b.length ≤ c) (w0 : World) (H : Hp w0 [O]) :
    Ret Try.prog 11 #[v] w0 fun u w' => ∃ C D, Bl C D u (splitL b) ∧ Trs w0 w' [O] [C, D, O] := by
  have S := St.begin H
  refine enter1 6 Try.func11 rfl rfl (by decide) ?_; intro a E
  refine wp_seq_k ?_; intro K hK
  refine region_list ?_
  refine list_pure E rfl rfl (by decide) (rn_assign E rfl rfl) ?_; clear E a; intro a E
  refine wpList_nil ?_
  refine then_k hK ?_; clear hK; clear K
  refine wp_seq_k ?_; intro K hK
  refine region_list ?_
  refine list_pure E rfl rfl (by decide) (rn_move E rfl rfl) ?_; clear E a; intro a E
  refine list_call E rfl rfl (by decide) rfl Try.func30 rfl (by kernel_rfl) rfl (pieces_ret O v b hO hbl hcap 1024 (by omega) (by omega) _ (S.hp.sel (sel_cons (by first | exact pk1 | exact pk2 | exact pk3 | exact pk4 | exact pk5 | exact pk6 | exact pk7 | exact pk8 | exact pk9) (sel_nil _)))) ?_
  rintro v4 w ⟨C, D, hB, hT⟩; clear E a; intro a E
  have S := S.call3 (sel_cons (by first | exact pk1 | exact pk2 | exact pk3 | exact pk4 | exact pk5 | exact pk6 | exact pk7 | exact pk8 | exact pk9) (sel_nil _)) hT
  refine list_call E rfl rfl (by decide) rfl Try.func29 rfl (by kernel_rfl) rfl (thin_ret C D _ _ hB (by rw [chop_length]; exact Nat.le_trans (nch_le (by omega)) hbl) chop_small _ (S.hp.sel (sel_cons (by first | exact pk1 | exact pk2 | exact pk3 | exact pk4 | exact pk5 | exact pk6 | exact pk7 | exact pk8 | exact pk9) (sel_cons (by first | exact pk1 | exact pk2 | exact pk3 | exact pk4 | exact pk5 | exact pk6 | exact pk7 | exact pk8 | exact pk9) (sel_nil _))))) ?_
  rintro v5 w ⟨C', D', hB, hT⟩; clear E a; intro a E
  have S := S.call2 (sel_cons (by first | exact pk1 | exact pk2 | exact pk3 | exact pk4 | exact pk5 | exact pk6 | exact pk7 | exact pk8 | exact pk9) (sel_cons (by first | exact pk1 | exact pk2 | exact pk3 | exact pk4 | exact pk5 | exact pk6 | exact pk7 | exact pk8 | exact pk9) (sel_nil _))) hT
  refine list_pure E rfl rfl (by decide) (rn_assign E rfl rfl) ?_; clear E a; intro a E
  refine wpList_nil ?_
  refine then_k hK ?_; clear hK; clear K
  refine wp_ret ?_
  refine ret1 E rfl rfl ?_
  exact ⟨_, rfl, C', D', hB, (S.only (Bs := [C', D', O]) (sel_cons (by first | exact pk1 | exact pk2 | exact pk3 | exact pk4 | exact pk5 | exact pk6 | exact pk7 | exact pk8 | exact pk9) (sel_cons (by first | exact pk1 | exact pk2 | exact pk3 | exact pk4 | exact pk5 | exact pk6 | exact pk7 | exact pk8 | exact pk9) (sel_cons (by first | exact pk1 | exact pk2 | exact pk3 | exact pk4 | exact pk5 | exact pk6 | exact pk7 | exact pk8 | exact pk9) (sel_nil _))))).tr⟩

theorem dsplit_ret (O : Chunk) (v : Value) (b : List UInt8) (hO : Rd O 1 v b.length (byt b)) (hbl : b.length ≤ 140737488351232) (hcap : ∃ ad c, v = .slice ad b.length c ∧ b.length ≤ c) (w0 : World) (H : Hp w0 [O]) :
    Ret Try.prog 12 #[v] w0 fun u w' => ∃ C D, Bl C D u (splitL b) ∧ Trs w0 w' [O] [C, D, O] := by
  have S := (St.begin H).addNil.addNil
  obtain ⟨ad, c, rfl, hcap⟩ := hcap
  refine enter1 35 Try.func12 rfl rfl (by decide) ?_; intro a E
  refine wp_seq_k ?_; intro K hK
  refine region_list ?_
  refine list_pure E rfl rfl (by decide) (rn_assign E rfl rfl) ?_; clear E a; intro a E
  refine wpList_nil ?_
  refine then_k hK ?_; clear hK; clear K
  refine wp_seq_k ?_; intro K hK
  refine region_list ?_
  refine list_pure E rfl rfl (by decide) (rn_assign E rfl rfl) ?_; clear E a; intro a E
  refine wpList_nil ?_
  refine then_k hK ?_; clear hK; clear K
  refine wp_seq_k ?_; intro K hK
  refine wp_seq_k ?_; intro K hK
  refine region_list ?_
  refine list_pure E rfl rfl (by decide) (rn_assign E rfl rfl) ?_; clear E a; intro a E
  refine wpList_nil ?_
  refine then_k hK ?_; clear hK; clear K
  refine wp_block ?_
  refine wp_loop_ghost (fun (m : Nat) (a : Act) (w' : World) => ∃ (i : Nat) (vo : Value) (C D : Chunk) (vs : List Value), m = b.length + 1024 - i * 1024 ∧ i * 1024 < b.length + 1024 ∧ Buf C 22 1 vo i vs ∧ Inn 5 1 byt D vs ((chopN 1024 b i).map thinB) ∧ St w0 [O] w' [C, D, O] ∧ Fr a 35 [(0, .slice ad b.length c), (3, vo), (4, .int .i64 (i * 1024 : Nat))]) (b.length + 1024 - 0 * 1024) ?_ ?_
  · exact ⟨0, _, [], [], [], rfl, by omega, Buf.nil _ _, rfl, S, E.keep (keep_cons rfl (keep_cons rfl (keep_cons rfl keep_nil)))⟩
  clear E; clear a; rintro m a w ⟨i, vo, C, D, vs, rfl, hi, hC, hD, S, E⟩
  refine wp_seq_k ?_; intro K hK
  refine wp_seq_k ?_; intro K hK
  refine region_list ?_
  refine list_pure E rfl rfl (by decide) (rn_move E rfl rfl) ?_; clear E a; intro a E
  refine list_pure E rfl rfl (by decide) (rn_move E rfl rfl) ?_; clear E a; intro a E
  refine list_pure E rfl rfl (by decide) (by first | exact rn_len E rfl rfl rfl | exact rn_len_str E rfl rfl rfl | exact rn_len_string E rfl rfl rfl) ?_; clear E a; intro a E
  refine list_pure E rfl rfl (by decide) (rn_lss E rfl rfl rfl) ?_; clear E a; intro a E
  refine wpList_nil ?_
  refine then_k hK ?_; clear hK; clear K
  refine if_bool E rfl (fun hb => ?_) (fun hb => ?_)
  · first | with_reducible replace hb := n1 hb | with_reducible replace hb := n2 hb | with_reducible replace hb := n3 hb | with_reducible replace hb := n4 hb | with_reducible replace hb := n5 hb | with_reducible replace hb := n6 hb | replace hb := n1 hb | replace hb := n2 hb | replace hb := n3 hb | replace hb := n4 hb | replace hb := n5 hb | replace hb := n6 hb | skip
    refine wp_skip ?_
    refine then_k hK ?_; clear hK; clear K
    refine wp_seq_k ?_; intro K hK
    refine wp_block ?_
    refine wp_seq_k ?_; intro K hK
    refine region_list ?_
    refine list_pure E rfl rfl (by decide) (rn_move E rfl rfl) ?_; clear E a; intro a E
    refine list_pure E rfl rfl (by decide) (rn_add E rfl rfl rfl (by first | exact wa_lit (y := 1024) (by omega) | exact w_in (by omega) | exact w_inu (by omega) | exact rfl)) ?_; clear E a; intro a E
    refine list_pure E rfl rfl (by decide) (rn_assign E rfl rfl) ?_; clear E a; intro a E
    refine wpList_nil ?_
    refine then_k hK ?_; clear hK; clear K
    refine wp_seq_k ?_; intro K hK
    refine wp_seq_k ?_; intro K hK
    refine region_list ?_
    refine list_pure E rfl rfl (by decide) (rn_move E rfl rfl) ?_; clear E a; intro a E
    refine list_pure E rfl rfl (by decide) (rn_move E rfl rfl) ?_; clear E a; intro a E
    refine list_pure E rfl rfl (by decide) (by first | exact rn_len E rfl rfl rfl | exact rn_len_str E rfl rfl rfl | exact rn_len_string E rfl rfl rfl) ?_; clear E a; intro a E
    refine list_pure E rfl rfl (by decide) (rn_gtr E rfl rfl rfl) ?_; clear E a; intro a E
    refine wpList_nil ?_
    refine then_k hK ?_; clear hK; clear K
    refine wp_join (fun (a : Act) (w' : World) => ∃ n : Nat, n = min (i * 1024 + 1024) b.length ∧ St w0 [O] w' [C, D, O] ∧ Fr a 35 [(0, .slice ad b.length c), (3, vo), (4, .int .i64 (i * 1024 : Nat)), (5, .int .i64 n)]) ?_ ?_
    · skip
      refine if_bool E rfl (fun hb => ?_) (fun hb => ?_)
      · first | with_reducible replace hb := n1 hb | with_reducible replace hb := n2 hb | with_reducible replace hb := n3 hb | with_reducible replace hb := n4 hb | with_reducible replace hb := n5 hb | with_reducible replace hb := n6 hb | replace hb := n1 hb | replace hb := n2 hb | replace hb := n3 hb | replace hb := n4 hb | replace hb := n5 hb | replace hb := n6 hb | skip
        refine region_list ?_
        refine list_pure E rfl rfl (by decide) (rn_move E rfl rfl) ?_; clear E a; intro a E
        refine list_pure E rfl rfl (by decide) (by first | exact rn_len E rfl rfl rfl | exact rn_len_str E rfl rfl rfl | exact rn_len_string E rfl rfl rfl) ?_; clear E a; intro a E
        refine list_pure E rfl rfl (by decide) (rn_assign E rfl rfl) ?_; clear E a; intro a E
        refine wpList_nil ?_
        refine joined_here ?_
        exact ⟨_, by omega, S, E.keep (keep_cons rfl (keep_cons rfl (keep_cons rfl (keep_cons rfl keep_nil))))⟩
      · first | with_reducible replace hb := n1 hb | with_reducible replace hb := n2 hb | with_reducible replace hb := n3 hb | with_reducible replace hb := n4 hb | with_reducible replace hb := n5 hb | with_reducible replace hb := n6 hb | replace hb := n1 hb | replace hb := n2 hb | replace hb := n3 hb | replace hb := n4 hb | replace hb := n5 hb | replace hb := n6 hb | skip
        refine wp_skip ?_
        refine joined_here ?_
        exact ⟨_, by omega, S, E.keep (keep_cons rfl (keep_cons rfl (keep_cons rfl (keep_cons rfl keep_nil))))⟩
    · clear S E a; intro a w J; obtain ⟨n, hn, S, E⟩ := J
      refine then_k hK ?_; clear hK; clear K
      refine wp_seq_k ?_; intro K hK
      refine region_list ?_
      refine list_pure E rfl rfl (by decide) (rn_move E rfl rfl) ?_; clear E a; intro a E
      refine list_pure E rfl rfl (by decide) (rn_move E rfl rfl) ?_; clear E a; intro a E
      refine list_pure E rfl rfl (by decide) (rn_move E rfl rfl) ?_; clear E a; intro a E
      refine list_pure E rfl rfl (by decide) (rn_slice_lh (s := 1) (lo := i * 1024) (hi := n) E rfl rfl rfl rfl rfl rfl rfl rfl (by omega) (by omega)) ?_; clear E a; intro a E
      have hR1 : Rd O 1 (sliced ad (i * 1024) n c 1) ((b.drop (i * 1024)).take 1024).length (byt ((b.drop (i * 1024)).take 1024)) := by
        have h := hO.bytes (lo := i * 1024) (hi := n) (mx := c) (by omega) (by omega) (by omega)
        rwa [show (b.drop (i * 1024)).take (n - i * 1024) = (b.drop (i * 1024)).take 1024 by rw [show n - i * 1024 = min 1024 (b.drop (i * 1024)).length by rw [List.length_drop]; omega, ← List.take_take, List.take_length]] at h
      have hlx : ((b.drop (i * 1024)).take 1024).length ≤ 1024 := by rw [List.length_take]; omega
      have S := S.addNil
      refine list_wp rfl (wp_append (by' := 1) E S rfl rfl (by decide) rfl rfl (Buf.nil _ _) (by first | exact pk1 | exact pk2 | exact pk3 | exact pk4 | exact pk5 | exact pk6 | exact pk7 | exact pk8 | exact pk9) (hR1.src (S.stab.at (by first | exact mm1 | exact mm2 | exact mm3 | exact mm4 | exact mm5 | exact mm6 | exact mm7 | exact mm8)) rfl) rfl rfl rfl rfl rfl rfl (by simp only [maxLen]; omega) (by omega) ?_); clear E S a; intro a w v26 C26 E S hB26
      simp only [Nat.zero_add, List.nil_append] at hB26
      refine list_pure E rfl rfl (by decide) (rn_assign E rfl rfl) ?_; clear E a; intro a E
      refine wpList_nil ?_
      refine then_k hK ?_; clear hK; clear K
      refine wp_seq_k ?_; intro K hK
      refine region_list ?_
      refine list_pure E rfl rfl (by decide) (rn_move E rfl rfl) ?_; clear E a; intro a E
      refine list_call E rfl rfl (by decide) rfl Try.func14 rfl (by kernel_rfl) rfl (dblank_ret C26 v26 ((b.drop (i * 1024)).take 1024) hB26.rd (by omega) _ (S.hp.sel (sel_cons (by first | exact pk1 | exact pk2 | exact pk3 | exact pk4 | exact pk5 | exact pk6 | exact pk7 | exact pk8 | exact pk9) (sel_nil _)))) ?_
      rintro v28 w ⟨rfl, hT⟩; clear E a; intro a E
      have S := S.call1 (sel_cons (by first | exact pk1 | exact pk2 | exact pk3 | exact pk4 | exact pk5 | exact pk6 | exact pk7 | exact pk8 | exact pk9) (sel_nil _)) hT
      refine list_pure E rfl rfl (by decide) (rn_assign E rfl rfl) ?_; clear E a; intro a E
      refine wpList_nil ?_
      refine then_k hK ?_; clear hK; clear K
      refine wp_seq_k ?_; intro K hK
      refine wp_seq_k ?_; intro K hK
      refine region_list ?_
      refine list_pure E rfl rfl (by decide) (rn_move E rfl rfl) ?_; clear E a; intro a E
      refine wpList_nil ?_
      refine then_k hK ?_; clear hK; clear K
      refine wp_join (fun (a : Act) (w' : World) => ∃ adx cx X, Buf X 5 1 (.slice adx (thinB ((b.drop (i * 1024)).take 1024)).length cx) (thinB ((b.drop (i * 1024)).take 1024)).length (byt (thinB ((b.drop (i * 1024)).take 1024))) ∧ St w0 [O] w' [X, C, D, O] ∧ Fr a 35 [(0, .slice ad b.length c), (3, vo), (4, .int .i64 (i * 1024 : Nat)), (6, .slice adx (thinB ((b.drop (i * 1024)).take 1024)).length cx)]) ?_ ?_
      · skip
        refine if_bool E rfl (fun hb => ?_) (fun hb => ?_)
        · first | with_reducible replace hb := n1 hb | with_reducible replace hb := n2 hb | with_reducible replace hb := n3 hb | with_reducible replace hb := n4 hb | with_reducible replace hb := n5 hb | with_reducible replace hb := n6 hb | replace hb := n1 hb | replace hb := n2 hb | replace hb := n3 hb | replace hb := n4 hb | replace hb := n5 hb | replace hb := n6 hb | skip
          refine region_list ?_
          refine list_pure E rfl rfl (by decide) (rn_assign E rfl rfl) ?_; clear E a; intro a E
          refine wpList_nil ?_
          refine joined_here ?_
          rw [thinB_of (by simpa [blankB] using hb)]
          exact ⟨none, 0, [], Buf.nil _ _, S.addNil.only (Bs := [[], C, D, O]) (sel_cons (by first | exact pk1 | exact pk2 | exact pk3 | exact pk4 | exact pk5 | exact pk6 | exact pk7 | exact pk8 | exact pk9) (sel_cons (by first | exact pk1 | exact pk2 | exact pk3 | exact pk4 | exact pk5 | exact pk6 | exact pk7 | exact pk8 | exact pk9) (sel_cons (by first | exact pk1 | exact pk2 | exact pk3 | exact pk4 | exact pk5 | exact pk6 | exact pk7 | exact pk8 | exact pk9) (sel_cons (by first | exact pk1 | exact pk2 | exact pk3 | exact pk4 | exact pk5 | exact pk6 | exact pk7 | exact pk8 | exact pk9) (sel_nil _))))), E.keep (keep_cons rfl (keep_cons rfl (keep_cons rfl (keep_cons rfl keep_nil))))⟩
        · first | with_reducible replace hb := n1 hb | with_reducible replace hb := n2 hb | with_reducible replace hb := n3 hb | with_reducible replace hb := n4 hb | with_reducible replace hb := n5 hb | with_reducible replace hb := n6 hb | replace hb := n1 hb | replace hb := n2 hb | replace hb := n3 hb | replace hb := n4 hb | replace hb := n5 hb | replace hb := n6 hb | skip
          refine wp_skip ?_
          refine joined_here ?_
          rw [thinB_no (by simpa [blankB] using hb)]
          obtain ⟨adx, cx, rfl⟩ := hB26.slice
          exact ⟨adx, cx, C26, hB26, S, E.keep (keep_cons rfl (keep_cons rfl (keep_cons rfl (keep_cons rfl keep_nil))))⟩
      · clear S E a; intro a w J; obtain ⟨adx, cx, X, hX, S, E⟩ := J
        refine then_k hK ?_; clear hK; clear K
        refine region_list ?_
        refine list_pure E rfl rfl (by decide) (rn_move E rfl rfl) ?_; clear E a; intro a E
        refine list_pure E rfl rfl (by decide) (rn_move E rfl rfl) ?_; clear E a; intro a E
        refine list_wp rfl (wp_bslice (cells := [_]) E S rfl rfl (by decide) rfl rfl rfl rfl rfl (by decide) rfl ?_); clear E S a; intro a w b32 E S
        refine list_wp rfl (wp_append (by' := 24) E S rfl rfl (by decide) rfl rfl hC (by first | exact pk1 | exact pk2 | exact pk3 | exact pk4 | exact pk5 | exact pk6 | exact pk7 | exact pk8 | exact pk9) ((rd_cells (g := b32) (T := 22) (xs := [.slice adx (thinB ((b.drop (i * 1024)).take 1024)).length cx]) (s := 1) (m := 1) rfl (by simp [Value.oneCell']) (by omega) 1).src (S.stab.at (by first | exact mm1 | exact mm2 | exact mm3 | exact mm4 | exact mm5 | exact mm6 | exact mm7 | exact mm8)) rfl) rfl rfl rfl rfl rfl rfl (by simp only [maxLen]; omega) (by omega) ?_); clear E S a; intro a w v33 C33 E S hB33
        refine list_pure E rfl rfl (by decide) (rn_assign E rfl rfl) ?_; clear E a; intro a E
        refine wpList_nil ?_
        refine in_normal ?_
        refine then_k hK ?_; clear hK; clear K
        refine region_list ?_
        refine list_pure E rfl rfl (by decide) (rn_move E rfl rfl) ?_; clear E a; intro a E
        refine list_pure E rfl rfl (by decide) (rn_add E rfl rfl rfl (by first | exact wa_lit (y := 1024) (by omega) | exact w_in (by omega) | exact w_inu (by omega) | exact rfl)) ?_; clear E a; intro a E
        refine list_pure E rfl rfl (by decide) (rn_assign E rfl rfl) ?_; clear E a; intro a E
        refine wpList_nil ?_
        refine then_normal ?_
        have S := S.gather (A := D) (B := X) (by first | exact pk1 | exact pk2 | exact pk3 | exact pk4 | exact pk5 | exact pk6 | exact pk7 | exact pk8 | exact pk9) (by first | exact pk1 | exact pk2 | exact pk3 | exact pk4 | exact pk5 | exact pk6 | exact pk7 | exact pk8 | exact pk9)
        rw [show i * 1024 + 1024 = (i + 1) * 1024 by omega] at E
        exact ⟨_, by omega, i + 1, v33, C33, D ++ X, vs ++ [_], rfl, by omega, hB33, by rw [chopN_succ, List.map_append]; exact hD.snoc hX, S.only (Bs := [C33, D ++ X, O]) (sel_cons (by first | exact pk1 | exact pk2 | exact pk3 | exact pk4 | exact pk5 | exact pk6 | exact pk7 | exact pk8 | exact pk9) (sel_cons (by first | exact pk1 | exact pk2 | exact pk3 | exact pk4 | exact pk5 | exact pk6 | exact pk7 | exact pk8 | exact pk9) (sel_cons (by first | exact pk1 | exact pk2 | exact pk3 | exact pk4 | exact pk5 | exact pk6 | exact pk7 | exact pk8 | exact pk9) (sel_nil _)))), E.keep (keep_cons rfl (keep_cons rfl (keep_cons rfl keep_nil)))⟩
  · first | with_reducible replace hb := n1 hb | with_reducible replace hb := n2 hb | with_reducible replace hb := n3 hb | with_reducible replace hb := n4 hb | with_reducible replace hb := n5 hb | with_reducible replace hb := n6 hb | replace hb := n1 hb | replace hb := n2 hb | replace hb := n3 hb | replace hb := n4 hb | replace hb := n5 hb | replace hb := n6 hb | skip
    refine wp_exit ?_
    refine then_exit ?_; clear hK; clear K
    refine then_exit ?_
    refine in_exit ?_
    refine then_k hK ?_; clear hK; clear K
    refine wp_seq_k ?_; intro K hK
    refine region_list ?_
    refine list_pure E rfl rfl (by decide) (rn_move E rfl rfl) ?_; clear E a; intro a E
    refine list_pure E rfl rfl (by decide) (rn_assign E rfl rfl) ?_; clear E a; intro a E
    refine wpList_nil ?_
    refine then_k hK ?_; clear hK; clear K
    refine wp_ret ?_
    refine ret1 E rfl rfl ?_
    have hd := chop_done (k := 1024) (l := b) (i := i) (by omega) (by omega)
    obtain rfl : nch b.length 1024 = i := nch_eq (by omega) (by omega)
    exact ⟨_, rfl, C, D, ⟨vs, by rw [splitL, List.length_map, chop_length]; exact hC, by rw [splitL, ← hd]; exact hD⟩, S.tr⟩
end Go.Proofs.Ytkkibnnddllabaa
