/-
  CodeBack: what was laid down is taken up by the same calls.
-/
import Derived.Test.YtbnldjephphhhaaCodeC
namespace Go.Sl

/-- What a call lays down. -/
def Cl.piece (s : Wr) (c : Cl) : List UInt8 :=
  if c.kind = 0 then formOf c.n c.many.toNat else if c.kind = 1 then c.b else if c.kind = 2 then formOf c.s.length 2 ++ c.s else List.replicate (c.many.toNat - s.bs.length) 0
def Cl.next (s : Wr) (c : Cl) : Wr := { s with bs := s.bs ++ c.piece s }
def Cl.small (c : Cl) : Prop := c.kind = 0 ∧ 1 ≤ c.many ∧ c.many ≤ 8 ∧ (c.many = 8 ∨ c.n / 2 ^ (8 * c.many.toNat) = 0)
def Cl.may (s : Wr) (c : Cl) : Prop := c.small ∨ c.kind = 1 ∨ (c.kind = 2 ∧ c.s.length ≤ 65535) ∨ (c.kind = 3 ∧ (s.bs.length : Int) ≤ c.many ∧ c.many ≤ 524288)

theorem Cl.small_lt {c : Cl} (hn : c.n < 18446744073709551616) (h : c.small) : ∃ k : Nat, c.many = k ∧ 1 ≤ k ∧ k ≤ 8 ∧ c.n < 256 ^ k := by
  obtain ⟨h0, h1, h2, h3⟩ := h
  refine ⟨c.many.toNat, by omega, by omega, by omega, ?_⟩
  rcases h3 with h | h
  · rw [h]; exact hn
  · rw [Nat.div_eq_zero_iff] at h
    rcases h with h | h
    · exact absurd h (Nat.ne_of_gt (Nat.pow_pos (by omega)))
    · rwa [Nat.pow_mul] at h

def Rdr.one (s : Rdr) (c : Cl) : Rdr := if c.kind = 0 then (s.num c.many).2 else if c.kind = 1 then (s.bytes c.b.length).2 else if c.kind = 2 then (s.text 65535).2 else s.pad c.many

/-- A chain of calls, each of which is laid down. -/
def Chain : Wr → List Cl → Wr → Prop
  | s, [], s' => s = s'
  | s, c :: r, s' => c.may s ∧ Chain (c.next s) r s'
theorem Chain.snoc : ∀ {s s' : Wr} {l : List Cl} {c : Cl}, Chain s l s' → c.may s' → Chain s (l ++ [c]) (c.next s')
  | s, s', [], c, h, hc => by cases h; exact ⟨hc, rfl⟩
  | s, s', d :: r, c, h, hc => ⟨h.1, Chain.snoc h.2 hc⟩
theorem Chain.ext : ∀ {s s' : Wr} {l : List Cl}, Chain s l s' → ∃ t, s'.bs = s.bs ++ t
  | s, s', [], h => by cases h; exact ⟨[], by simp⟩
  | s, s', c :: r, h => by
    obtain ⟨t, ht⟩ := Chain.ext h.2
    exact ⟨c.piece s ++ t, by rw [ht, Cl.next, List.append_assoc]⟩

section
variable {all t : List UInt8} {c : Cl} {s : Wr}
theorem cut_piece {x : List UInt8} (h : all = s.bs ++ x ++ t) : (Rdr.mk all s.bs.length 0).cut x.length 0 = x := by
  subst h
  simp [Rdr.cut]
theorem back_num (hn : c.n < 18446744073709551616) (h : c.small) (ha : all = s.bs ++ c.piece s ++ t) : (Rdr.mk all s.bs.length 0).num c.many = (c.n, ⟨all, (c.next s).bs.length, 0⟩) := by
  obtain ⟨k, hk, h1, h8, hlt⟩ := Cl.small_lt hn h
  have hp : c.piece s = formOf c.n k := by simp [Cl.piece, h.1, hk]
  have hc : (Rdr.mk all s.bs.length 0).cut k 0 = formOf c.n k := by
    have := cut_piece (s := s) ha
    rwa [hp, formOf_length] at this
  have hl : all.length = s.bs.length + k + t.length := by rw [ha, hp]; simp [formOf_length]; omega
  simp only [Rdr.num, hk, Int.toNat_natCast, hl]
  rw [if_neg (by simp), if_neg (by omega), if_neg (by omega), hc, numOf_form, Nat.mod_eq_of_lt hlt]
  simp [Cl.next, hp, formOf_length]
theorem back_bytes (h : c.kind = 1) (ha : all = s.bs ++ c.piece s ++ t) : (Rdr.mk all s.bs.length 0).bytes c.b.length = (c.b, ⟨all, (c.next s).bs.length, 0⟩) := by
  have hp : c.piece s = c.b := by simp [Cl.piece, h]
  have hc := cut_piece (s := s) ha
  rw [hp] at hc
  have hl : all.length = s.bs.length + c.b.length + t.length := by rw [ha, hp]; simp; omega
  simp only [Rdr.bytes, Int.toNat_natCast, hl]
  rw [if_neg (by simp), if_neg (by omega), if_neg (by omega), hc]
  simp [Cl.next, hp]
theorem back_text (h : c.kind = 2) (hs : c.s.length ≤ 65535) (ha : all = s.bs ++ c.piece s ++ t) : (Rdr.mk all s.bs.length 0).text 65535 = (c.s, ⟨all, (c.next s).bs.length, 0⟩) := by
  have hp : c.piece s = formOf c.s.length 2 ++ c.s := by simp [Cl.piece, h]
  have hl : all.length = s.bs.length + (2 + c.s.length) + t.length := by rw [ha, hp]; simp [formOf_length]; omega
  have h2 : (Rdr.mk all s.bs.length 0).cut 2 0 = formOf c.s.length 2 := by
    rw [ha, hp]
    simp only [Rdr.cut, Nat.add_zero, List.append_assoc, List.drop_left]
    exact List.take_left' (formOf_length _ _)
  have hn : numOf (formOf c.s.length 2) = c.s.length := by
    rw [numOf_form]; exact Nat.mod_eq_of_lt (by have : (256 : Nat) ^ 2 = 65536 := rfl; omega)
  have h3 : (Rdr.mk all s.bs.length 0).cut c.s.length 2 = c.s := by
    rw [ha, hp]
    have : s.bs ++ (formOf c.s.length 2 ++ c.s) ++ t = (s.bs ++ formOf c.s.length 2) ++ (c.s ++ t) := by simp
    simp only [Rdr.cut]
    rw [this, List.drop_left' (by simp [formOf_length]), List.take_left]
  simp only [Rdr.text, h2, hn, hl, h3]
  rw [if_neg (by simp), if_neg (by omega), if_neg (by omega), if_neg (by omega)]
  simp [Cl.next, hp, formOf_length]
theorem back_pad (h : c.kind = 3) (hs : (s.bs.length : Int) ≤ c.many) (ha : all = s.bs ++ c.piece s ++ t) : (Rdr.mk all s.bs.length 0).pad c.many = ⟨all, (c.next s).bs.length, 0⟩ := by
  obtain ⟨m, hm⟩ : ∃ m : Nat, c.many = m := ⟨c.many.toNat, by omega⟩
  have hp : c.piece s = List.replicate (m - s.bs.length) 0 := by simp [Cl.piece, h, hm]
  have hl : all.length = s.bs.length + (m - s.bs.length) + t.length := by rw [ha, hp]; simp; omega
  have hc := cut_piece (s := s) ha
  rw [hp, List.length_replicate] at hc
  simp only [Rdr.pad, hm, Int.toNat_natCast, hl, hc]
  rw [if_neg (by simp), if_neg (by omega), if_neg (by omega)]
  simp [Cl.next, hp]; omega

theorem lay_num (he : s.e = 0) (hr : s.room = 1048576) (hb : s.bs.length ≤ 262144) (hn : c.n < 18446744073709551616) (h : c.small) : s.num c.n c.many = c.next s := by
  obtain ⟨k, hk, h1, h8, hlt⟩ := Cl.small_lt hn h
  have hp : c.piece s = formOf c.n k := by simp [Cl.piece, h.1, hk]
  have hf : s.fits (formOf c.n k) = true := by simp only [Wr.fits, formOf_length, decide_eq_true_eq]; omega
  simp only [Wr.num, Wr.lay, numE, he, hk, Int.toNat_natCast]
  rw [if_neg (by simp), if_neg (by omega), if_neg (by omega)]
  simp [Wr.putE, Wr.putS, hf, Cl.next, hp, he]
theorem lay_bytes (he : s.e = 0) (hr : s.room = 1048576) (hb : s.bs.length ≤ 262144) (hc : c.b.length ≤ 65536) (h : c.kind = 1) : s.bytes c.b = c.next s := by
  have hp : c.piece s = c.b := by simp [Cl.piece, h]
  have hf : s.fits c.b = true := by simp only [Wr.fits, decide_eq_true_eq]; omega
  simp [Wr.bytes, Wr.lay, he, Wr.putE, Wr.putS, hf, Cl.next, hp]
theorem lay_text (he : s.e = 0) (hr : s.room = 1048576) (hb : s.bs.length ≤ 262144) (hc : c.s.length ≤ 65535) (h : c.kind = 2) : s.text c.s = c.next s := by
  have hp : c.piece s = formOf c.s.length 2 ++ c.s := by simp [Cl.piece, h]
  have hf : s.fits (formOf c.s.length 2 ++ c.s) = true := by simp only [Wr.fits, List.length_append, formOf_length, decide_eq_true_eq]; omega
  simp [Wr.text, Wr.lay, textE, he, Wr.putE, Wr.putS, hf, Cl.next, hp, show ¬ 65535 < c.s.length by omega]
theorem lay_pad (he : s.e = 0) (hr : s.room = 1048576) (h1 : (s.bs.length : Int) ≤ c.many) (h2 : c.many ≤ 524288) (h : c.kind = 3) : s.pad c.many = c.next s := by
  obtain ⟨m, hm⟩ : ∃ m : Nat, c.many = m := ⟨c.many.toNat, by omega⟩
  have hp : c.piece s = List.replicate (m - s.bs.length) 0 := by simp [Cl.piece, h, hm]
  have hf : s.fits (List.replicate (m - s.bs.length) 0) = true := by simp only [Wr.fits, List.length_replicate, decide_eq_true_eq]; omega
  simp only [Wr.pad, Wr.lay, padE, hm, Int.toNat_natCast, he]
  rw [if_neg (by simp), if_neg (by omega), if_neg (by omega)]
  simp [Wr.putE, Wr.putS, hf, Cl.next, hp, he]
theorem next_len (hb : s.bs.length ≤ 262144) (hc : c.b.length ≤ 65536) (h : c.may s) : (c.next s).bs.length ≤ 1048576 := by
  simp only [Cl.next, List.length_append, Cl.piece]
  rcases h with ⟨h0, h1, h2, -⟩ | h | ⟨h, h1⟩ | ⟨h, h1, h2⟩
  · rw [if_pos h0, formOf_length]; omega
  · rw [if_neg (by omega), if_pos h]; omega
  · rw [if_neg (by omega), if_neg (by omega), if_pos h, List.length_append, formOf_length]; omega
  · rw [if_neg (by omega), if_neg (by omega), if_neg (by omega), List.length_replicate]; omega
end
end Go.Sl

namespace Go.Proofs.Ytbnldjephphhhaa
open Go.Sl Go.ChangeShapes Go.WideShapes Go.ChangeAt Go.RowKit
set_option maxRecDepth 10000

set_option maxHeartbeats 4000000 in
theorem back_walk (O : Chunk) (lv : Value) (l : List Cl) (hO : Rd O 5 lv l.length (l.flatMap Cl.lay)) (hg : ∀ c ∈ l, c.Ok O) (hl : l.length * 64 ≤ 140737488351232) (w0 : World) (H : Hp w0 [O]) :
    Ret Try.prog 6 #[lv] w0 fun u w' => u = .bool true ∧ Trs w0 w' [O] [O] := by
  have S := St.begin H
  obtain ⟨ad, cp, rfl⟩ := hO.slice
  refine enter1 210 Try.func6 rfl rfl (by decide) ?_; intro a E
  refine wp_seq_k ?_; intro K hK
  refine region_list ?_
  refine list_pure E rfl rfl (by decide) (rn_assign E rfl rfl) ?_; clear E a; intro a E
  refine wpList_nil ?_
  refine then_k hK ?_; clear hK; clear K
  refine wp_seq_k ?_; intro K hK
  refine region_list ?_
  refine list_call E rfl rfl (by decide) rfl Try.func9 rfl (by kernel_rfl) rfl (awake_ret _) ?_
  rintro v16 w ⟨rfl, hT⟩; clear E a; intro a E
  have S := S.quiet hT
  refine list_pure E rfl rfl (by decide) (rn_assign E rfl rfl) ?_; clear E a; intro a E
  refine wpList_nil ?_
  refine then_k hK ?_; clear hK; clear K
  refine wp_seq_k ?_; intro K hK
  refine region_list ?_
  refine list_call E rfl rfl (by decide) rfl Try.func10 rfl (by kernel_rfl) rfl (writer_ret 1048576 _) ?_
  rintro v17 w ⟨p, A, rfl, hA, hT⟩; clear E a; intro a E
  have S := S.fresh hT
  have hA : WrC 57 p ⟨1048576, [], 0⟩ A := hA
  refine list_pure E rfl rfl (by decide) (rn_assign E rfl rfl) ?_; clear E a; intro a E
  refine wpList_nil ?_
  refine then_k hK ?_; clear hK; clear K
  refine wp_seq_k ?_; intro K hK
  refine wp_seq_k ?_; intro K hK
  refine region_list ?_
  refine list_pure E rfl rfl (by decide) (rn_move E rfl rfl) ?_; clear E a; intro a E
  refine list_pure E rfl rfl (by decide) (by first | exact rn_eql E rfl rfl rfl | exact rn_eql_ptr_nil E rfl rfl rfl rfl | exact rn_eql_bool E rfl rfl rfl rfl | exact rn_eql_string E rfl rfl rfl) ?_; clear E a; intro a E
  refine list_pure E rfl rfl (by decide) (rn_move E rfl rfl) ?_; clear E a; intro a E
  refine guard_false E (t := 20) rfl (rfl) (fun hb20 => ?_)
  refine list_guard_yes E rfl rfl rfl rfl hb20 rfl (by decide) (rn_move E rfl rfl) ?_; clear E a; intro a E
  refine list_guard_yes E rfl rfl rfl rfl hb20 rfl (by decide) (rn_not E rfl rfl) ?_; clear E a; intro a E
  refine list_pure E rfl rfl (by decide) (rn_pick_no' E rfl rfl hb20 rfl) ?_; clear E a; intro a E
  refine wpList_nil ?_
  refine then_k hK ?_; clear hK; clear K
  refine if_false' E rfl (rfl) ?_
  refine wp_skip ?_
  refine then_k hK ?_; clear hK; clear K
  refine wp_seq_k ?_; intro K hK
  refine region_list ?_
  refine list_pure E rfl rfl (by decide) (rn_assign E rfl rfl) ?_; clear E a; intro a E
  refine wpList_nil ?_
  refine then_k hK ?_; clear hK; clear K
  refine wp_seq_k ?_; intro K hK
  refine wp_seq_k ?_; intro K hK
  refine region_list ?_
  refine list_pure E rfl rfl (by decide) (rn_assign E rfl rfl) ?_; clear E a; intro a E
  refine wpList_nil ?_
  refine then_k hK ?_; clear hK; clear K
  refine wp_join (fun (a : Act) (w' : World) => ∃ (kept : List Cl) (s : Wr) (A C : Chunk) (v : Value), kept.length ≤ l.length ∧ WrC 57 p s A ∧ s.e = 0 ∧ s.room = 1048576 ∧ s.bs.length ≤ 1048576 ∧ Chain ⟨1048576, [], 0⟩ kept s ∧ (∀ c ∈ kept, c.Ok O) ∧ Buf C 42 5 v kept.length (kept.flatMap Cl.lay) ∧ St w0 [O] w' [A, C, O] ∧ Fr a 210 [(0, .slice ad l.length cp), (4, ptr p), (5, v)]) ?_ ?_
  · refine wp_block ?_
    refine wp_loop_ghost (fun (m : Nat) (a : Act) (w' : World) => ∃ (i : Nat) (kept : List Cl) (s : Wr) (A C : Chunk) (v : Value), i ≤ l.length ∧ m = l.length - i ∧ kept.length ≤ i ∧ WrC 57 p s A ∧ s.e = 0 ∧ s.room = 1048576 ∧ s.bs.length ≤ 1048576 ∧ Chain ⟨1048576, [], 0⟩ kept s ∧ (∀ c ∈ kept, c.Ok O) ∧ Buf C 42 5 v kept.length (kept.flatMap Cl.lay) ∧ St w0 [O] w' [A, C, O] ∧ Fr a 210 [(0, .slice ad l.length cp), (4, ptr p), (5, v), (6, .int .i64 i)]) (l.length - 0) ?_ ?_
    · exact ⟨0, [], ⟨1048576, [], 0⟩, A, [], _, by omega, rfl, by simp, hA, rfl, rfl, by simp, rfl, by simp, Buf.nil _ _, S.addNil.perm (Bs := [A, [], O]) (sel_cons (by first | exact pk1 | exact pk2 | exact pk3 | exact pk4 | exact pk5 | exact pk6 | exact pk7 | exact pk8 | exact pk9) (sel_cons (by first | exact pk1 | exact pk2 | exact pk3 | exact pk4 | exact pk5 | exact pk6 | exact pk7 | exact pk8 | exact pk9) (sel_cons (by first | exact pk1 | exact pk2 | exact pk3 | exact pk4 | exact pk5 | exact pk6 | exact pk7 | exact pk8 | exact pk9) (sel_nil _)))), E.keep (keep_cons rfl (keep_cons rfl (keep_cons rfl (keep_cons rfl keep_nil))))⟩
    clear E; clear a; rintro m a w ⟨i, kept, s, A, C, v, hi, rfl, hki, hA, he, hroom, hbl, hch, hgk, hB, S, E⟩
    refine wp_seq_k ?_; intro K hK
    refine wp_seq_k ?_; intro K hK
    refine region_list ?_
    refine list_pure E rfl rfl (by decide) (rn_move E rfl rfl) ?_; clear E a; intro a E
    refine list_pure E rfl rfl (by decide) (rn_move E rfl rfl) ?_; clear E a; intro a E
    refine list_pure E rfl rfl (by decide) (by first | exact rn_len E rfl rfl rfl | exact rn_len_str E rfl rfl rfl | exact rn_len_string E rfl rfl rfl) ?_; clear E a; intro a E
    refine list_pure E rfl rfl (by decide) (rn_lss E rfl rfl rfl) ?_; clear E a; intro a E
    refine wpList_nil ?_
    refine then_k hK ?_; clear hK; clear K
    refine if_bool E rfl (fun hb => ?_) (fun hb => ?_)
    · first | replace hb := n1 hb | replace hb := n2 hb | replace hb := n3 hb | replace hb := n4 hb | replace hb := n5 hb | replace hb := n6 hb | skip
      refine wp_skip ?_
      refine then_k hK ?_; clear hK; clear K
      refine wp_seq_k ?_; intro K hK
      refine wp_block ?_
      refine wp_seq_k ?_; intro K hK
      obtain ⟨b0, off, rfl⟩ := hO.addr (by omega)
      have hcell := hO.elem (lay := Cl.lay) Cl.lay_len (S.stab.at (by first | exact mm1 | exact mm2 | exact mm3 | exact mm4 | exact mm5 | exact mm6 | exact mm7 | exact mm8)) (i := i) (by omega)
      have hcok := hg _ (List.getElem_mem (by omega : i < l.length))
      generalize l[i] = c at hcell hcok
      obtain ⟨adb, cpb, hbv⟩ := hcok.bv
      obtain ⟨hav, adv, cv, rfl⟩ : (∃ ad c, v = .slice ad kept.length c) ∧ ∃ ad c, v = .slice ad kept.length c := ⟨hB.slice, hB.slice⟩
      refine region_list ?_
      refine list_pure E rfl rfl (by decide) (rn_move E rfl rfl) ?_; clear E a; intro a E
      refine list_pure E rfl rfl (by decide) (rn_move E rfl rfl) ?_; clear E a; intro a E
      refine list_pure E rfl rfl (by decide) (by first | exact rn_indexAddr1 E rfl rfl rfl rfl rfl rfl (by omega) | exact rn_indexAddr E rfl rfl rfl rfl rfl rfl (by omega) | exact rn_indexAddr_array E rfl rfl rfl rfl rfl rfl (by omega)) ?_; clear E a; intro a E
      refine list_pure E rfl rfl (by decide) (rn_load_aggc (vs := [_, _, _, _, _]) E rfl rfl rfl rfl (hcell)) ?_; clear E a; intro a E
      rw [hbv] at E
      refine list_wp rfl (wp_alloc E S rfl rfl (by decide) rfl rfl rfl ?_); clear E S a; intro a w b7 E S
      refine list_wp rfl (wp_storeN E S rfl rfl rfl rfl (by simp [Value.oneCell']) rfl (by first | exact pk1 | exact pk2 | exact pk3 | exact pk4 | exact pk5 | exact pk6 | exact pk7 | exact pk8 | exact pk9) (by simp) ?_); clear E S a; intro a w E S; simp only [List.take_succ_cons, List.take_zero, List.drop_succ_cons, List.drop_zero, List.cons_append, List.nil_append, List.append_nil, List.length_cons, List.length_nil, Nat.zero_add, Nat.add_zero] at S
      refine wpList_nil ?_
      refine then_k hK ?_; clear hK; clear K
      refine wp_seq_k ?_; intro K hK
      refine region_list ?_
      refine list_pure E rfl rfl (by decide) (rn_move E rfl rfl) ?_; clear E a; intro a E
      refine list_call E rfl rfl (by decide) rfl Try.func12 rfl (by kernel_rfl) rfl (done_ok p _ A _ hA (S.hp.sel (sel_cons (by first | exact pk1 | exact pk2 | exact pk3 | exact pk4 | exact pk5 | exact pk6 | exact pk7 | exact pk8 | exact pk9) (sel_nil _))) (by omega) he) ?_
      rintro v36 w ⟨g, rfl, hT⟩; clear E a; intro a E
      have S := S.call2 (sel_cons (by first | exact pk1 | exact pk2 | exact pk3 | exact pk4 | exact pk5 | exact pk6 | exact pk7 | exact pk8 | exact pk9) (sel_nil _)) hT
      refine list_pure E rfl rfl (by decide) (rn_move E rfl rfl) ?_; clear E a; intro a E
      refine list_pure E rfl rfl (by decide) (rn_extract E rfl rfl rfl) ?_; clear E a; intro a E
      refine list_pure E rfl rfl (by decide) (rn_extract E rfl rfl rfl) ?_; clear E a; intro a E
      refine list_pure E rfl rfl (by decide) (rn_assign E rfl rfl) ?_; clear E a; intro a E
      refine list_pure E rfl rfl (by decide) (rn_assign E rfl rfl) ?_; clear E a; intro a E
      refine wpList_nil ?_
      refine then_k hK ?_; clear hK; clear K
      refine wp_seq_k ?_; intro K hK
      refine wp_seq_k ?_; intro K hK
      refine region_list ?_
      refine list_pure E rfl rfl (by decide) (rn_move E rfl rfl) ?_; clear E a; intro a E
      refine list_pure E rfl rfl (by decide) (by first | exact rn_len E rfl rfl rfl | exact rn_len_str E rfl rfl rfl | exact rn_len_string E rfl rfl rfl) ?_; clear E a; intro a E
      refine list_pure E rfl rfl (by decide) (rn_gtr E rfl rfl rfl) ?_; clear E a; intro a E
      refine list_pure E rfl rfl (by decide) (rn_move E rfl rfl) ?_; clear E a; intro a E
      refine guard_split E (t := 42) rfl (fun hb42 => ?_) (fun hb42 => ?_)
      · have hb42n := hb42; first | replace hb42n := n1 hb42n | replace hb42n := n2 hb42n | replace hb42n := n3 hb42n | replace hb42n := n4 hb42n | replace hb42n := n5 hb42n | replace hb42n := n6 hb42n | skip
        refine list_guard_no E rfl rfl rfl rfl hb42 rfl (by decide) ?_; clear E a; intro a E
        refine list_guard_no E rfl rfl rfl rfl hb42 rfl (by decide) ?_; clear E a; intro a E
        refine list_guard_no E rfl rfl rfl rfl hb42 rfl (by decide) ?_; clear E a; intro a E
        refine list_guard_no E rfl rfl rfl rfl hb42 rfl (by decide) ?_; clear E a; intro a E
        refine list_pure E rfl rfl (by decide) (rn_pick_yes' E rfl rfl hb42 rfl) ?_; clear E a; intro a E
        refine wpList_nil ?_
        refine then_k hK ?_; clear hK; clear K
        refine if_true' E rfl rfl ?_
        refine wp_exit ?_
        refine then_exit ?_; clear hK; clear K
        refine in_exit_ne rfl ?_
        refine then_exit ?_; clear hK; clear K
        refine then_exit ?_
        refine in_exit ?_
        refine joined_here ?_
        exact ⟨kept, s, A, C, _, by omega, hA, he, hroom, hbl, hch, hgk, hB, S.only (Bs := [A, C, O]) (sel_cons (by first | exact pk1 | exact pk2 | exact pk3 | exact pk4 | exact pk5 | exact pk6 | exact pk7 | exact pk8 | exact pk9) (sel_cons (by first | exact pk1 | exact pk2 | exact pk3 | exact pk4 | exact pk5 | exact pk6 | exact pk7 | exact pk8 | exact pk9) (sel_cons (by first | exact pk1 | exact pk2 | exact pk3 | exact pk4 | exact pk5 | exact pk6 | exact pk7 | exact pk8 | exact pk9) (sel_nil _)))), E.keep (keep_cons rfl (keep_cons rfl (keep_cons rfl keep_nil)))⟩
      · have hb42n := hb42; first | replace hb42n := n1 hb42n | replace hb42n := n2 hb42n | replace hb42n := n3 hb42n | replace hb42n := n4 hb42n | replace hb42n := n5 hb42n | replace hb42n := n6 hb42n | skip
        refine list_guard_yes E rfl rfl rfl rfl hb42 rfl (by decide) (by first | exact rn_fieldAddr0 (q := 3) E rfl rfl rfl | exact rn_fieldAddr (q := 3) E rfl rfl rfl) ?_; clear E a; intro a E
        refine list_guard_yes E rfl rfl rfl rfl hb42 rfl (by decide) (by first | exact rn_load E rfl rfl rfl (S.get (by first | exact pk1 | exact pk2 | exact pk3 | exact pk4 | exact pk5 | exact pk6 | exact pk7 | exact pk8 | exact pk9)) rfl | exact rn_loadc E rfl rfl rfl (by assumption)) ?_; clear E a; intro a E
        refine list_guard_yes E rfl rfl rfl rfl hb42 rfl (by decide) (by first | exact rn_len E rfl rfl rfl | exact rn_len_str E rfl rfl rfl | exact rn_len_string E rfl rfl rfl) ?_; clear E a; intro a E
        refine list_guard_yes E rfl rfl rfl rfl hb42 rfl (by decide) (rn_gtr E rfl rfl rfl) ?_; clear E a; intro a E
        refine list_pure E rfl rfl (by decide) (rn_pick_no' E rfl rfl hb42 rfl) ?_; clear E a; intro a E
        refine wpList_nil ?_
        refine then_k hK ?_; clear hK; clear K
        refine if_bool E rfl (fun hb => ?_) (fun hb => ?_)
        · first | replace hb := n1 hb | replace hb := n2 hb | replace hb := n3 hb | replace hb := n4 hb | replace hb := n5 hb | replace hb := n6 hb | skip
          refine wp_exit ?_
          refine then_exit ?_; clear hK; clear K
          refine in_exit_ne rfl ?_
          refine then_exit ?_; clear hK; clear K
          refine then_exit ?_
          refine in_exit ?_
          refine joined_here ?_
          exact ⟨kept, s, A, C, _, by omega, hA, he, hroom, hbl, hch, hgk, hB, S.only (Bs := [A, C, O]) (sel_cons (by first | exact pk1 | exact pk2 | exact pk3 | exact pk4 | exact pk5 | exact pk6 | exact pk7 | exact pk8 | exact pk9) (sel_cons (by first | exact pk1 | exact pk2 | exact pk3 | exact pk4 | exact pk5 | exact pk6 | exact pk7 | exact pk8 | exact pk9) (sel_cons (by first | exact pk1 | exact pk2 | exact pk3 | exact pk4 | exact pk5 | exact pk6 | exact pk7 | exact pk8 | exact pk9) (sel_nil _)))), E.keep (keep_cons rfl (keep_cons rfl (keep_cons rfl keep_nil)))⟩
        · first | replace hb := n1 hb | replace hb := n2 hb | replace hb := n3 hb | replace hb := n4 hb | replace hb := n5 hb | replace hb := n6 hb | skip
          refine wp_skip ?_
          refine then_k hK ?_; clear hK; clear K
          refine wp_seq_k ?_; intro K hK
          refine wp_join (fun (a : Act) (w' : World) => ∃ b : Bool, (b = true ↔ c.small) ∧ St w0 [O] w' [[(g, cel (byt s.bs) 5)], A, [(b7, cel [.int .i64 c.kind, .int .u64 c.n, .int .i64 c.many, .slice adb c.b.length cpb, str c.s] 42)], C, O] ∧ Fr a 210 [(0, .slice (some ⟨b0, off, none⟩) l.length cp), (4, ptr p), (5, .slice adv kept.length cv), (6, .int .i64 i), (7, ptr b7), (8, .slice (some ⟨g, 0, none⟩) s.bs.length s.bs.length), (9, .int .i64 0), (10, .bool b)]) ?_ ?_
          · skip
            refine region_list ?_
            refine list_pure E rfl rfl (by decide) (by first | exact rn_fieldAddr0 (q := 0) E rfl rfl rfl | exact rn_fieldAddr (q := 0) E rfl rfl rfl) ?_; clear E a; intro a E
            refine list_pure E rfl rfl (by decide) (by first | exact rn_load E rfl rfl rfl (S.get (by first | exact pk1 | exact pk2 | exact pk3 | exact pk4 | exact pk5 | exact pk6 | exact pk7 | exact pk8 | exact pk9)) rfl | exact rn_loadc E rfl rfl rfl (by assumption)) ?_; clear E a; intro a E
            refine list_pure E rfl rfl (by decide) (by first | exact rn_eql E rfl rfl rfl | exact rn_eql_ptr_nil E rfl rfl rfl rfl | exact rn_eql_bool E rfl rfl rfl rfl | exact rn_eql_string E rfl rfl rfl) ?_; clear E a; intro a E
            refine list_pure E rfl rfl (by decide) (rn_move E rfl rfl) ?_; clear E a; intro a E
            refine guard_split E (t := 51) rfl (fun hb51 => ?_) (fun hb51 => ?_)
            · have hb51n := hb51; first | replace hb51n := n1 hb51n | replace hb51n := n2 hb51n | replace hb51n := n3 hb51n | replace hb51n := n4 hb51n | replace hb51n := n5 hb51n | replace hb51n := n6 hb51n | skip
              refine list_guard_yes E rfl rfl rfl rfl hb51 rfl (by decide) (by first | exact rn_fieldAddr0 (q := 2) E rfl rfl rfl | exact rn_fieldAddr (q := 2) E rfl rfl rfl) ?_; clear E a; intro a E
              refine list_guard_yes E rfl rfl rfl rfl hb51 rfl (by decide) (by first | exact rn_load E rfl rfl rfl (S.get (by first | exact pk1 | exact pk2 | exact pk3 | exact pk4 | exact pk5 | exact pk6 | exact pk7 | exact pk8 | exact pk9)) rfl | exact rn_loadc E rfl rfl rfl (by assumption)) ?_; clear E a; intro a E
              refine list_guard_yes E rfl rfl rfl rfl hb51 rfl (by decide) (rn_geq E rfl rfl rfl) ?_; clear E a; intro a E
              refine list_pure E rfl rfl (by decide) (rn_pick_yes' E rfl rfl hb51 rfl) ?_; clear E a; intro a E
              refine list_pure E rfl rfl (by decide) (rn_move E rfl rfl) ?_; clear E a; intro a E
              refine guard_split E (t := 56) rfl (fun hb56 => ?_) (fun hb56 => ?_)
              · have hb56n := hb56; first | replace hb56n := n1 hb56n | replace hb56n := n2 hb56n | replace hb56n := n3 hb56n | replace hb56n := n4 hb56n | replace hb56n := n5 hb56n | replace hb56n := n6 hb56n | skip
                refine list_guard_yes E rfl rfl rfl rfl hb56 rfl (by decide) (by first | exact rn_fieldAddr0 (q := 2) E rfl rfl rfl | exact rn_fieldAddr (q := 2) E rfl rfl rfl) ?_; clear E a; intro a E
                refine list_guard_yes E rfl rfl rfl rfl hb56 rfl (by decide) (by first | exact rn_load E rfl rfl rfl (S.get (by first | exact pk1 | exact pk2 | exact pk3 | exact pk4 | exact pk5 | exact pk6 | exact pk7 | exact pk8 | exact pk9)) rfl | exact rn_loadc E rfl rfl rfl (by assumption)) ?_; clear E a; intro a E
                refine list_guard_yes E rfl rfl rfl rfl hb56 rfl (by decide) (rn_leq E rfl rfl rfl) ?_; clear E a; intro a E
                refine list_pure E rfl rfl (by decide) (rn_pick_yes' E rfl rfl hb56 rfl) ?_; clear E a; intro a E
                refine list_pure E rfl rfl (by decide) (rn_move E rfl rfl) ?_; clear E a; intro a E
                refine guard_split E (t := 61) rfl (fun hb61 => ?_) (fun hb61 => ?_)
                · have hb61n := hb61; first | replace hb61n := n1 hb61n | replace hb61n := n2 hb61n | replace hb61n := n3 hb61n | replace hb61n := n4 hb61n | replace hb61n := n5 hb61n | replace hb61n := n6 hb61n | skip
                  refine list_guard_yes E rfl rfl rfl rfl hb61 rfl (by decide) (by first | exact rn_fieldAddr0 (q := 2) E rfl rfl rfl | exact rn_fieldAddr (q := 2) E rfl rfl rfl) ?_; clear E a; intro a E
                  refine list_guard_yes E rfl rfl rfl rfl hb61 rfl (by decide) (by first | exact rn_load E rfl rfl rfl (S.get (by first | exact pk1 | exact pk2 | exact pk3 | exact pk4 | exact pk5 | exact pk6 | exact pk7 | exact pk8 | exact pk9)) rfl | exact rn_loadc E rfl rfl rfl (by assumption)) ?_; clear E a; intro a E
                  refine list_guard_yes E rfl rfl rfl rfl hb61 rfl (by decide) (by first | exact rn_eql E rfl rfl rfl | exact rn_eql_ptr_nil E rfl rfl rfl rfl | exact rn_eql_bool E rfl rfl rfl rfl | exact rn_eql_string E rfl rfl rfl) ?_; clear E a; intro a E
                  refine list_guard_yes E rfl rfl rfl rfl hb61 rfl (by decide) (rn_move E rfl rfl) ?_; clear E a; intro a E
                  refine guard_split E (t := 65) rfl (fun hb65 => ?_) (fun hb65 => ?_)
                  · have hb65n := hb65; first | replace hb65n := n1 hb65n | replace hb65n := n2 hb65n | replace hb65n := n3 hb65n | replace hb65n := n4 hb65n | replace hb65n := n5 hb65n | replace hb65n := n6 hb65n | skip
                    refine list_guard_no E rfl rfl rfl rfl hb65 rfl (by decide) ?_; clear E a; intro a E
                    refine list_guard_no E rfl rfl rfl rfl hb65 rfl (by decide) ?_; clear E a; intro a E
                    refine list_guard_no E rfl rfl rfl rfl hb65 rfl (by decide) ?_; clear E a; intro a E
                    refine list_guard_no E rfl rfl rfl rfl hb65 rfl (by decide) ?_; clear E a; intro a E
                    refine list_guard_no E rfl rfl rfl rfl hb65 rfl (by decide) ?_; clear E a; intro a E
                    refine list_guard_no E rfl rfl rfl rfl hb65 rfl (by decide) ?_; clear E a; intro a E
                    refine list_guard_no E rfl rfl rfl rfl hb65 rfl (by decide) ?_; clear E a; intro a E
                    refine list_guard_no E rfl rfl rfl rfl hb65 rfl (by decide) ?_; clear E a; intro a E
                    refine list_guard_yes E rfl rfl rfl rfl hb61 rfl (by decide) (rn_pick_yes' E rfl rfl hb65 rfl) ?_; clear E a; intro a E
                    refine list_pure E rfl rfl (by decide) (rn_pick_yes' E rfl rfl hb61 rfl) ?_; clear E a; intro a E
                    refine list_pure E rfl rfl (by decide) (rn_assign E rfl rfl) ?_; clear E a; intro a E
                    refine wpList_nil ?_
                    refine joined_here ?_
                    refine ⟨_, ?_, S, E.keep (keep_cons rfl (keep_cons rfl (keep_cons rfl (keep_cons rfl (keep_cons rfl (keep_cons rfl (keep_cons rfl (keep_cons rfl keep_nil))))))))⟩
                    simp only [Cl.small, beq_iff_eq, decide_eq_true_eq, Bool.false_eq_true, false_iff, true_iff]; omega
                  · have hb65n := hb65; first | replace hb65n := n1 hb65n | replace hb65n := n2 hb65n | replace hb65n := n3 hb65n | replace hb65n := n4 hb65n | replace hb65n := n5 hb65n | replace hb65n := n6 hb65n | skip
                    refine list_guard_yes E rfl rfl rfl rfl hb65 rfl (by decide) (by first | exact rn_fieldAddr0 (q := 1) E rfl rfl rfl | exact rn_fieldAddr (q := 1) E rfl rfl rfl) ?_; clear E a; intro a E
                    refine list_guard_yes E rfl rfl rfl rfl hb65 rfl (by decide) (by first | exact rn_load E rfl rfl rfl (S.get (by first | exact pk1 | exact pk2 | exact pk3 | exact pk4 | exact pk5 | exact pk6 | exact pk7 | exact pk8 | exact pk9)) rfl | exact rn_loadc E rfl rfl rfl (by assumption)) ?_; clear E a; intro a E
                    refine list_guard_yes E rfl rfl rfl rfl hb65 rfl (by decide) (by first | exact rn_fieldAddr0 (q := 2) E rfl rfl rfl | exact rn_fieldAddr (q := 2) E rfl rfl rfl) ?_; clear E a; intro a E
                    refine list_guard_yes E rfl rfl rfl rfl hb65 rfl (by decide) (by first | exact rn_load E rfl rfl rfl (S.get (by first | exact pk1 | exact pk2 | exact pk3 | exact pk4 | exact pk5 | exact pk6 | exact pk7 | exact pk8 | exact pk9)) rfl | exact rn_loadc E rfl rfl rfl (by assumption)) ?_; clear E a; intro a E
                    refine list_guard_yes E rfl rfl rfl rfl hb65 rfl (by decide) (rn_convert E rfl rfl rfl rfl (r := c.many) (w_inu (by omega))) ?_; clear E a; intro a E
                    refine list_guard_yes E rfl rfl rfl rfl hb65 rfl (by decide) (rn_mul E rfl rfl rfl (r := 8 * c.many) (w_inu (by omega))) ?_; clear E a; intro a E
                    refine list_guard_yes E rfl rfl rfl rfl hb65 rfl (by decide) (rn_shr E rfl rfl rfl (by omega) (by simp only [IntKind.bits]; omega) (show (c.n : Int) / 2 ^ ((8 * c.many).toNat) = ((c.n / 2 ^ (8 * c.many.toNat) : Nat) : Int) from by rw [show (8 * c.many).toNat = 8 * c.many.toNat by omega]; simp)) ?_; clear E a; intro a E
                    refine list_guard_yes E rfl rfl rfl rfl hb65 rfl (by decide) (by first | exact rn_eql E rfl rfl rfl | exact rn_eql_ptr_nil E rfl rfl rfl rfl | exact rn_eql_bool E rfl rfl rfl rfl | exact rn_eql_string E rfl rfl rfl) ?_; clear E a; intro a E
                    refine list_guard_yes E rfl rfl rfl rfl hb61 rfl (by decide) (rn_pick_no' E rfl rfl hb65 rfl) ?_; clear E a; intro a E
                    refine list_pure E rfl rfl (by decide) (rn_pick_yes' E rfl rfl hb61 rfl) ?_; clear E a; intro a E
                    refine list_pure E rfl rfl (by decide) (rn_assign E rfl rfl) ?_; clear E a; intro a E
                    refine wpList_nil ?_
                    refine joined_here ?_
                    refine ⟨_, ?_, S, E.keep (keep_cons rfl (keep_cons rfl (keep_cons rfl (keep_cons rfl (keep_cons rfl (keep_cons rfl (keep_cons rfl (keep_cons rfl keep_nil))))))))⟩
                    simp only [Cl.small, beq_iff_eq, decide_eq_true_eq, Bool.false_eq_true, false_iff, true_iff]; omega
                · have hb61n := hb61; first | replace hb61n := n1 hb61n | replace hb61n := n2 hb61n | replace hb61n := n3 hb61n | replace hb61n := n4 hb61n | replace hb61n := n5 hb61n | replace hb61n := n6 hb61n | skip
                  refine list_guard_no E rfl rfl rfl rfl hb61 rfl (by decide) ?_; clear E a; intro a E
                  refine list_guard_no E rfl rfl rfl rfl hb61 rfl (by decide) ?_; clear E a; intro a E
                  refine list_guard_no E rfl rfl rfl rfl hb61 rfl (by decide) ?_; clear E a; intro a E
                  refine list_guard_no E rfl rfl rfl rfl hb61 rfl (by decide) ?_; clear E a; intro a E
                  refine list_guard_undef E rfl rfl rfl rfl rfl (by decide) ?_; clear E a; intro a E
                  refine list_guard_undef E rfl rfl rfl rfl rfl (by decide) ?_; clear E a; intro a E
                  refine list_guard_undef E rfl rfl rfl rfl rfl (by decide) ?_; clear E a; intro a E
                  refine list_guard_undef E rfl rfl rfl rfl rfl (by decide) ?_; clear E a; intro a E
                  refine list_guard_undef E rfl rfl rfl rfl rfl (by decide) ?_; clear E a; intro a E
                  refine list_guard_undef E rfl rfl rfl rfl rfl (by decide) ?_; clear E a; intro a E
                  refine list_guard_undef E rfl rfl rfl rfl rfl (by decide) ?_; clear E a; intro a E
                  refine list_guard_undef E rfl rfl rfl rfl rfl (by decide) ?_; clear E a; intro a E
                  refine list_guard_no E rfl rfl rfl rfl hb61 rfl (by decide) ?_; clear E a; intro a E
                  refine list_pure E rfl rfl (by decide) (rn_pick_no' E rfl rfl hb61 rfl) ?_; clear E a; intro a E
                  refine list_pure E rfl rfl (by decide) (rn_assign E rfl rfl) ?_; clear E a; intro a E
                  refine wpList_nil ?_
                  refine joined_here ?_
                  refine ⟨_, ?_, S, E.keep (keep_cons rfl (keep_cons rfl (keep_cons rfl (keep_cons rfl (keep_cons rfl (keep_cons rfl (keep_cons rfl (keep_cons rfl keep_nil))))))))⟩
                  simp only [Cl.small, beq_iff_eq, decide_eq_true_eq, Bool.false_eq_true, false_iff, true_iff]; omega
              · have hb56n := hb56; first | replace hb56n := n1 hb56n | replace hb56n := n2 hb56n | replace hb56n := n3 hb56n | replace hb56n := n4 hb56n | replace hb56n := n5 hb56n | replace hb56n := n6 hb56n | skip
                refine list_guard_no E rfl rfl rfl rfl hb56 rfl (by decide) ?_; clear E a; intro a E
                refine list_guard_no E rfl rfl rfl rfl hb56 rfl (by decide) ?_; clear E a; intro a E
                refine list_guard_no E rfl rfl rfl rfl hb56 rfl (by decide) ?_; clear E a; intro a E
                refine list_pure E rfl rfl (by decide) (rn_pick_no' E rfl rfl hb56 rfl) ?_; clear E a; intro a E
                refine list_pure E rfl rfl (by decide) (rn_move E rfl rfl) ?_; clear E a; intro a E
                refine list_guard_no E rfl rfl rfl rfl rfl rfl (by decide) ?_; clear E a; intro a E
                refine list_guard_no E rfl rfl rfl rfl rfl rfl (by decide) ?_; clear E a; intro a E
                refine list_guard_no E rfl rfl rfl rfl rfl rfl (by decide) ?_; clear E a; intro a E
                refine list_guard_no E rfl rfl rfl rfl rfl rfl (by decide) ?_; clear E a; intro a E
                refine list_guard_undef E rfl rfl rfl rfl rfl (by decide) ?_; clear E a; intro a E
                refine list_guard_undef E rfl rfl rfl rfl rfl (by decide) ?_; clear E a; intro a E
                refine list_guard_undef E rfl rfl rfl rfl rfl (by decide) ?_; clear E a; intro a E
                refine list_guard_undef E rfl rfl rfl rfl rfl (by decide) ?_; clear E a; intro a E
                refine list_guard_undef E rfl rfl rfl rfl rfl (by decide) ?_; clear E a; intro a E
                refine list_guard_undef E rfl rfl rfl rfl rfl (by decide) ?_; clear E a; intro a E
                refine list_guard_undef E rfl rfl rfl rfl rfl (by decide) ?_; clear E a; intro a E
                refine list_guard_undef E rfl rfl rfl rfl rfl (by decide) ?_; clear E a; intro a E
                refine list_guard_no E rfl rfl rfl rfl rfl rfl (by decide) ?_; clear E a; intro a E
                refine list_pure E rfl rfl (by decide) (rn_pick_no' E rfl rfl rfl rfl) ?_; clear E a; intro a E
                refine list_pure E rfl rfl (by decide) (rn_assign E rfl rfl) ?_; clear E a; intro a E
                refine wpList_nil ?_
                refine joined_here ?_
                refine ⟨_, ?_, S, E.keep (keep_cons rfl (keep_cons rfl (keep_cons rfl (keep_cons rfl (keep_cons rfl (keep_cons rfl (keep_cons rfl (keep_cons rfl keep_nil))))))))⟩
                simp only [Cl.small, beq_iff_eq, decide_eq_true_eq, Bool.false_eq_true, false_iff, true_iff]; omega
            · have hb51n := hb51; first | replace hb51n := n1 hb51n | replace hb51n := n2 hb51n | replace hb51n := n3 hb51n | replace hb51n := n4 hb51n | replace hb51n := n5 hb51n | replace hb51n := n6 hb51n | skip
              refine list_guard_no E rfl rfl rfl rfl hb51 rfl (by decide) ?_; clear E a; intro a E
              refine list_guard_no E rfl rfl rfl rfl hb51 rfl (by decide) ?_; clear E a; intro a E
              refine list_guard_no E rfl rfl rfl rfl hb51 rfl (by decide) ?_; clear E a; intro a E
              refine list_pure E rfl rfl (by decide) (rn_pick_no' E rfl rfl hb51 rfl) ?_; clear E a; intro a E
              refine list_pure E rfl rfl (by decide) (rn_move E rfl rfl) ?_; clear E a; intro a E
              refine list_guard_no E rfl rfl rfl rfl rfl rfl (by decide) ?_; clear E a; intro a E
              refine list_guard_no E rfl rfl rfl rfl rfl rfl (by decide) ?_; clear E a; intro a E
              refine list_guard_no E rfl rfl rfl rfl rfl rfl (by decide) ?_; clear E a; intro a E
              refine list_pure E rfl rfl (by decide) (rn_pick_no' E rfl rfl rfl rfl) ?_; clear E a; intro a E
              refine list_pure E rfl rfl (by decide) (rn_move E rfl rfl) ?_; clear E a; intro a E
              refine list_guard_no E rfl rfl rfl rfl rfl rfl (by decide) ?_; clear E a; intro a E
              refine list_guard_no E rfl rfl rfl rfl rfl rfl (by decide) ?_; clear E a; intro a E
              refine list_guard_no E rfl rfl rfl rfl rfl rfl (by decide) ?_; clear E a; intro a E
              refine list_guard_no E rfl rfl rfl rfl rfl rfl (by decide) ?_; clear E a; intro a E
              refine list_guard_undef E rfl rfl rfl rfl rfl (by decide) ?_; clear E a; intro a E
              refine list_guard_undef E rfl rfl rfl rfl rfl (by decide) ?_; clear E a; intro a E
              refine list_guard_undef E rfl rfl rfl rfl rfl (by decide) ?_; clear E a; intro a E
              refine list_guard_undef E rfl rfl rfl rfl rfl (by decide) ?_; clear E a; intro a E
              refine list_guard_undef E rfl rfl rfl rfl rfl (by decide) ?_; clear E a; intro a E
              refine list_guard_undef E rfl rfl rfl rfl rfl (by decide) ?_; clear E a; intro a E
              refine list_guard_undef E rfl rfl rfl rfl rfl (by decide) ?_; clear E a; intro a E
              refine list_guard_undef E rfl rfl rfl rfl rfl (by decide) ?_; clear E a; intro a E
              refine list_guard_no E rfl rfl rfl rfl rfl rfl (by decide) ?_; clear E a; intro a E
              refine list_pure E rfl rfl (by decide) (rn_pick_no' E rfl rfl rfl rfl) ?_; clear E a; intro a E
              refine list_pure E rfl rfl (by decide) (rn_assign E rfl rfl) ?_; clear E a; intro a E
              refine wpList_nil ?_
              refine joined_here ?_
              refine ⟨_, ?_, S, E.keep (keep_cons rfl (keep_cons rfl (keep_cons rfl (keep_cons rfl (keep_cons rfl (keep_cons rfl (keep_cons rfl (keep_cons rfl keep_nil))))))))⟩
              simp only [Cl.small, beq_iff_eq, decide_eq_true_eq, Bool.false_eq_true, false_iff, true_iff]; omega
          · clear E S a; intro a w J; obtain ⟨b, hsm, S, E⟩ := J
            refine then_k hK ?_; clear hK; clear K
            refine wp_seq_k ?_; intro K hK
            refine wp_seq_k ?_; intro K hK
            refine wp_join (fun (a : Act) (w' : World) => ∃ b : Bool, (b = true ↔ ¬ c.may s) ∧ St w0 [O] w' [[(g, cel (byt s.bs) 5)], A, [(b7, cel [.int .i64 c.kind, .int .u64 c.n, .int .i64 c.many, .slice adb c.b.length cpb, str c.s] 42)], C, O] ∧ Fr a 210 [(0, .slice (some ⟨b0, off, none⟩) l.length cp), (4, ptr p), (5, .slice adv kept.length cv), (6, .int .i64 i), (7, ptr b7), (114, .bool b)]) ?_ ?_
            · skip
              refine region_list ?_
              refine list_pure E rfl rfl (by decide) (rn_move E rfl rfl) ?_; clear E a; intro a E
              cases b
              · skip
                have hns : ¬ c.small := by simpa using hsm
                refine list_pure E rfl rfl (by decide) (by first | exact rn_neq E rfl rfl rfl | exact rn_neq_ptr_nil E rfl rfl rfl rfl | exact rn_neq_bool E rfl rfl rfl rfl | exact rn_neq_string E rfl rfl rfl) ?_; clear E a; intro a E
                refine list_pure E rfl rfl (by decide) (rn_move E rfl rfl) ?_; clear E a; intro a E
                refine guard_false E (t := 78) rfl (rfl) (fun hb78 => ?_)
                refine list_guard_yes E rfl rfl rfl rfl hb78 rfl (by decide) (rn_move E rfl rfl) ?_; clear E a; intro a E
                refine list_guard_yes E rfl rfl rfl rfl hb78 rfl (by decide) (rn_not E rfl rfl) ?_; clear E a; intro a E
                refine list_guard_yes E rfl rfl rfl rfl hb78 rfl (by decide) (rn_move E rfl rfl) ?_; clear E a; intro a E
                refine guard_true E (t := 81) rfl (rfl) (fun hb81 => ?_)
                refine list_guard_yes E rfl rfl rfl rfl hb81 rfl (by decide) (by first | exact rn_fieldAddr0 (q := 0) E rfl rfl rfl | exact rn_fieldAddr (q := 0) E rfl rfl rfl) ?_; clear E a; intro a E
                refine list_guard_yes E rfl rfl rfl rfl hb81 rfl (by decide) (by first | exact rn_load E rfl rfl rfl (S.get (by first | exact pk1 | exact pk2 | exact pk3 | exact pk4 | exact pk5 | exact pk6 | exact pk7 | exact pk8 | exact pk9)) rfl | exact rn_loadc E rfl rfl rfl (by assumption)) ?_; clear E a; intro a E
                refine list_guard_yes E rfl rfl rfl rfl hb81 rfl (by decide) (by first | exact rn_neq E rfl rfl rfl | exact rn_neq_ptr_nil E rfl rfl rfl rfl | exact rn_neq_bool E rfl rfl rfl rfl | exact rn_neq_string E rfl rfl rfl) ?_; clear E a; intro a E
                refine list_guard_yes E rfl rfl rfl rfl hb78 rfl (by decide) (rn_pick_yes' E rfl rfl hb81 rfl) ?_; clear E a; intro a E
                refine list_guard_yes E rfl rfl rfl rfl hb78 rfl (by decide) (rn_move E rfl rfl) ?_; clear E a; intro a E
                refine guard_split E (t := 86) rfl (fun hb86 => ?_) (fun hb86 => ?_)
                · have hb86n := hb86; first | replace hb86n := n1 hb86n | replace hb86n := n2 hb86n | replace hb86n := n3 hb86n | replace hb86n := n4 hb86n | replace hb86n := n5 hb86n | replace hb86n := n6 hb86n | skip
                  refine list_guard_yes E rfl rfl rfl rfl hb86 rfl (by decide) (by first | exact rn_fieldAddr0 (q := 0) E rfl rfl rfl | exact rn_fieldAddr (q := 0) E rfl rfl rfl) ?_; clear E a; intro a E
                  refine list_guard_yes E rfl rfl rfl rfl hb86 rfl (by decide) (by first | exact rn_load E rfl rfl rfl (S.get (by first | exact pk1 | exact pk2 | exact pk3 | exact pk4 | exact pk5 | exact pk6 | exact pk7 | exact pk8 | exact pk9)) rfl | exact rn_loadc E rfl rfl rfl (by assumption)) ?_; clear E a; intro a E
                  refine list_guard_yes E rfl rfl rfl rfl hb86 rfl (by decide) (by first | exact rn_neq E rfl rfl rfl | exact rn_neq_ptr_nil E rfl rfl rfl rfl | exact rn_neq_bool E rfl rfl rfl rfl | exact rn_neq_string E rfl rfl rfl) ?_; clear E a; intro a E
                  refine list_guard_yes E rfl rfl rfl rfl hb86 rfl (by decide) (rn_move E rfl rfl) ?_; clear E a; intro a E
                  refine guard_split E (t := 90) rfl (fun hb90 => ?_) (fun hb90 => ?_)
                  · have hb90n := hb90; first | replace hb90n := n1 hb90n | replace hb90n := n2 hb90n | replace hb90n := n3 hb90n | replace hb90n := n4 hb90n | replace hb90n := n5 hb90n | replace hb90n := n6 hb90n | skip
                    refine list_guard_no E rfl rfl rfl rfl hb90 rfl (by decide) ?_; clear E a; intro a E
                    refine list_guard_no E rfl rfl rfl rfl hb90 rfl (by decide) ?_; clear E a; intro a E
                    refine list_guard_no E rfl rfl rfl rfl hb90 rfl (by decide) ?_; clear E a; intro a E
                    refine list_guard_no E rfl rfl rfl rfl hb90 rfl (by decide) ?_; clear E a; intro a E
                    refine list_guard_yes E rfl rfl rfl rfl hb86 rfl (by decide) (rn_pick_yes' E rfl rfl hb90 rfl) ?_; clear E a; intro a E
                    refine list_guard_yes E rfl rfl rfl rfl hb78 rfl (by decide) (rn_pick_yes' E rfl rfl hb86 rfl) ?_; clear E a; intro a E
                    refine list_guard_yes E rfl rfl rfl rfl hb78 rfl (by decide) (rn_move E rfl rfl) ?_; clear E a; intro a E
                    refine list_guard_yes E rfl rfl rfl rfl rfl rfl (by decide) (by first | exact rn_fieldAddr0 (q := 0) E rfl rfl rfl | exact rn_fieldAddr (q := 0) E rfl rfl rfl) ?_; clear E a; intro a E
                    refine list_guard_yes E rfl rfl rfl rfl rfl rfl (by decide) (by first | exact rn_load E rfl rfl rfl (S.get (by first | exact pk1 | exact pk2 | exact pk3 | exact pk4 | exact pk5 | exact pk6 | exact pk7 | exact pk8 | exact pk9)) rfl | exact rn_loadc E rfl rfl rfl (by assumption)) ?_; clear E a; intro a E
                    refine list_guard_yes E rfl rfl rfl rfl rfl rfl (by decide) (by first | exact rn_neq E rfl rfl rfl | exact rn_neq_ptr_nil E rfl rfl rfl rfl | exact rn_neq_bool E rfl rfl rfl rfl | exact rn_neq_string E rfl rfl rfl) ?_; clear E a; intro a E
                    refine list_guard_yes E rfl rfl rfl rfl rfl rfl (by decide) (rn_move E rfl rfl) ?_; clear E a; intro a E
                    refine guard_split E (t := 101) rfl (fun hb101 => ?_) (fun hb101 => ?_)
                    · have hb101n := hb101; first | replace hb101n := n1 hb101n | replace hb101n := n2 hb101n | replace hb101n := n3 hb101n | replace hb101n := n4 hb101n | replace hb101n := n5 hb101n | replace hb101n := n6 hb101n | skip
                      refine list_guard_no E rfl rfl rfl rfl hb101 rfl (by decide) ?_; clear E a; intro a E
                      refine list_guard_no E rfl rfl rfl rfl hb101 rfl (by decide) ?_; clear E a; intro a E
                      refine list_guard_no E rfl rfl rfl rfl hb101 rfl (by decide) ?_; clear E a; intro a E
                      refine list_guard_no E rfl rfl rfl rfl hb101 rfl (by decide) ?_; clear E a; intro a E
                      refine list_guard_no E rfl rfl rfl rfl hb101 rfl (by decide) ?_; clear E a; intro a E
                      refine list_guard_yes E rfl rfl rfl rfl rfl rfl (by decide) (rn_pick_yes' E rfl rfl hb101 rfl) ?_; clear E a; intro a E
                      refine list_guard_yes E rfl rfl rfl rfl rfl rfl (by decide) (rn_move E rfl rfl) ?_; clear E a; intro a E
                      refine list_guard_no E rfl rfl rfl rfl rfl rfl (by decide) ?_; clear E a; intro a E
                      refine list_guard_no E rfl rfl rfl rfl rfl rfl (by decide) ?_; clear E a; intro a E
                      refine list_guard_no E rfl rfl rfl rfl rfl rfl (by decide) ?_; clear E a; intro a E
                      refine list_guard_yes E rfl rfl rfl rfl rfl rfl (by decide) (rn_pick_yes' E rfl rfl rfl rfl) ?_; clear E a; intro a E
                      refine list_guard_yes E rfl rfl rfl rfl hb78 rfl (by decide) (rn_pick_yes' E rfl rfl rfl rfl) ?_; clear E a; intro a E
                      refine list_pure E rfl rfl (by decide) (rn_pick_no' E rfl rfl hb78 rfl) ?_; clear E a; intro a E
                      refine wpList_nil ?_
                      refine joined_here ?_
                      refine ⟨_, ?_, S, E.keep (keep_cons rfl (keep_cons rfl (keep_cons rfl (keep_cons rfl (keep_cons rfl (keep_cons rfl keep_nil))))))⟩
                      simp only [Cl.may, hns, beq_iff_eq, bne_iff_ne, decide_eq_true_eq, Bool.false_eq_true, false_iff, true_iff, false_or, ne_eq]; omega
                    · have hb101n := hb101; first | replace hb101n := n1 hb101n | replace hb101n := n2 hb101n | replace hb101n := n3 hb101n | replace hb101n := n4 hb101n | replace hb101n := n5 hb101n | replace hb101n := n6 hb101n | skip
                      refine list_guard_yes E rfl rfl rfl rfl hb101 rfl (by decide) (by first | exact rn_fieldAddr0 (q := 2) E rfl rfl rfl | exact rn_fieldAddr (q := 2) E rfl rfl rfl) ?_; clear E a; intro a E
                      refine list_guard_yes E rfl rfl rfl rfl hb101 rfl (by decide) (by first | exact rn_load E rfl rfl rfl (S.get (by first | exact pk1 | exact pk2 | exact pk3 | exact pk4 | exact pk5 | exact pk6 | exact pk7 | exact pk8 | exact pk9)) rfl | exact rn_loadc E rfl rfl rfl (by assumption)) ?_; clear E a; intro a E
                      refine list_guard_yes E rfl rfl rfl rfl hb101 rfl (by decide) (rn_move E rfl rfl) ?_; clear E a; intro a E
                      refine list_guard_yes E rfl rfl rfl rfl hb101 rfl (by decide) (by first | exact rn_len E rfl rfl rfl | exact rn_len_str E rfl rfl rfl | exact rn_len_string E rfl rfl rfl) ?_; clear E a; intro a E
                      refine list_guard_yes E rfl rfl rfl rfl hb101 rfl (by decide) (rn_lss E rfl rfl rfl) ?_; clear E a; intro a E
                      refine list_guard_yes E rfl rfl rfl rfl rfl rfl (by decide) (rn_pick_no' E rfl rfl hb101 rfl) ?_; clear E a; intro a E
                      refine list_guard_yes E rfl rfl rfl rfl rfl rfl (by decide) (rn_move E rfl rfl) ?_; clear E a; intro a E
                      refine guard_split E (t := 108) rfl (fun hb108 => ?_) (fun hb108 => ?_)
                      · have hb108n := hb108; first | replace hb108n := n1 hb108n | replace hb108n := n2 hb108n | replace hb108n := n3 hb108n | replace hb108n := n4 hb108n | replace hb108n := n5 hb108n | replace hb108n := n6 hb108n | skip
                        refine list_guard_no E rfl rfl rfl rfl hb108 rfl (by decide) ?_; clear E a; intro a E
                        refine list_guard_no E rfl rfl rfl rfl hb108 rfl (by decide) ?_; clear E a; intro a E
                        refine list_guard_no E rfl rfl rfl rfl hb108 rfl (by decide) ?_; clear E a; intro a E
                        refine list_guard_yes E rfl rfl rfl rfl rfl rfl (by decide) (rn_pick_yes' E rfl rfl hb108 rfl) ?_; clear E a; intro a E
                        refine list_guard_yes E rfl rfl rfl rfl hb78 rfl (by decide) (rn_pick_yes' E rfl rfl rfl rfl) ?_; clear E a; intro a E
                        refine list_pure E rfl rfl (by decide) (rn_pick_no' E rfl rfl hb78 rfl) ?_; clear E a; intro a E
                        refine wpList_nil ?_
                        refine joined_here ?_
                        refine ⟨_, ?_, S, E.keep (keep_cons rfl (keep_cons rfl (keep_cons rfl (keep_cons rfl (keep_cons rfl (keep_cons rfl keep_nil))))))⟩
                        simp only [Cl.may, hns, beq_iff_eq, bne_iff_ne, decide_eq_true_eq, Bool.false_eq_true, false_iff, true_iff, false_or, ne_eq]; omega
                      · have hb108n := hb108; first | replace hb108n := n1 hb108n | replace hb108n := n2 hb108n | replace hb108n := n3 hb108n | replace hb108n := n4 hb108n | replace hb108n := n5 hb108n | replace hb108n := n6 hb108n | skip
                        refine list_guard_yes E rfl rfl rfl rfl hb108 rfl (by decide) (by first | exact rn_fieldAddr0 (q := 2) E rfl rfl rfl | exact rn_fieldAddr (q := 2) E rfl rfl rfl) ?_; clear E a; intro a E
                        refine list_guard_yes E rfl rfl rfl rfl hb108 rfl (by decide) (by first | exact rn_load E rfl rfl rfl (S.get (by first | exact pk1 | exact pk2 | exact pk3 | exact pk4 | exact pk5 | exact pk6 | exact pk7 | exact pk8 | exact pk9)) rfl | exact rn_loadc E rfl rfl rfl (by assumption)) ?_; clear E a; intro a E
                        refine list_guard_yes E rfl rfl rfl rfl hb108 rfl (by decide) (rn_gtr E rfl rfl rfl) ?_; clear E a; intro a E
                        refine list_guard_yes E rfl rfl rfl rfl rfl rfl (by decide) (rn_pick_no' E rfl rfl hb108 rfl) ?_; clear E a; intro a E
                        refine list_guard_yes E rfl rfl rfl rfl hb78 rfl (by decide) (rn_pick_yes' E rfl rfl rfl rfl) ?_; clear E a; intro a E
                        refine list_pure E rfl rfl (by decide) (rn_pick_no' E rfl rfl hb78 rfl) ?_; clear E a; intro a E
                        refine wpList_nil ?_
                        refine joined_here ?_
                        refine ⟨_, ?_, S, E.keep (keep_cons rfl (keep_cons rfl (keep_cons rfl (keep_cons rfl (keep_cons rfl (keep_cons rfl keep_nil))))))⟩
                        simp only [Cl.may, hns, beq_iff_eq, bne_iff_ne, decide_eq_true_eq, Bool.false_eq_true, false_iff, true_iff, false_or, ne_eq]; omega
                  · have hb90n := hb90; first | replace hb90n := n1 hb90n | replace hb90n := n2 hb90n | replace hb90n := n3 hb90n | replace hb90n := n4 hb90n | replace hb90n := n5 hb90n | replace hb90n := n6 hb90n | skip
                    refine list_guard_yes E rfl rfl rfl rfl hb90 rfl (by decide) (by first | exact rn_fieldAddr0 (q := 4) E rfl rfl rfl | exact rn_fieldAddr (q := 4) E rfl rfl rfl) ?_; clear E a; intro a E
                    refine list_guard_yes E rfl rfl rfl rfl hb90 rfl (by decide) (by first | exact rn_load E rfl rfl rfl (S.get (by first | exact pk1 | exact pk2 | exact pk3 | exact pk4 | exact pk5 | exact pk6 | exact pk7 | exact pk8 | exact pk9)) rfl | exact rn_loadc E rfl rfl rfl (by assumption)) ?_; clear E a; intro a E
                    refine list_guard_yes E rfl rfl rfl rfl hb90 rfl (by decide) (by first | exact rn_len E rfl rfl rfl | exact rn_len_str E rfl rfl rfl | exact rn_len_string E rfl rfl rfl) ?_; clear E a; intro a E
                    refine list_guard_yes E rfl rfl rfl rfl hb90 rfl (by decide) (rn_gtr E rfl rfl rfl) ?_; clear E a; intro a E
                    refine list_guard_yes E rfl rfl rfl rfl hb86 rfl (by decide) (rn_pick_no' E rfl rfl hb90 rfl) ?_; clear E a; intro a E
                    refine list_guard_yes E rfl rfl rfl rfl hb78 rfl (by decide) (rn_pick_yes' E rfl rfl hb86 rfl) ?_; clear E a; intro a E
                    refine list_guard_yes E rfl rfl rfl rfl hb78 rfl (by decide) (rn_move E rfl rfl) ?_; clear E a; intro a E
                    refine guard_split E (t := 97) rfl (fun hb97 => ?_) (fun hb97 => ?_)
                    · have hb97n := hb97; first | replace hb97n := n1 hb97n | replace hb97n := n2 hb97n | replace hb97n := n3 hb97n | replace hb97n := n4 hb97n | replace hb97n := n5 hb97n | replace hb97n := n6 hb97n | skip
                      refine list_guard_yes E rfl rfl rfl rfl hb97 rfl (by decide) (by first | exact rn_fieldAddr0 (q := 0) E rfl rfl rfl | exact rn_fieldAddr (q := 0) E rfl rfl rfl) ?_; clear E a; intro a E
                      refine list_guard_yes E rfl rfl rfl rfl hb97 rfl (by decide) (by first | exact rn_load E rfl rfl rfl (S.get (by first | exact pk1 | exact pk2 | exact pk3 | exact pk4 | exact pk5 | exact pk6 | exact pk7 | exact pk8 | exact pk9)) rfl | exact rn_loadc E rfl rfl rfl (by assumption)) ?_; clear E a; intro a E
                      refine list_guard_yes E rfl rfl rfl rfl hb97 rfl (by decide) (by first | exact rn_neq E rfl rfl rfl | exact rn_neq_ptr_nil E rfl rfl rfl rfl | exact rn_neq_bool E rfl rfl rfl rfl | exact rn_neq_string E rfl rfl rfl) ?_; clear E a; intro a E
                      refine list_guard_yes E rfl rfl rfl rfl hb97 rfl (by decide) (rn_move E rfl rfl) ?_; clear E a; intro a E
                      refine guard_split E (t := 101) rfl (fun hb101 => ?_) (fun hb101 => ?_)
                      · have hb101n := hb101; first | replace hb101n := n1 hb101n | replace hb101n := n2 hb101n | replace hb101n := n3 hb101n | replace hb101n := n4 hb101n | replace hb101n := n5 hb101n | replace hb101n := n6 hb101n | skip
                        refine list_guard_no E rfl rfl rfl rfl hb101 rfl (by decide) ?_; clear E a; intro a E
                        refine list_guard_no E rfl rfl rfl rfl hb101 rfl (by decide) ?_; clear E a; intro a E
                        refine list_guard_no E rfl rfl rfl rfl hb101 rfl (by decide) ?_; clear E a; intro a E
                        refine list_guard_no E rfl rfl rfl rfl hb101 rfl (by decide) ?_; clear E a; intro a E
                        refine list_guard_no E rfl rfl rfl rfl hb101 rfl (by decide) ?_; clear E a; intro a E
                        refine list_guard_yes E rfl rfl rfl rfl hb97 rfl (by decide) (rn_pick_yes' E rfl rfl hb101 rfl) ?_; clear E a; intro a E
                        refine list_guard_yes E rfl rfl rfl rfl hb97 rfl (by decide) (rn_move E rfl rfl) ?_; clear E a; intro a E
                        refine list_guard_no E rfl rfl rfl rfl rfl rfl (by decide) ?_; clear E a; intro a E
                        refine list_guard_no E rfl rfl rfl rfl rfl rfl (by decide) ?_; clear E a; intro a E
                        refine list_guard_no E rfl rfl rfl rfl rfl rfl (by decide) ?_; clear E a; intro a E
                        refine list_guard_yes E rfl rfl rfl rfl hb97 rfl (by decide) (rn_pick_yes' E rfl rfl rfl rfl) ?_; clear E a; intro a E
                        refine list_guard_yes E rfl rfl rfl rfl hb78 rfl (by decide) (rn_pick_yes' E rfl rfl hb97 rfl) ?_; clear E a; intro a E
                        refine list_pure E rfl rfl (by decide) (rn_pick_no' E rfl rfl hb78 rfl) ?_; clear E a; intro a E
                        refine wpList_nil ?_
                        refine joined_here ?_
                        refine ⟨_, ?_, S, E.keep (keep_cons rfl (keep_cons rfl (keep_cons rfl (keep_cons rfl (keep_cons rfl (keep_cons rfl keep_nil))))))⟩
                        simp only [Cl.may, hns, beq_iff_eq, bne_iff_ne, decide_eq_true_eq, Bool.false_eq_true, false_iff, true_iff, false_or, ne_eq]; omega
                      · have hb101n := hb101; first | replace hb101n := n1 hb101n | replace hb101n := n2 hb101n | replace hb101n := n3 hb101n | replace hb101n := n4 hb101n | replace hb101n := n5 hb101n | replace hb101n := n6 hb101n | skip
                        refine list_guard_yes E rfl rfl rfl rfl hb101 rfl (by decide) (by first | exact rn_fieldAddr0 (q := 2) E rfl rfl rfl | exact rn_fieldAddr (q := 2) E rfl rfl rfl) ?_; clear E a; intro a E
                        refine list_guard_yes E rfl rfl rfl rfl hb101 rfl (by decide) (by first | exact rn_load E rfl rfl rfl (S.get (by first | exact pk1 | exact pk2 | exact pk3 | exact pk4 | exact pk5 | exact pk6 | exact pk7 | exact pk8 | exact pk9)) rfl | exact rn_loadc E rfl rfl rfl (by assumption)) ?_; clear E a; intro a E
                        refine list_guard_yes E rfl rfl rfl rfl hb101 rfl (by decide) (rn_move E rfl rfl) ?_; clear E a; intro a E
                        refine list_guard_yes E rfl rfl rfl rfl hb101 rfl (by decide) (by first | exact rn_len E rfl rfl rfl | exact rn_len_str E rfl rfl rfl | exact rn_len_string E rfl rfl rfl) ?_; clear E a; intro a E
                        refine list_guard_yes E rfl rfl rfl rfl hb101 rfl (by decide) (rn_lss E rfl rfl rfl) ?_; clear E a; intro a E
                        refine list_guard_yes E rfl rfl rfl rfl hb97 rfl (by decide) (rn_pick_no' E rfl rfl hb101 rfl) ?_; clear E a; intro a E
                        refine list_guard_yes E rfl rfl rfl rfl hb97 rfl (by decide) (rn_move E rfl rfl) ?_; clear E a; intro a E
                        refine guard_split E (t := 108) rfl (fun hb108 => ?_) (fun hb108 => ?_)
                        · have hb108n := hb108; first | replace hb108n := n1 hb108n | replace hb108n := n2 hb108n | replace hb108n := n3 hb108n | replace hb108n := n4 hb108n | replace hb108n := n5 hb108n | replace hb108n := n6 hb108n | skip
                          refine list_guard_no E rfl rfl rfl rfl hb108 rfl (by decide) ?_; clear E a; intro a E
                          refine list_guard_no E rfl rfl rfl rfl hb108 rfl (by decide) ?_; clear E a; intro a E
                          refine list_guard_no E rfl rfl rfl rfl hb108 rfl (by decide) ?_; clear E a; intro a E
                          refine list_guard_yes E rfl rfl rfl rfl hb97 rfl (by decide) (rn_pick_yes' E rfl rfl hb108 rfl) ?_; clear E a; intro a E
                          refine list_guard_yes E rfl rfl rfl rfl hb78 rfl (by decide) (rn_pick_yes' E rfl rfl hb97 rfl) ?_; clear E a; intro a E
                          refine list_pure E rfl rfl (by decide) (rn_pick_no' E rfl rfl hb78 rfl) ?_; clear E a; intro a E
                          refine wpList_nil ?_
                          refine joined_here ?_
                          refine ⟨_, ?_, S, E.keep (keep_cons rfl (keep_cons rfl (keep_cons rfl (keep_cons rfl (keep_cons rfl (keep_cons rfl keep_nil))))))⟩
                          simp only [Cl.may, hns, beq_iff_eq, bne_iff_ne, decide_eq_true_eq, Bool.false_eq_true, false_iff, true_iff, false_or, ne_eq]; omega
                        · have hb108n := hb108; first | replace hb108n := n1 hb108n | replace hb108n := n2 hb108n | replace hb108n := n3 hb108n | replace hb108n := n4 hb108n | replace hb108n := n5 hb108n | replace hb108n := n6 hb108n | skip
                          refine list_guard_yes E rfl rfl rfl rfl hb108 rfl (by decide) (by first | exact rn_fieldAddr0 (q := 2) E rfl rfl rfl | exact rn_fieldAddr (q := 2) E rfl rfl rfl) ?_; clear E a; intro a E
                          refine list_guard_yes E rfl rfl rfl rfl hb108 rfl (by decide) (by first | exact rn_load E rfl rfl rfl (S.get (by first | exact pk1 | exact pk2 | exact pk3 | exact pk4 | exact pk5 | exact pk6 | exact pk7 | exact pk8 | exact pk9)) rfl | exact rn_loadc E rfl rfl rfl (by assumption)) ?_; clear E a; intro a E
                          refine list_guard_yes E rfl rfl rfl rfl hb108 rfl (by decide) (rn_gtr E rfl rfl rfl) ?_; clear E a; intro a E
                          refine list_guard_yes E rfl rfl rfl rfl hb97 rfl (by decide) (rn_pick_no' E rfl rfl hb108 rfl) ?_; clear E a; intro a E
                          refine list_guard_yes E rfl rfl rfl rfl hb78 rfl (by decide) (rn_pick_yes' E rfl rfl hb97 rfl) ?_; clear E a; intro a E
                          refine list_pure E rfl rfl (by decide) (rn_pick_no' E rfl rfl hb78 rfl) ?_; clear E a; intro a E
                          refine wpList_nil ?_
                          refine joined_here ?_
                          refine ⟨_, ?_, S, E.keep (keep_cons rfl (keep_cons rfl (keep_cons rfl (keep_cons rfl (keep_cons rfl (keep_cons rfl keep_nil))))))⟩
                          simp only [Cl.may, hns, beq_iff_eq, bne_iff_ne, decide_eq_true_eq, Bool.false_eq_true, false_iff, true_iff, false_or, ne_eq]; omega
                    · have hb97n := hb97; first | replace hb97n := n1 hb97n | replace hb97n := n2 hb97n | replace hb97n := n3 hb97n | replace hb97n := n4 hb97n | replace hb97n := n5 hb97n | replace hb97n := n6 hb97n | skip
                      refine list_guard_no E rfl rfl rfl rfl hb97 rfl (by decide) ?_; clear E a; intro a E
                      refine list_guard_no E rfl rfl rfl rfl hb97 rfl (by decide) ?_; clear E a; intro a E
                      refine list_guard_no E rfl rfl rfl rfl hb97 rfl (by decide) ?_; clear E a; intro a E
                      refine list_guard_no E rfl rfl rfl rfl hb97 rfl (by decide) ?_; clear E a; intro a E
                      refine list_guard_undef E rfl rfl rfl rfl rfl (by decide) ?_; clear E a; intro a E
                      refine list_guard_undef E rfl rfl rfl rfl rfl (by decide) ?_; clear E a; intro a E
                      refine list_guard_undef E rfl rfl rfl rfl rfl (by decide) ?_; clear E a; intro a E
                      refine list_guard_undef E rfl rfl rfl rfl rfl (by decide) ?_; clear E a; intro a E
                      refine list_guard_undef E rfl rfl rfl rfl rfl (by decide) ?_; clear E a; intro a E
                      refine list_guard_no E rfl rfl rfl rfl hb97 rfl (by decide) ?_; clear E a; intro a E
                      refine list_guard_no E rfl rfl rfl rfl hb97 rfl (by decide) ?_; clear E a; intro a E
                      refine list_guard_undef E rfl rfl rfl rfl rfl (by decide) ?_; clear E a; intro a E
                      refine list_guard_undef E rfl rfl rfl rfl rfl (by decide) ?_; clear E a; intro a E
                      refine list_guard_undef E rfl rfl rfl rfl rfl (by decide) ?_; clear E a; intro a E
                      refine list_guard_no E rfl rfl rfl rfl hb97 rfl (by decide) ?_; clear E a; intro a E
                      refine list_guard_yes E rfl rfl rfl rfl hb78 rfl (by decide) (rn_pick_no' E rfl rfl hb97 rfl) ?_; clear E a; intro a E
                      refine list_pure E rfl rfl (by decide) (rn_pick_no' E rfl rfl hb78 rfl) ?_; clear E a; intro a E
                      refine wpList_nil ?_
                      refine joined_here ?_
                      refine ⟨_, ?_, S, E.keep (keep_cons rfl (keep_cons rfl (keep_cons rfl (keep_cons rfl (keep_cons rfl (keep_cons rfl keep_nil))))))⟩
                      simp only [Cl.may, hns, beq_iff_eq, bne_iff_ne, decide_eq_true_eq, Bool.false_eq_true, false_iff, true_iff, false_or, ne_eq]; omega
                · have hb86n := hb86; first | replace hb86n := n1 hb86n | replace hb86n := n2 hb86n | replace hb86n := n3 hb86n | replace hb86n := n4 hb86n | replace hb86n := n5 hb86n | replace hb86n := n6 hb86n | skip
                  refine list_guard_no E rfl rfl rfl rfl hb86 rfl (by decide) ?_; clear E a; intro a E
                  refine list_guard_no E rfl rfl rfl rfl hb86 rfl (by decide) ?_; clear E a; intro a E
                  refine list_guard_no E rfl rfl rfl rfl hb86 rfl (by decide) ?_; clear E a; intro a E
                  refine list_guard_no E rfl rfl rfl rfl hb86 rfl (by decide) ?_; clear E a; intro a E
                  refine list_guard_undef E rfl rfl rfl rfl rfl (by decide) ?_; clear E a; intro a E
                  refine list_guard_undef E rfl rfl rfl rfl rfl (by decide) ?_; clear E a; intro a E
                  refine list_guard_undef E rfl rfl rfl rfl rfl (by decide) ?_; clear E a; intro a E
                  refine list_guard_undef E rfl rfl rfl rfl rfl (by decide) ?_; clear E a; intro a E
                  refine list_guard_no E rfl rfl rfl rfl hb86 rfl (by decide) ?_; clear E a; intro a E
                  refine list_guard_yes E rfl rfl rfl rfl hb78 rfl (by decide) (rn_pick_no' E rfl rfl hb86 rfl) ?_; clear E a; intro a E
                  refine list_guard_yes E rfl rfl rfl rfl hb78 rfl (by decide) (rn_move E rfl rfl) ?_; clear E a; intro a E
                  refine list_guard_no E rfl rfl rfl rfl rfl rfl (by decide) ?_; clear E a; intro a E
                  refine list_guard_no E rfl rfl rfl rfl rfl rfl (by decide) ?_; clear E a; intro a E
                  refine list_guard_no E rfl rfl rfl rfl rfl rfl (by decide) ?_; clear E a; intro a E
                  refine list_guard_no E rfl rfl rfl rfl rfl rfl (by decide) ?_; clear E a; intro a E
                  refine list_guard_undef E rfl rfl rfl rfl rfl (by decide) ?_; clear E a; intro a E
                  refine list_guard_undef E rfl rfl rfl rfl rfl (by decide) ?_; clear E a; intro a E
                  refine list_guard_undef E rfl rfl rfl rfl rfl (by decide) ?_; clear E a; intro a E
                  refine list_guard_undef E rfl rfl rfl rfl rfl (by decide) ?_; clear E a; intro a E
                  refine list_guard_undef E rfl rfl rfl rfl rfl (by decide) ?_; clear E a; intro a E
                  refine list_guard_no E rfl rfl rfl rfl rfl rfl (by decide) ?_; clear E a; intro a E
                  refine list_guard_no E rfl rfl rfl rfl rfl rfl (by decide) ?_; clear E a; intro a E
                  refine list_guard_undef E rfl rfl rfl rfl rfl (by decide) ?_; clear E a; intro a E
                  refine list_guard_undef E rfl rfl rfl rfl rfl (by decide) ?_; clear E a; intro a E
                  refine list_guard_undef E rfl rfl rfl rfl rfl (by decide) ?_; clear E a; intro a E
                  refine list_guard_no E rfl rfl rfl rfl rfl rfl (by decide) ?_; clear E a; intro a E
                  refine list_guard_yes E rfl rfl rfl rfl hb78 rfl (by decide) (rn_pick_no' E rfl rfl rfl rfl) ?_; clear E a; intro a E
                  refine list_pure E rfl rfl (by decide) (rn_pick_no' E rfl rfl hb78 rfl) ?_; clear E a; intro a E
                  refine wpList_nil ?_
                  refine joined_here ?_
                  refine ⟨_, ?_, S, E.keep (keep_cons rfl (keep_cons rfl (keep_cons rfl (keep_cons rfl (keep_cons rfl (keep_cons rfl keep_nil))))))⟩
                  simp only [Cl.may, hns, beq_iff_eq, bne_iff_ne, decide_eq_true_eq, Bool.false_eq_true, false_iff, true_iff, false_or, ne_eq]; omega
              · skip
                have hys : c.small := by simpa using hsm
                refine list_pure E rfl rfl (by decide) (by first | exact rn_neq E rfl rfl rfl | exact rn_neq_ptr_nil E rfl rfl rfl rfl | exact rn_neq_bool E rfl rfl rfl rfl | exact rn_neq_string E rfl rfl rfl) ?_; clear E a; intro a E
                refine list_pure E rfl rfl (by decide) (rn_move E rfl rfl) ?_; clear E a; intro a E
                refine guard_false E (t := 78) rfl (rfl) (fun hb78 => ?_)
                refine list_guard_yes E rfl rfl rfl rfl hb78 rfl (by decide) (rn_move E rfl rfl) ?_; clear E a; intro a E
                refine list_guard_yes E rfl rfl rfl rfl hb78 rfl (by decide) (rn_not E rfl rfl) ?_; clear E a; intro a E
                refine list_guard_yes E rfl rfl rfl rfl hb78 rfl (by decide) (rn_move E rfl rfl) ?_; clear E a; intro a E
                refine guard_false E (t := 81) rfl (rfl) (fun hb81 => ?_)
                refine list_guard_no E rfl rfl rfl rfl hb81 rfl (by decide) ?_; clear E a; intro a E
                refine list_guard_no E rfl rfl rfl rfl hb81 rfl (by decide) ?_; clear E a; intro a E
                refine list_guard_no E rfl rfl rfl rfl hb81 rfl (by decide) ?_; clear E a; intro a E
                refine list_guard_yes E rfl rfl rfl rfl hb78 rfl (by decide) (rn_pick_no' E rfl rfl hb81 rfl) ?_; clear E a; intro a E
                refine list_guard_yes E rfl rfl rfl rfl hb78 rfl (by decide) (rn_move E rfl rfl) ?_; clear E a; intro a E
                refine list_guard_no E rfl rfl rfl rfl rfl rfl (by decide) ?_; clear E a; intro a E
                refine list_guard_no E rfl rfl rfl rfl rfl rfl (by decide) ?_; clear E a; intro a E
                refine list_guard_no E rfl rfl rfl rfl rfl rfl (by decide) ?_; clear E a; intro a E
                refine list_guard_no E rfl rfl rfl rfl rfl rfl (by decide) ?_; clear E a; intro a E
                refine list_guard_undef E rfl rfl rfl rfl rfl (by decide) ?_; clear E a; intro a E
                refine list_guard_undef E rfl rfl rfl rfl rfl (by decide) ?_; clear E a; intro a E
                refine list_guard_undef E rfl rfl rfl rfl rfl (by decide) ?_; clear E a; intro a E
                refine list_guard_undef E rfl rfl rfl rfl rfl (by decide) ?_; clear E a; intro a E
                refine list_guard_no E rfl rfl rfl rfl rfl rfl (by decide) ?_; clear E a; intro a E
                refine list_guard_yes E rfl rfl rfl rfl hb78 rfl (by decide) (rn_pick_no' E rfl rfl rfl rfl) ?_; clear E a; intro a E
                refine list_guard_yes E rfl rfl rfl rfl hb78 rfl (by decide) (rn_move E rfl rfl) ?_; clear E a; intro a E
                refine list_guard_no E rfl rfl rfl rfl rfl rfl (by decide) ?_; clear E a; intro a E
                refine list_guard_no E rfl rfl rfl rfl rfl rfl (by decide) ?_; clear E a; intro a E
                refine list_guard_no E rfl rfl rfl rfl rfl rfl (by decide) ?_; clear E a; intro a E
                refine list_guard_no E rfl rfl rfl rfl rfl rfl (by decide) ?_; clear E a; intro a E
                refine list_guard_undef E rfl rfl rfl rfl rfl (by decide) ?_; clear E a; intro a E
                refine list_guard_undef E rfl rfl rfl rfl rfl (by decide) ?_; clear E a; intro a E
                refine list_guard_undef E rfl rfl rfl rfl rfl (by decide) ?_; clear E a; intro a E
                refine list_guard_undef E rfl rfl rfl rfl rfl (by decide) ?_; clear E a; intro a E
                refine list_guard_undef E rfl rfl rfl rfl rfl (by decide) ?_; clear E a; intro a E
                refine list_guard_no E rfl rfl rfl rfl rfl rfl (by decide) ?_; clear E a; intro a E
                refine list_guard_no E rfl rfl rfl rfl rfl rfl (by decide) ?_; clear E a; intro a E
                refine list_guard_undef E rfl rfl rfl rfl rfl (by decide) ?_; clear E a; intro a E
                refine list_guard_undef E rfl rfl rfl rfl rfl (by decide) ?_; clear E a; intro a E
                refine list_guard_undef E rfl rfl rfl rfl rfl (by decide) ?_; clear E a; intro a E
                refine list_guard_no E rfl rfl rfl rfl rfl rfl (by decide) ?_; clear E a; intro a E
                refine list_guard_yes E rfl rfl rfl rfl hb78 rfl (by decide) (rn_pick_no' E rfl rfl rfl rfl) ?_; clear E a; intro a E
                refine list_pure E rfl rfl (by decide) (rn_pick_no' E rfl rfl hb78 rfl) ?_; clear E a; intro a E
                refine wpList_nil ?_
                refine joined_here ?_
                exact ⟨false, by simp [Cl.may, hys], S, E.keep (keep_cons rfl (keep_cons rfl (keep_cons rfl (keep_cons rfl (keep_cons rfl (keep_cons rfl keep_nil))))))⟩
            · clear E S a; intro a w J; obtain ⟨b, hmy, S, E⟩ := J
              refine then_k hK ?_; clear hK; clear K
              refine if_bool E rfl (fun hb => ?_) (fun hb => ?_)
              · first | replace hb := n1 hb | replace hb := n2 hb | replace hb := n3 hb | replace hb := n4 hb | replace hb := n5 hb | replace hb := n6 hb | skip
                refine wp_exit ?_
                refine then_exit ?_; clear hK; clear K
                refine in_exit ?_
                refine then_k hK ?_; clear hK; clear K
                refine region_list ?_
                refine list_pure E rfl rfl (by decide) (rn_move E rfl rfl) ?_; clear E a; intro a E
                refine list_pure E rfl rfl (by decide) (rn_add E rfl rfl rfl (by first | exact wa_lit (y := 1) (by omega) | exact w_in (by omega) | exact w_inu (by omega) | exact rfl)) ?_; clear E a; intro a E
                refine list_pure E rfl rfl (by decide) (rn_assign E rfl rfl) ?_; clear E a; intro a E
                refine wpList_nil ?_
                refine then_normal ?_
                exact ⟨_, by omega, i + 1, kept, s, A, C, _, by omega, rfl, by omega, hA, he, hroom, hbl, hch, hgk, hB, S.only (Bs := [A, C, O]) (sel_cons (by first | exact pk1 | exact pk2 | exact pk3 | exact pk4 | exact pk5 | exact pk6 | exact pk7 | exact pk8 | exact pk9) (sel_cons (by first | exact pk1 | exact pk2 | exact pk3 | exact pk4 | exact pk5 | exact pk6 | exact pk7 | exact pk8 | exact pk9) (sel_cons (by first | exact pk1 | exact pk2 | exact pk3 | exact pk4 | exact pk5 | exact pk6 | exact pk7 | exact pk8 | exact pk9) (sel_nil _)))), E.keep (keep_cons rfl (keep_cons rfl (keep_cons rfl (keep_cons rfl keep_nil))))⟩
              · first | replace hb := n1 hb | replace hb := n2 hb | replace hb := n3 hb | replace hb := n4 hb | replace hb := n5 hb | replace hb := n6 hb | skip
                have hmay : c.may s := Classical.byContradiction fun h => by rw [hmy.2 h] at hb; cases hb
                refine wp_skip ?_
                refine then_k hK ?_; clear hK; clear K
                refine wp_seq_k ?_; intro K hK
                refine wp_seq_k ?_; intro K hK
                refine region_list ?_
                refine list_pure E rfl rfl (by decide) (by first | exact rn_fieldAddr0 (q := 0) E rfl rfl rfl | exact rn_fieldAddr (q := 0) E rfl rfl rfl) ?_; clear E a; intro a E
                refine list_pure E rfl rfl (by decide) (by first | exact rn_load E rfl rfl rfl (S.get (by first | exact pk1 | exact pk2 | exact pk3 | exact pk4 | exact pk5 | exact pk6 | exact pk7 | exact pk8 | exact pk9)) rfl | exact rn_loadc E rfl rfl rfl (by assumption)) ?_; clear E a; intro a E
                refine wpList_nil ?_
                refine then_k hK ?_; clear hK; clear K
                refine wp_block ?_
                refine wp_seq_k ?_; intro K hK
                refine region_list ?_
                refine list_pure E rfl rfl (by decide) (by first | exact rn_eql E rfl rfl rfl | exact rn_eql_ptr_nil E rfl rfl rfl rfl | exact rn_eql_bool E rfl rfl rfl rfl | exact rn_eql_string E rfl rfl rfl) ?_; clear E a; intro a E
                refine list_pure E rfl rfl (by decide) (rn_assign E rfl rfl) ?_; clear E a; intro a E
                refine wpList_nil ?_
                refine then_k hK ?_; clear hK; clear K
                refine if_bool E rfl (fun hb => ?_) (fun hb => ?_)
                · first | replace hb := n1 hb | replace hb := n2 hb | replace hb := n3 hb | replace hb := n4 hb | replace hb := n5 hb | replace hb := n6 hb | skip
                  have hsm2 : c.small := by { rcases hmay with h | h | ⟨h, _⟩ | ⟨h, _⟩ <;> first | exact h | omega }
                  refine region_list ?_
                  refine list_pure E rfl rfl (by decide) (rn_move E rfl rfl) ?_; clear E a; intro a E
                  refine list_pure E rfl rfl (by decide) (by first | exact rn_fieldAddr0 (q := 1) E rfl rfl rfl | exact rn_fieldAddr (q := 1) E rfl rfl rfl) ?_; clear E a; intro a E
                  refine list_pure E rfl rfl (by decide) (by first | exact rn_load E rfl rfl rfl (S.get (by first | exact pk1 | exact pk2 | exact pk3 | exact pk4 | exact pk5 | exact pk6 | exact pk7 | exact pk8 | exact pk9)) rfl | exact rn_loadc E rfl rfl rfl (by assumption)) ?_; clear E a; intro a E
                  refine list_pure E rfl rfl (by decide) (by first | exact rn_fieldAddr0 (q := 2) E rfl rfl rfl | exact rn_fieldAddr (q := 2) E rfl rfl rfl) ?_; clear E a; intro a E
                  refine list_pure E rfl rfl (by decide) (by first | exact rn_load E rfl rfl rfl (S.get (by first | exact pk1 | exact pk2 | exact pk3 | exact pk4 | exact pk5 | exact pk6 | exact pk7 | exact pk8 | exact pk9)) rfl | exact rn_loadc E rfl rfl rfl (by assumption)) ?_; clear E a; intro a E
                  refine list_call E rfl rfl (by decide) rfl Try.func11 rfl (by kernel_rfl) rfl (num_ret p s A _ hA c.n c.many (S.hp.sel (sel_cons (by first | exact pk1 | exact pk2 | exact pk3 | exact pk4 | exact pk5 | exact pk6 | exact pk7 | exact pk8 | exact pk9) (sel_nil _))) (by omega)) ?_
                  rintro v128 w ⟨A1, hA1, hT⟩; clear E a; intro a E
                  have S := S.call1 (sel_cons (by first | exact pk1 | exact pk2 | exact pk3 | exact pk4 | exact pk5 | exact pk6 | exact pk7 | exact pk8 | exact pk9) (sel_nil _)) hT
                  rw [lay_num he hroom (by omega) hcok.n hsm2] at hA1
                  refine wpList_nil ?_
                  refine in_normal ?_
                  refine then_k hK ?_; clear hK; clear K
                  refine region_list ?_
                  refine list_pure E rfl rfl (by decide) (rn_move E rfl rfl) ?_; clear E a; intro a E
                  refine list_pure E rfl rfl (by decide) (rn_load_blk (vs := [_, _, _, _, _]) E rfl rfl rfl (S.get (by first | exact pk1 | exact pk2 | exact pk3 | exact pk4 | exact pk5 | exact pk6 | exact pk7 | exact pk8 | exact pk9)) rfl rfl) ?_; clear E a; intro a E
                  refine list_wp rfl (wp_bslice (cells := [_, _, _, _, _]) E S rfl rfl (by decide) rfl rfl rfl rfl rfl (by decide) rfl ?_); clear E S a; intro a w b143 E S
                  refine list_wp rfl (wp_append (by' := 64) E S rfl rfl (by decide) rfl rfl hB (by first | exact pk1 | exact pk2 | exact pk3 | exact pk4 | exact pk5 | exact pk6 | exact pk7 | exact pk8 | exact pk9) ((rd_cells (g := b143) (T := 42) (xs := [.int .i64 c.kind, .int .u64 c.n, .int .i64 c.many, .slice adb c.b.length cpb, str c.s]) (s := 5) (m := 1) rfl (by simp [Value.oneCell']) (by omega) 1).src (S.stab.at (by first | exact mm1 | exact mm2 | exact mm3 | exact mm4 | exact mm5 | exact mm6 | exact mm7 | exact mm8)) rfl) rfl rfl rfl rfl rfl rfl (by simp only [maxLen]; omega) (by omega) ?_); clear E S a; intro a w v144 C144 E S hB144
                  refine list_pure E rfl rfl (by decide) (rn_assign E rfl rfl) ?_; clear E a; intro a E
                  refine wpList_nil ?_
                  refine in_normal ?_
                  refine then_k hK ?_; clear hK; clear K
                  refine region_list ?_
                  refine list_pure E rfl rfl (by decide) (rn_move E rfl rfl) ?_; clear E a; intro a E
                  refine list_pure E rfl rfl (by decide) (rn_add E rfl rfl rfl (by first | exact wa_lit (y := 1) (by omega) | exact w_in (by omega) | exact w_inu (by omega) | exact rfl)) ?_; clear E a; intro a E
                  refine list_pure E rfl rfl (by decide) (rn_assign E rfl rfl) ?_; clear E a; intro a E
                  refine wpList_nil ?_
                  refine then_normal ?_
                  exact ⟨_, by omega, i + 1, kept ++ [c], c.next s, A1, C144, _, by omega, rfl, by rw [List.length_append]; simp only [List.length_singleton]; omega, hA1, he, hroom, next_len (by omega) (by omega) hmay, hch.snoc hmay, fun d hd => by rcases List.mem_append.1 hd with h | h; exact hgk d h; rw [List.mem_singleton.1 h]; exact hcok, (by rw [List.length_append, List.flatMap_append]; simpa [Cl.lay, hbv] using hB144), S.only (Bs := [A1, C144, O]) (sel_cons (by first | exact pk1 | exact pk2 | exact pk3 | exact pk4 | exact pk5 | exact pk6 | exact pk7 | exact pk8 | exact pk9) (sel_cons (by first | exact pk1 | exact pk2 | exact pk3 | exact pk4 | exact pk5 | exact pk6 | exact pk7 | exact pk8 | exact pk9) (sel_cons (by first | exact pk1 | exact pk2 | exact pk3 | exact pk4 | exact pk5 | exact pk6 | exact pk7 | exact pk8 | exact pk9) (sel_nil _)))), E.keep (keep_cons rfl (keep_cons rfl (keep_cons rfl (keep_cons rfl keep_nil))))⟩
                · first | replace hb := n1 hb | replace hb := n2 hb | replace hb := n3 hb | replace hb := n4 hb | replace hb := n5 hb | replace hb := n6 hb | skip
                  refine wp_seq_k ?_; intro K hK
                  refine region_list ?_
                  refine list_pure E rfl rfl (by decide) (by first | exact rn_eql E rfl rfl rfl | exact rn_eql_ptr_nil E rfl rfl rfl rfl | exact rn_eql_bool E rfl rfl rfl rfl | exact rn_eql_string E rfl rfl rfl) ?_; clear E a; intro a E
                  refine list_pure E rfl rfl (by decide) (rn_assign E rfl rfl) ?_; clear E a; intro a E
                  refine wpList_nil ?_
                  refine then_k hK ?_; clear hK; clear K
                  refine if_bool E rfl (fun hb => ?_) (fun hb => ?_)
                  · first | replace hb := n1 hb | replace hb := n2 hb | replace hb := n3 hb | replace hb := n4 hb | replace hb := n5 hb | replace hb := n6 hb | skip
                    refine region_list ?_
                    refine list_pure E rfl rfl (by decide) (rn_move E rfl rfl) ?_; clear E a; intro a E
                    refine list_pure E rfl rfl (by decide) (by first | exact rn_fieldAddr0 (q := 3) E rfl rfl rfl | exact rn_fieldAddr (q := 3) E rfl rfl rfl) ?_; clear E a; intro a E
                    refine list_pure E rfl rfl (by decide) (by first | exact rn_load E rfl rfl rfl (S.get (by first | exact pk1 | exact pk2 | exact pk3 | exact pk4 | exact pk5 | exact pk6 | exact pk7 | exact pk8 | exact pk9)) rfl | exact rn_loadc E rfl rfl rfl (by assumption)) ?_; clear E a; intro a E
                    refine list_call E rfl rfl (by decide) rfl Try.func24 rfl (by kernel_rfl) rfl (bytes_ret p s A O _ hA _ c.b (hbv ▸ hcok.rd) (S.hp.sel (sel_cons (by first | exact pk1 | exact pk2 | exact pk3 | exact pk4 | exact pk5 | exact pk6 | exact pk7 | exact pk8 | exact pk9) (sel_cons (by first | exact pk1 | exact pk2 | exact pk3 | exact pk4 | exact pk5 | exact pk6 | exact pk7 | exact pk8 | exact pk9) (sel_nil _)))) (by omega)) ?_
                    rintro v134 w ⟨A1, hA1, hT⟩; clear E a; intro a E
                    have S := S.call2 (sel_cons (by first | exact pk1 | exact pk2 | exact pk3 | exact pk4 | exact pk5 | exact pk6 | exact pk7 | exact pk8 | exact pk9) (sel_cons (by first | exact pk1 | exact pk2 | exact pk3 | exact pk4 | exact pk5 | exact pk6 | exact pk7 | exact pk8 | exact pk9) (sel_nil _))) hT
                    rw [lay_bytes he hroom (by omega) (by omega) (by omega)] at hA1
                    refine wpList_nil ?_
                    refine in_normal ?_
                    refine then_k hK ?_; clear hK; clear K
                    refine region_list ?_
                    refine list_pure E rfl rfl (by decide) (rn_move E rfl rfl) ?_; clear E a; intro a E
                    refine list_pure E rfl rfl (by decide) (rn_load_blk (vs := [_, _, _, _, _]) E rfl rfl rfl (S.get (by first | exact pk1 | exact pk2 | exact pk3 | exact pk4 | exact pk5 | exact pk6 | exact pk7 | exact pk8 | exact pk9)) rfl rfl) ?_; clear E a; intro a E
                    refine list_wp rfl (wp_bslice (cells := [_, _, _, _, _]) E S rfl rfl (by decide) rfl rfl rfl rfl rfl (by decide) rfl ?_); clear E S a; intro a w b143 E S
                    refine list_wp rfl (wp_append (by' := 64) E S rfl rfl (by decide) rfl rfl hB (by first | exact pk1 | exact pk2 | exact pk3 | exact pk4 | exact pk5 | exact pk6 | exact pk7 | exact pk8 | exact pk9) ((rd_cells (g := b143) (T := 42) (xs := [.int .i64 c.kind, .int .u64 c.n, .int .i64 c.many, .slice adb c.b.length cpb, str c.s]) (s := 5) (m := 1) rfl (by simp [Value.oneCell']) (by omega) 1).src (S.stab.at (by first | exact mm1 | exact mm2 | exact mm3 | exact mm4 | exact mm5 | exact mm6 | exact mm7 | exact mm8)) rfl) rfl rfl rfl rfl rfl rfl (by simp only [maxLen]; omega) (by omega) ?_); clear E S a; intro a w v144 C144 E S hB144
                    refine list_pure E rfl rfl (by decide) (rn_assign E rfl rfl) ?_; clear E a; intro a E
                    refine wpList_nil ?_
                    refine in_normal ?_
                    refine then_k hK ?_; clear hK; clear K
                    refine region_list ?_
                    refine list_pure E rfl rfl (by decide) (rn_move E rfl rfl) ?_; clear E a; intro a E
                    refine list_pure E rfl rfl (by decide) (rn_add E rfl rfl rfl (by first | exact wa_lit (y := 1) (by omega) | exact w_in (by omega) | exact w_inu (by omega) | exact rfl)) ?_; clear E a; intro a E
                    refine list_pure E rfl rfl (by decide) (rn_assign E rfl rfl) ?_; clear E a; intro a E
                    refine wpList_nil ?_
                    refine then_normal ?_
                    exact ⟨_, by omega, i + 1, kept ++ [c], c.next s, A1, C144, _, by omega, rfl, by rw [List.length_append]; simp only [List.length_singleton]; omega, hA1, he, hroom, next_len (by omega) (by omega) hmay, hch.snoc hmay, fun d hd => by rcases List.mem_append.1 hd with h | h; exact hgk d h; rw [List.mem_singleton.1 h]; exact hcok, (by rw [List.length_append, List.flatMap_append]; simpa [Cl.lay, hbv] using hB144), S.only (Bs := [A1, C144, O]) (sel_cons (by first | exact pk1 | exact pk2 | exact pk3 | exact pk4 | exact pk5 | exact pk6 | exact pk7 | exact pk8 | exact pk9) (sel_cons (by first | exact pk1 | exact pk2 | exact pk3 | exact pk4 | exact pk5 | exact pk6 | exact pk7 | exact pk8 | exact pk9) (sel_cons (by first | exact pk1 | exact pk2 | exact pk3 | exact pk4 | exact pk5 | exact pk6 | exact pk7 | exact pk8 | exact pk9) (sel_nil _)))), E.keep (keep_cons rfl (keep_cons rfl (keep_cons rfl (keep_cons rfl keep_nil))))⟩
                  · first | replace hb := n1 hb | replace hb := n2 hb | replace hb := n3 hb | replace hb := n4 hb | replace hb := n5 hb | replace hb := n6 hb | skip
                    refine wp_seq_k ?_; intro K hK
                    refine region_list ?_
                    refine list_pure E rfl rfl (by decide) (by first | exact rn_eql E rfl rfl rfl | exact rn_eql_ptr_nil E rfl rfl rfl rfl | exact rn_eql_bool E rfl rfl rfl rfl | exact rn_eql_string E rfl rfl rfl) ?_; clear E a; intro a E
                    refine list_pure E rfl rfl (by decide) (rn_assign E rfl rfl) ?_; clear E a; intro a E
                    refine wpList_nil ?_
                    refine then_k hK ?_; clear hK; clear K
                    refine if_bool E rfl (fun hb => ?_) (fun hb => ?_)
                    · first | replace hb := n1 hb | replace hb := n2 hb | replace hb := n3 hb | replace hb := n4 hb | replace hb := n5 hb | replace hb := n6 hb | skip
                      refine region_list ?_
                      refine list_pure E rfl rfl (by decide) (rn_move E rfl rfl) ?_; clear E a; intro a E
                      refine list_pure E rfl rfl (by decide) (by first | exact rn_fieldAddr0 (q := 4) E rfl rfl rfl | exact rn_fieldAddr (q := 4) E rfl rfl rfl) ?_; clear E a; intro a E
                      refine list_pure E rfl rfl (by decide) (by first | exact rn_load E rfl rfl rfl (S.get (by first | exact pk1 | exact pk2 | exact pk3 | exact pk4 | exact pk5 | exact pk6 | exact pk7 | exact pk8 | exact pk9)) rfl | exact rn_loadc E rfl rfl rfl (by assumption)) ?_; clear E a; intro a E
                      refine list_call E rfl rfl (by decide) rfl Try.func25 rfl (by kernel_rfl) rfl (text_ret p s A _ hA c.s (S.hp.sel (sel_cons (by first | exact pk1 | exact pk2 | exact pk3 | exact pk4 | exact pk5 | exact pk6 | exact pk7 | exact pk8 | exact pk9) (sel_nil _))) (by omega)) ?_
                      rintro v140 w ⟨A1, hA1, hT⟩; clear E a; intro a E
                      have S := S.call1 (sel_cons (by first | exact pk1 | exact pk2 | exact pk3 | exact pk4 | exact pk5 | exact pk6 | exact pk7 | exact pk8 | exact pk9) (sel_nil _)) hT
                      rw [lay_text he hroom (by omega) (by rcases hmay with ⟨h, _⟩ | h | ⟨h, h2⟩ | ⟨h, _⟩ <;> first | exact h2 | (exfalso; omega)) (by omega)] at hA1
                      refine wpList_nil ?_
                      refine in_normal ?_
                      refine then_k hK ?_; clear hK; clear K
                      refine region_list ?_
                      refine list_pure E rfl rfl (by decide) (rn_move E rfl rfl) ?_; clear E a; intro a E
                      refine list_pure E rfl rfl (by decide) (rn_load_blk (vs := [_, _, _, _, _]) E rfl rfl rfl (S.get (by first | exact pk1 | exact pk2 | exact pk3 | exact pk4 | exact pk5 | exact pk6 | exact pk7 | exact pk8 | exact pk9)) rfl rfl) ?_; clear E a; intro a E
                      refine list_wp rfl (wp_bslice (cells := [_, _, _, _, _]) E S rfl rfl (by decide) rfl rfl rfl rfl rfl (by decide) rfl ?_); clear E S a; intro a w b143 E S
                      refine list_wp rfl (wp_append (by' := 64) E S rfl rfl (by decide) rfl rfl hB (by first | exact pk1 | exact pk2 | exact pk3 | exact pk4 | exact pk5 | exact pk6 | exact pk7 | exact pk8 | exact pk9) ((rd_cells (g := b143) (T := 42) (xs := [.int .i64 c.kind, .int .u64 c.n, .int .i64 c.many, .slice adb c.b.length cpb, str c.s]) (s := 5) (m := 1) rfl (by simp [Value.oneCell']) (by omega) 1).src (S.stab.at (by first | exact mm1 | exact mm2 | exact mm3 | exact mm4 | exact mm5 | exact mm6 | exact mm7 | exact mm8)) rfl) rfl rfl rfl rfl rfl rfl (by simp only [maxLen]; omega) (by omega) ?_); clear E S a; intro a w v144 C144 E S hB144
                      refine list_pure E rfl rfl (by decide) (rn_assign E rfl rfl) ?_; clear E a; intro a E
                      refine wpList_nil ?_
                      refine in_normal ?_
                      refine then_k hK ?_; clear hK; clear K
                      refine region_list ?_
                      refine list_pure E rfl rfl (by decide) (rn_move E rfl rfl) ?_; clear E a; intro a E
                      refine list_pure E rfl rfl (by decide) (rn_add E rfl rfl rfl (by first | exact wa_lit (y := 1) (by omega) | exact w_in (by omega) | exact w_inu (by omega) | exact rfl)) ?_; clear E a; intro a E
                      refine list_pure E rfl rfl (by decide) (rn_assign E rfl rfl) ?_; clear E a; intro a E
                      refine wpList_nil ?_
                      refine then_normal ?_
                      exact ⟨_, by omega, i + 1, kept ++ [c], c.next s, A1, C144, _, by omega, rfl, by rw [List.length_append]; simp only [List.length_singleton]; omega, hA1, he, hroom, next_len (by omega) (by omega) hmay, hch.snoc hmay, fun d hd => by rcases List.mem_append.1 hd with h | h; exact hgk d h; rw [List.mem_singleton.1 h]; exact hcok, (by rw [List.length_append, List.flatMap_append]; simpa [Cl.lay, hbv] using hB144), S.only (Bs := [A1, C144, O]) (sel_cons (by first | exact pk1 | exact pk2 | exact pk3 | exact pk4 | exact pk5 | exact pk6 | exact pk7 | exact pk8 | exact pk9) (sel_cons (by first | exact pk1 | exact pk2 | exact pk3 | exact pk4 | exact pk5 | exact pk6 | exact pk7 | exact pk8 | exact pk9) (sel_cons (by first | exact pk1 | exact pk2 | exact pk3 | exact pk4 | exact pk5 | exact pk6 | exact pk7 | exact pk8 | exact pk9) (sel_nil _)))), E.keep (keep_cons rfl (keep_cons rfl (keep_cons rfl (keep_cons rfl keep_nil))))⟩
                    · first | replace hb := n1 hb | replace hb := n2 hb | replace hb := n3 hb | replace hb := n4 hb | replace hb := n5 hb | replace hb := n6 hb | skip
                      obtain ⟨h3, h4, h5⟩ : c.kind = 3 ∧ (s.bs.length : Int) ≤ c.many ∧ c.many ≤ 524288 := by rcases hmay with ⟨h, _⟩ | h | ⟨h, h2⟩ | h <;> first | exact h | (exfalso; omega)
                      refine region_list ?_
                      refine list_pure E rfl rfl (by decide) (rn_move E rfl rfl) ?_; clear E a; intro a E
                      refine list_pure E rfl rfl (by decide) (by first | exact rn_fieldAddr0 (q := 2) E rfl rfl rfl | exact rn_fieldAddr (q := 2) E rfl rfl rfl) ?_; clear E a; intro a E
                      refine list_pure E rfl rfl (by decide) (by first | exact rn_load E rfl rfl rfl (S.get (by first | exact pk1 | exact pk2 | exact pk3 | exact pk4 | exact pk5 | exact pk6 | exact pk7 | exact pk8 | exact pk9)) rfl | exact rn_loadc E rfl rfl rfl (by assumption)) ?_; clear E a; intro a E
                      refine list_call E rfl rfl (by decide) rfl Try.func26 rfl (by kernel_rfl) rfl (pad_ret p s A _ hA c.many (S.hp.sel (sel_cons (by first | exact pk1 | exact pk2 | exact pk3 | exact pk4 | exact pk5 | exact pk6 | exact pk7 | exact pk8 | exact pk9) (sel_nil _))) (by omega)) ?_
                      rintro v120 w ⟨A1, hA1, hT⟩; clear E a; intro a E
                      have S := S.call1 (sel_cons (by first | exact pk1 | exact pk2 | exact pk3 | exact pk4 | exact pk5 | exact pk6 | exact pk7 | exact pk8 | exact pk9) (sel_nil _)) hT
                      rw [lay_pad he hroom h4 h5 h3] at hA1
                      refine wpList_nil ?_
                      refine in_normal ?_
                      refine then_k hK ?_; clear hK; clear K
                      refine region_list ?_
                      refine list_pure E rfl rfl (by decide) (rn_move E rfl rfl) ?_; clear E a; intro a E
                      refine list_pure E rfl rfl (by decide) (rn_load_blk (vs := [_, _, _, _, _]) E rfl rfl rfl (S.get (by first | exact pk1 | exact pk2 | exact pk3 | exact pk4 | exact pk5 | exact pk6 | exact pk7 | exact pk8 | exact pk9)) rfl rfl) ?_; clear E a; intro a E
                      refine list_wp rfl (wp_bslice (cells := [_, _, _, _, _]) E S rfl rfl (by decide) rfl rfl rfl rfl rfl (by decide) rfl ?_); clear E S a; intro a w b143 E S
                      refine list_wp rfl (wp_append (by' := 64) E S rfl rfl (by decide) rfl rfl hB (by first | exact pk1 | exact pk2 | exact pk3 | exact pk4 | exact pk5 | exact pk6 | exact pk7 | exact pk8 | exact pk9) ((rd_cells (g := b143) (T := 42) (xs := [.int .i64 c.kind, .int .u64 c.n, .int .i64 c.many, .slice adb c.b.length cpb, str c.s]) (s := 5) (m := 1) rfl (by simp [Value.oneCell']) (by omega) 1).src (S.stab.at (by first | exact mm1 | exact mm2 | exact mm3 | exact mm4 | exact mm5 | exact mm6 | exact mm7 | exact mm8)) rfl) rfl rfl rfl rfl rfl rfl (by simp only [maxLen]; omega) (by omega) ?_); clear E S a; intro a w v144 C144 E S hB144
                      refine list_pure E rfl rfl (by decide) (rn_assign E rfl rfl) ?_; clear E a; intro a E
                      refine wpList_nil ?_
                      refine in_normal ?_
                      refine then_k hK ?_; clear hK; clear K
                      refine region_list ?_
                      refine list_pure E rfl rfl (by decide) (rn_move E rfl rfl) ?_; clear E a; intro a E
                      refine list_pure E rfl rfl (by decide) (rn_add E rfl rfl rfl (by first | exact wa_lit (y := 1) (by omega) | exact w_in (by omega) | exact w_inu (by omega) | exact rfl)) ?_; clear E a; intro a E
                      refine list_pure E rfl rfl (by decide) (rn_assign E rfl rfl) ?_; clear E a; intro a E
                      refine wpList_nil ?_
                      refine then_normal ?_
                      exact ⟨_, by omega, i + 1, kept ++ [c], c.next s, A1, C144, _, by omega, rfl, by rw [List.length_append]; simp only [List.length_singleton]; omega, hA1, he, hroom, next_len (by omega) (by omega) hmay, hch.snoc hmay, fun d hd => by rcases List.mem_append.1 hd with h | h; exact hgk d h; rw [List.mem_singleton.1 h]; exact hcok, (by rw [List.length_append, List.flatMap_append]; simpa [Cl.lay, hbv] using hB144), S.only (Bs := [A1, C144, O]) (sel_cons (by first | exact pk1 | exact pk2 | exact pk3 | exact pk4 | exact pk5 | exact pk6 | exact pk7 | exact pk8 | exact pk9) (sel_cons (by first | exact pk1 | exact pk2 | exact pk3 | exact pk4 | exact pk5 | exact pk6 | exact pk7 | exact pk8 | exact pk9) (sel_cons (by first | exact pk1 | exact pk2 | exact pk3 | exact pk4 | exact pk5 | exact pk6 | exact pk7 | exact pk8 | exact pk9) (sel_nil _)))), E.keep (keep_cons rfl (keep_cons rfl (keep_cons rfl (keep_cons rfl keep_nil))))⟩
    · first | replace hb := n1 hb | replace hb := n2 hb | replace hb := n3 hb | replace hb := n4 hb | replace hb := n5 hb | replace hb := n6 hb | skip
      refine wp_exit ?_
      refine then_exit ?_; clear hK; clear K
      refine then_exit ?_
      refine in_exit ?_
      refine joined_here ?_
      exact ⟨kept, s, A, C, _, by omega, hA, he, hroom, hbl, hch, hgk, hB, S, E.keep (keep_cons rfl (keep_cons rfl (keep_cons rfl keep_nil)))⟩
  · clear S E a; intro a w J; obtain ⟨kept, s, A, C, v, hkl, hA, he, hroom, hbl, hch, hgk, hB, S, E⟩ := J
    obtain ⟨adk, ck, rfl⟩ := hB.slice
    refine then_k hK ?_; clear hK; clear K
    refine wp_seq_k ?_; intro K hK
    refine region_list ?_
    refine list_pure E rfl rfl (by decide) (rn_move E rfl rfl) ?_; clear E a; intro a E
    refine list_call E rfl rfl (by decide) rfl Try.func12 rfl (by kernel_rfl) rfl (done_ok p s A _ hA (S.hp.sel (sel_cons (by first | exact pk1 | exact pk2 | exact pk3 | exact pk4 | exact pk5 | exact pk6 | exact pk7 | exact pk8 | exact pk9) (sel_nil _))) (by omega) he) ?_
    rintro v147 w ⟨g2, rfl, hT⟩; clear E a; intro a E
    have S := S.call2 (sel_cons (by first | exact pk1 | exact pk2 | exact pk3 | exact pk4 | exact pk5 | exact pk6 | exact pk7 | exact pk8 | exact pk9) (sel_nil _)) hT
    refine list_pure E rfl rfl (by decide) (rn_move E rfl rfl) ?_; clear E a; intro a E
    refine list_pure E rfl rfl (by decide) (rn_extract E rfl rfl rfl) ?_; clear E a; intro a E
    refine list_pure E rfl rfl (by decide) (rn_extract E rfl rfl rfl) ?_; clear E a; intro a E
    refine list_pure E rfl rfl (by decide) (rn_assign E rfl rfl) ?_; clear E a; intro a E
    refine list_pure E rfl rfl (by decide) (rn_assign E rfl rfl) ?_; clear E a; intro a E
    refine wpList_nil ?_
    refine then_k hK ?_; clear hK; clear K
    refine wp_seq_k ?_; intro K hK
    refine region_list ?_
    refine list_pure E rfl rfl (by decide) (rn_move E rfl rfl) ?_; clear E a; intro a E
    refine list_call E rfl rfl (by decide) rfl Try.func13 rfl (by kernel_rfl) rfl (reader_ret [(g2, _)] _ s.bs _ (rd_block rfl (by omega) _) (S.hp.sel (sel_cons (by first | exact pk1 | exact pk2 | exact pk3 | exact pk4 | exact pk5 | exact pk6 | exact pk7 | exact pk8 | exact pk9) (sel_nil _))) (by omega)) ?_
    rintro v151 w ⟨q, R, rfl, hR, hT⟩; clear E a; intro a E
    have S := S.call2 (sel_cons (by first | exact pk1 | exact pk2 | exact pk3 | exact pk4 | exact pk5 | exact pk6 | exact pk7 | exact pk8 | exact pk9) (sel_nil _)) hT
    refine list_pure E rfl rfl (by decide) (rn_assign E rfl rfl) ?_; clear E a; intro a E
    refine wpList_nil ?_
    refine then_k hK ?_; clear hK; clear K
    refine wp_seq_k ?_; intro K hK
    refine wp_seq_k ?_; intro K hK
    refine region_list ?_
    refine list_pure E rfl rfl (by decide) (rn_move E rfl rfl) ?_; clear E a; intro a E
    refine list_pure E rfl rfl (by decide) (by first | exact rn_eql E rfl rfl rfl | exact rn_eql_ptr_nil E rfl rfl rfl rfl | exact rn_eql_bool E rfl rfl rfl rfl | exact rn_eql_string E rfl rfl rfl) ?_; clear E a; intro a E
    refine list_pure E rfl rfl (by decide) (rn_move E rfl rfl) ?_; clear E a; intro a E
    refine guard_false E (t := 154) rfl (rfl) (fun hb154 => ?_)
    refine list_guard_yes E rfl rfl rfl rfl hb154 rfl (by decide) (rn_move E rfl rfl) ?_; clear E a; intro a E
    refine list_guard_yes E rfl rfl rfl rfl hb154 rfl (by decide) (by first | exact rn_neq E rfl rfl rfl | exact rn_neq_ptr_nil E rfl rfl rfl rfl | exact rn_neq_bool E rfl rfl rfl rfl | exact rn_neq_string E rfl rfl rfl) ?_; clear E a; intro a E
    refine list_pure E rfl rfl (by decide) (rn_pick_no' E rfl rfl hb154 rfl) ?_; clear E a; intro a E
    refine wpList_nil ?_
    refine then_k hK ?_; clear hK; clear K
    refine if_false' E rfl (rfl) ?_
    refine wp_skip ?_
    refine then_k hK ?_; clear hK; clear K
    refine wp_seq_k ?_; intro K hK
    refine wp_seq_k ?_; intro K hK
    refine region_list ?_
    refine list_pure E rfl rfl (by decide) (rn_assign E rfl rfl) ?_; clear E a; intro a E
    refine wpList_nil ?_
    refine then_k hK ?_; clear hK; clear K
    refine wp_block ?_
    refine wp_loop_ghost (fun (m : Nat) (a : Act) (w' : World) => ∃ (i : Nat) (s1 : Wr) (R : Chunk), i ≤ kept.length ∧ m = kept.length - i ∧ Chain s1 (kept.drop i) s ∧ RdC 64 q ⟨s.bs, s1.bs.length, 0⟩ R ∧ St w0 [O] w' [R, C, O] ∧ Fr a 210 [(5, .slice adk kept.length ck), (13, ptr q), (14, .int .i64 i)]) (kept.length - 0) ?_ ?_
    · exact ⟨0, ⟨1048576, [], 0⟩, R, by omega, rfl, hch, hR, S.only (Bs := [R, C, O]) (sel_cons (by first | exact pk1 | exact pk2 | exact pk3 | exact pk4 | exact pk5 | exact pk6 | exact pk7 | exact pk8 | exact pk9) (sel_cons (by first | exact pk1 | exact pk2 | exact pk3 | exact pk4 | exact pk5 | exact pk6 | exact pk7 | exact pk8 | exact pk9) (sel_cons (by first | exact pk1 | exact pk2 | exact pk3 | exact pk4 | exact pk5 | exact pk6 | exact pk7 | exact pk8 | exact pk9) (sel_nil _)))), E.keep (keep_cons rfl (keep_cons rfl (keep_cons rfl keep_nil)))⟩
    clear E; clear a; rintro m a w ⟨i, s1, R, hi, rfl, hch1, hR, S, E⟩
    refine wp_seq_k ?_; intro K hK
    refine wp_seq_k ?_; intro K hK
    refine region_list ?_
    refine list_pure E rfl rfl (by decide) (rn_move E rfl rfl) ?_; clear E a; intro a E
    refine list_pure E rfl rfl (by decide) (rn_move E rfl rfl) ?_; clear E a; intro a E
    refine list_pure E rfl rfl (by decide) (by first | exact rn_len E rfl rfl rfl | exact rn_len_str E rfl rfl rfl | exact rn_len_string E rfl rfl rfl) ?_; clear E a; intro a E
    refine list_pure E rfl rfl (by decide) (rn_lss E rfl rfl rfl) ?_; clear E a; intro a E
    refine wpList_nil ?_
    refine then_k hK ?_; clear hK; clear K
    refine if_bool E rfl (fun hb => ?_) (fun hb => ?_)
    · first | replace hb := n1 hb | replace hb := n2 hb | replace hb := n3 hb | replace hb := n4 hb | replace hb := n5 hb | replace hb := n6 hb | skip
      refine wp_skip ?_
      refine then_k hK ?_; clear hK; clear K
      refine wp_seq_k ?_; intro K hK
      refine wp_block ?_
      refine wp_seq_k ?_; intro K hK
      have hih : i < kept.length := by omega
      obtain ⟨b1, off1, rfl⟩ := hB.rd.addr (by omega)
      have hcell := hB.rd.elem (lay := Cl.lay) Cl.lay_len (S.stab.at (by first | exact mm1 | exact mm2 | exact mm3 | exact mm4 | exact mm5 | exact mm6 | exact mm7 | exact mm8)) (i := i) hih
      have hcok := hgk _ (List.getElem_mem hih)
      rw [List.drop_eq_getElem_cons hih] at hch1
      generalize kept[i] = c at hcell hcok hch1
      obtain ⟨adb, cpb, hbv⟩ := hcok.bv
      obtain ⟨hmay, hch2⟩ := hch1
      obtain ⟨t, ht⟩ := hch2.ext
      have ht : s.bs = s1.bs ++ c.piece s1 ++ t := ht
      refine region_list ?_
      refine list_pure E rfl rfl (by decide) (rn_move E rfl rfl) ?_; clear E a; intro a E
      refine list_pure E rfl rfl (by decide) (rn_move E rfl rfl) ?_; clear E a; intro a E
      refine list_pure E rfl rfl (by decide) (by first | exact rn_indexAddr1 E rfl rfl rfl rfl rfl rfl (by omega) | exact rn_indexAddr E rfl rfl rfl rfl rfl rfl (by omega) | exact rn_indexAddr_array E rfl rfl rfl rfl rfl rfl (by omega)) ?_; clear E a; intro a E
      refine list_pure E rfl rfl (by decide) (rn_load_aggc (vs := [_, _, _, _, _]) E rfl rfl rfl rfl (hcell)) ?_; clear E a; intro a E
      rw [hbv] at E
      refine list_wp rfl (wp_alloc E S rfl rfl (by decide) rfl rfl rfl ?_); clear E S a; intro a w b15 E S
      refine list_wp rfl (wp_storeN E S rfl rfl rfl rfl (by simp [Value.oneCell']) rfl (by first | exact pk1 | exact pk2 | exact pk3 | exact pk4 | exact pk5 | exact pk6 | exact pk7 | exact pk8 | exact pk9) (by simp) ?_); clear E S a; intro a w E S; simp only [List.take_succ_cons, List.take_zero, List.drop_succ_cons, List.drop_zero, List.cons_append, List.nil_append, List.append_nil, List.length_cons, List.length_nil, Nat.zero_add, Nat.add_zero] at S
      refine wpList_nil ?_
      refine then_k hK ?_; clear hK; clear K
      refine wp_seq_k ?_; intro K hK
      refine region_list ?_
      refine list_pure E rfl rfl (by decide) (by first | exact rn_fieldAddr0 (q := 0) E rfl rfl rfl | exact rn_fieldAddr (q := 0) E rfl rfl rfl) ?_; clear E a; intro a E
      refine list_pure E rfl rfl (by decide) (by first | exact rn_load E rfl rfl rfl (S.get (by first | exact pk1 | exact pk2 | exact pk3 | exact pk4 | exact pk5 | exact pk6 | exact pk7 | exact pk8 | exact pk9)) rfl | exact rn_loadc E rfl rfl rfl (by assumption)) ?_; clear E a; intro a E
      refine wpList_nil ?_
      refine then_k hK ?_; clear hK; clear K
      refine wp_block ?_
      refine wp_seq_k ?_; intro K hK
      refine region_list ?_
      refine list_pure E rfl rfl (by decide) (by first | exact rn_eql E rfl rfl rfl | exact rn_eql_ptr_nil E rfl rfl rfl rfl | exact rn_eql_bool E rfl rfl rfl rfl | exact rn_eql_string E rfl rfl rfl) ?_; clear E a; intro a E
      refine list_pure E rfl rfl (by decide) (rn_assign E rfl rfl) ?_; clear E a; intro a E
      refine wpList_nil ?_
      refine then_k hK ?_; clear hK; clear K
      refine if_bool E rfl (fun hb => ?_) (fun hb => ?_)
      · first | replace hb := n1 hb | replace hb := n2 hb | replace hb := n3 hb | replace hb := n4 hb | replace hb := n5 hb | replace hb := n6 hb | skip
        have hsm2 : c.small := by { rcases hmay with h | h | ⟨h, _⟩ | ⟨h, _⟩ <;> first | exact h | omega }
        refine wp_seq_k ?_; intro K hK
        refine region_mix S [(0, 0), (1, 0), (2, 0), (4, 0), (5, 0), (3, 1), (6, 0)] [[(b15, cel [.int .i64 c.kind, .int .u64 c.n, .int .i64 c.many, .slice adb c.b.length cpb, str c.s] 42)], O] (fun h => h.sub (by simp)) (by kernel_rfl) (by kernel_rfl) ?_
        clear S; intro w S
        refine mix_pure E rfl rfl rfl (by decide) (fun w h => rn_move E rfl rfl) ?_; clear E a; intro a E
        refine mix_pure E rfl rfl rfl (by decide) (fun w h => by first | exact rn_fieldAddr0 (q := 2) E rfl rfl rfl | exact rn_fieldAddr (q := 2) E rfl rfl rfl) ?_; clear E a; intro a E
        refine mix_pure E rfl rfl rfl (by decide) (fun w h => by first | exact rn_load E rfl rfl rfl (h.one (by first | exact mm1 | exact mm2 | exact mm3 | exact mm4 | exact mm5 | exact mm6 | exact mm7 | exact mm8)) rfl | exact rn_loadc E rfl rfl rfl (by assumption)) ?_; clear E a; intro a E
        refine mix_pure E rfl rfl rfl (by decide) (fun w h => by first | exact rn_fieldAddr0 (q := 1) E rfl rfl rfl | exact rn_fieldAddr (q := 1) E rfl rfl rfl) ?_; clear E a; intro a E
        refine mix_pure E rfl rfl rfl (by decide) (fun w h => by first | exact rn_load E rfl rfl rfl (h.one (by first | exact mm1 | exact mm2 | exact mm3 | exact mm4 | exact mm5 | exact mm6 | exact mm7 | exact mm8)) rfl | exact rn_loadc E rfl rfl rfl (by assumption)) ?_; clear E a; intro a E
        refine mix_call E rfl rfl rfl (by decide) rfl Try.func14 rfl (by kernel_rfl) rfl (rnum_ret q _ R _ hR (S.hp.sel (sel_cons (by first | exact pk1 | exact pk2 | exact pk3 | exact pk4 | exact pk5 | exact pk6 | exact pk7 | exact pk8 | exact pk9) (sel_nil _))) c.many) ?_
        rintro v179 w ⟨R1, rfl, hR1, hT⟩; clear E a; intro a E
        have S := S.call1 (sel_cons (by first | exact pk1 | exact pk2 | exact pk3 | exact pk4 | exact pk5 | exact pk6 | exact pk7 | exact pk8 | exact pk9) (sel_nil _)) hT
        rw [back_num hcok.n hsm2 ht] at hR1 E
        refine ⟨S.stab.sub (by simp), ?_⟩
        refine mix_pure E rfl rfl rfl (by decide) (fun w h => by first | exact rn_neq E rfl rfl rfl | exact rn_neq_ptr_nil E rfl rfl rfl rfl | exact rn_neq_bool E rfl rfl rfl rfl | exact rn_neq_string E rfl rfl rfl) ?_; clear E a; intro a E
        refine mix_nil ?_
        refine then_k hK ?_; clear hK; clear K
        refine if_false' E rfl ((by simp)) ?_
        refine wp_skip ?_
        refine in_normal ?_
        refine in_normal ?_
        refine then_k hK ?_; clear hK; clear K
        refine region_list ?_
        refine list_pure E rfl rfl (by decide) (rn_move E rfl rfl) ?_; clear E a; intro a E
        refine list_pure E rfl rfl (by decide) (rn_add E rfl rfl rfl (by first | exact wa_lit (y := 1) (by omega) | exact w_in (by omega) | exact w_inu (by omega) | exact rfl)) ?_; clear E a; intro a E
        refine list_pure E rfl rfl (by decide) (rn_assign E rfl rfl) ?_; clear E a; intro a E
        refine wpList_nil ?_
        refine then_normal ?_
        exact ⟨_, by omega, i + 1, c.next s1, R1, by omega, rfl, hch2, hR1, S.only (Bs := [R1, C, O]) (sel_cons (by first | exact pk1 | exact pk2 | exact pk3 | exact pk4 | exact pk5 | exact pk6 | exact pk7 | exact pk8 | exact pk9) (sel_cons (by first | exact pk1 | exact pk2 | exact pk3 | exact pk4 | exact pk5 | exact pk6 | exact pk7 | exact pk8 | exact pk9) (sel_cons (by first | exact pk1 | exact pk2 | exact pk3 | exact pk4 | exact pk5 | exact pk6 | exact pk7 | exact pk8 | exact pk9) (sel_nil _)))), E.keep (keep_cons rfl (keep_cons rfl (keep_cons rfl keep_nil)))⟩
      · first | replace hb := n1 hb | replace hb := n2 hb | replace hb := n3 hb | replace hb := n4 hb | replace hb := n5 hb | replace hb := n6 hb | skip
        refine wp_seq_k ?_; intro K hK
        refine region_list ?_
        refine list_pure E rfl rfl (by decide) (by first | exact rn_eql E rfl rfl rfl | exact rn_eql_ptr_nil E rfl rfl rfl rfl | exact rn_eql_bool E rfl rfl rfl rfl | exact rn_eql_string E rfl rfl rfl) ?_; clear E a; intro a E
        refine list_pure E rfl rfl (by decide) (rn_assign E rfl rfl) ?_; clear E a; intro a E
        refine wpList_nil ?_
        refine then_k hK ?_; clear hK; clear K
        refine if_bool E rfl (fun hb => ?_) (fun hb => ?_)
        · first | replace hb := n1 hb | replace hb := n2 hb | replace hb := n3 hb | replace hb := n4 hb | replace hb := n5 hb | replace hb := n6 hb | skip
          refine wp_seq_k ?_; intro K hK
          refine region_mix S [(0, 0), (1, 0), (2, 0), (3, 0), (6, 0), (7, 0), (8, 0), (4, 1), (5, 1), (9, 0)] [[(b15, cel [.int .i64 c.kind, .int .u64 c.n, .int .i64 c.many, .slice adb c.b.length cpb, str c.s] 42)], O] (fun h => h.sub (by simp)) (by kernel_rfl) (by kernel_rfl) ?_
          clear S; intro w S
          refine mix_pure E rfl rfl rfl (by decide) (fun w h => rn_move E rfl rfl) ?_; clear E a; intro a E
          refine mix_pure E rfl rfl rfl (by decide) (fun w h => by first | exact rn_fieldAddr0 (q := 3) E rfl rfl rfl | exact rn_fieldAddr (q := 3) E rfl rfl rfl) ?_; clear E a; intro a E
          refine mix_pure E rfl rfl rfl (by decide) (fun w h => by first | exact rn_load E rfl rfl rfl (h.one (by first | exact mm1 | exact mm2 | exact mm3 | exact mm4 | exact mm5 | exact mm6 | exact mm7 | exact mm8)) rfl | exact rn_loadc E rfl rfl rfl (by assumption)) ?_; clear E a; intro a E
          refine mix_pure E rfl rfl rfl (by decide) (fun w h => by first | exact rn_len E rfl rfl rfl | exact rn_len_str E rfl rfl rfl | exact rn_len_string E rfl rfl rfl) ?_; clear E a; intro a E
          refine mix_pure E rfl rfl rfl (by decide) (fun w h => by first | exact rn_fieldAddr0 (q := 3) E rfl rfl rfl | exact rn_fieldAddr (q := 3) E rfl rfl rfl) ?_; clear E a; intro a E
          refine mix_pure E rfl rfl rfl (by decide) (fun w h => by first | exact rn_load E rfl rfl rfl (h.one (by first | exact mm1 | exact mm2 | exact mm3 | exact mm4 | exact mm5 | exact mm6 | exact mm7 | exact mm8)) rfl | exact rn_loadc E rfl rfl rfl (by assumption)) ?_; clear E a; intro a E
          refine mix_pure E rfl rfl rfl (by decide) (fun w h => rn_string E rfl rfl rfl rfl rfl (hbv ▸ hcok.rd) (h.at (by first | exact mm1 | exact mm2 | exact mm3 | exact mm4 | exact mm5 | exact mm6 | exact mm7 | exact mm8))) ?_; clear E a; intro a E
          refine mix_call E rfl rfl rfl (by decide) rfl Try.func27 rfl (by kernel_rfl) rfl (rbytes_ret q _ R _ hR (S.hp.sel (sel_cons (by first | exact pk1 | exact pk2 | exact pk3 | exact pk4 | exact pk5 | exact pk6 | exact pk7 | exact pk8 | exact pk9) (sel_nil _))) c.b.length (by have := hcok.bl; omega)) ?_
          rintro v189 w ⟨R1, C1, hR1, hT, hB1⟩; clear E a; intro a E
          have S := S.call2 (sel_cons (by first | exact pk1 | exact pk2 | exact pk3 | exact pk4 | exact pk5 | exact pk6 | exact pk7 | exact pk8 | exact pk9) (sel_nil _)) hT
          rw [back_bytes hb ht] at hR1 hB1
          obtain ⟨ad1, c1, rfl⟩ := hB1.slice
          refine ⟨S.stab.sub (by simp), ?_⟩
          refine mix_act rfl rfl (wp_take E (rn_string E rfl rfl rfl rfl rfl hB1.rd (S.stab.at (by first | exact mm1 | exact mm2 | exact mm3 | exact mm4 | exact mm5 | exact mm6 | exact mm7 | exact mm8))) rfl (by decide) ?_); clear E a; intro a E; refine ⟨S.stab.sub (by simp), ?_⟩
          refine mix_pure E rfl rfl rfl (by decide) (fun w h => by first | exact rn_neq E rfl rfl rfl | exact rn_neq_ptr_nil E rfl rfl rfl rfl | exact rn_neq_bool E rfl rfl rfl rfl | exact rn_neq_string E rfl rfl rfl) ?_; clear E a; intro a E
          refine mix_nil ?_
          refine then_k hK ?_; clear hK; clear K
          refine if_false' E rfl ((by simp)) ?_
          refine wp_skip ?_
          refine in_normal ?_
          refine in_normal ?_
          refine then_k hK ?_; clear hK; clear K
          refine region_list ?_
          refine list_pure E rfl rfl (by decide) (rn_move E rfl rfl) ?_; clear E a; intro a E
          refine list_pure E rfl rfl (by decide) (rn_add E rfl rfl rfl (by first | exact wa_lit (y := 1) (by omega) | exact w_in (by omega) | exact w_inu (by omega) | exact rfl)) ?_; clear E a; intro a E
          refine list_pure E rfl rfl (by decide) (rn_assign E rfl rfl) ?_; clear E a; intro a E
          refine wpList_nil ?_
          refine then_normal ?_
          exact ⟨_, by omega, i + 1, c.next s1, R1, by omega, rfl, hch2, hR1, S.only (Bs := [R1, C, O]) (sel_cons (by first | exact pk1 | exact pk2 | exact pk3 | exact pk4 | exact pk5 | exact pk6 | exact pk7 | exact pk8 | exact pk9) (sel_cons (by first | exact pk1 | exact pk2 | exact pk3 | exact pk4 | exact pk5 | exact pk6 | exact pk7 | exact pk8 | exact pk9) (sel_cons (by first | exact pk1 | exact pk2 | exact pk3 | exact pk4 | exact pk5 | exact pk6 | exact pk7 | exact pk8 | exact pk9) (sel_nil _)))), E.keep (keep_cons rfl (keep_cons rfl (keep_cons rfl keep_nil)))⟩
        · first | replace hb := n1 hb | replace hb := n2 hb | replace hb := n3 hb | replace hb := n4 hb | replace hb := n5 hb | replace hb := n6 hb | skip
          refine wp_seq_k ?_; intro K hK
          refine region_list ?_
          refine list_pure E rfl rfl (by decide) (by first | exact rn_eql E rfl rfl rfl | exact rn_eql_ptr_nil E rfl rfl rfl rfl | exact rn_eql_bool E rfl rfl rfl rfl | exact rn_eql_string E rfl rfl rfl) ?_; clear E a; intro a E
          refine list_pure E rfl rfl (by decide) (rn_assign E rfl rfl) ?_; clear E a; intro a E
          refine wpList_nil ?_
          refine then_k hK ?_; clear hK; clear K
          refine if_bool E rfl (fun hb => ?_) (fun hb => ?_)
          · first | replace hb := n1 hb | replace hb := n2 hb | replace hb := n3 hb | replace hb := n4 hb | replace hb := n5 hb | replace hb := n6 hb | skip
            refine wp_seq_k ?_; intro K hK
            refine region_mix S [(0, 0), (2, 0), (3, 0), (1, 1), (4, 0)] [[(b15, cel [.int .i64 c.kind, .int .u64 c.n, .int .i64 c.many, .slice adb c.b.length cpb, str c.s] 42)], O] (fun h => h.sub (by simp)) (by kernel_rfl) (by kernel_rfl) ?_
            clear S; intro w S
            refine mix_pure E rfl rfl rfl (by decide) (fun w h => rn_move E rfl rfl) ?_; clear E a; intro a E
            refine mix_pure E rfl rfl rfl (by decide) (fun w h => by first | exact rn_fieldAddr0 (q := 4) E rfl rfl rfl | exact rn_fieldAddr (q := 4) E rfl rfl rfl) ?_; clear E a; intro a E
            refine mix_pure E rfl rfl rfl (by decide) (fun w h => by first | exact rn_load E rfl rfl rfl (h.one (by first | exact mm1 | exact mm2 | exact mm3 | exact mm4 | exact mm5 | exact mm6 | exact mm7 | exact mm8)) rfl | exact rn_loadc E rfl rfl rfl (by assumption)) ?_; clear E a; intro a E
            refine mix_call E rfl rfl rfl (by decide) rfl Try.func28 rfl (by kernel_rfl) rfl (rtext_ret q _ R _ hR (S.hp.sel (sel_cons (by first | exact pk1 | exact pk2 | exact pk3 | exact pk4 | exact pk5 | exact pk6 | exact pk7 | exact pk8 | exact pk9) (sel_nil _))) 65535) ?_
            rintro v198 w ⟨R1, rfl, hR1, hT⟩; clear E a; intro a E
            have S := S.call1 (sel_cons (by first | exact pk1 | exact pk2 | exact pk3 | exact pk4 | exact pk5 | exact pk6 | exact pk7 | exact pk8 | exact pk9) (sel_nil _)) hT
            rw [back_text hb (by rcases hmay with ⟨h, _⟩ | h | ⟨h, h2⟩ | ⟨h, _⟩ <;> first | exact h2 | (exfalso; omega)) ht] at hR1 E
            refine ⟨S.stab.sub (by simp), ?_⟩
            refine mix_pure E rfl rfl rfl (by decide) (fun w h => by first | exact rn_neq E rfl rfl rfl | exact rn_neq_ptr_nil E rfl rfl rfl rfl | exact rn_neq_bool E rfl rfl rfl rfl | exact rn_neq_string E rfl rfl rfl) ?_; clear E a; intro a E
            refine mix_nil ?_
            refine then_k hK ?_; clear hK; clear K
            refine if_false' E rfl ((by simp)) ?_
            refine wp_skip ?_
            refine in_normal ?_
            refine in_normal ?_
            refine then_k hK ?_; clear hK; clear K
            refine region_list ?_
            refine list_pure E rfl rfl (by decide) (rn_move E rfl rfl) ?_; clear E a; intro a E
            refine list_pure E rfl rfl (by decide) (rn_add E rfl rfl rfl (by first | exact wa_lit (y := 1) (by omega) | exact w_in (by omega) | exact w_inu (by omega) | exact rfl)) ?_; clear E a; intro a E
            refine list_pure E rfl rfl (by decide) (rn_assign E rfl rfl) ?_; clear E a; intro a E
            refine wpList_nil ?_
            refine then_normal ?_
            exact ⟨_, by omega, i + 1, c.next s1, R1, by omega, rfl, hch2, hR1, S.only (Bs := [R1, C, O]) (sel_cons (by first | exact pk1 | exact pk2 | exact pk3 | exact pk4 | exact pk5 | exact pk6 | exact pk7 | exact pk8 | exact pk9) (sel_cons (by first | exact pk1 | exact pk2 | exact pk3 | exact pk4 | exact pk5 | exact pk6 | exact pk7 | exact pk8 | exact pk9) (sel_cons (by first | exact pk1 | exact pk2 | exact pk3 | exact pk4 | exact pk5 | exact pk6 | exact pk7 | exact pk8 | exact pk9) (sel_nil _)))), E.keep (keep_cons rfl (keep_cons rfl (keep_cons rfl keep_nil)))⟩
          · first | replace hb := n1 hb | replace hb := n2 hb | replace hb := n3 hb | replace hb := n4 hb | replace hb := n5 hb | replace hb := n6 hb | skip
            obtain ⟨h3, h4, h5⟩ : c.kind = 3 ∧ (s1.bs.length : Int) ≤ c.many ∧ c.many ≤ 524288 := by rcases hmay with ⟨h, _⟩ | h | ⟨h, h2⟩ | h <;> first | exact h | (exfalso; omega)
            refine region_list ?_
            refine list_pure E rfl rfl (by decide) (rn_move E rfl rfl) ?_; clear E a; intro a E
            refine list_pure E rfl rfl (by decide) (by first | exact rn_fieldAddr0 (q := 2) E rfl rfl rfl | exact rn_fieldAddr (q := 2) E rfl rfl rfl) ?_; clear E a; intro a E
            refine list_pure E rfl rfl (by decide) (by first | exact rn_load E rfl rfl rfl (S.get (by first | exact pk1 | exact pk2 | exact pk3 | exact pk4 | exact pk5 | exact pk6 | exact pk7 | exact pk8 | exact pk9)) rfl | exact rn_loadc E rfl rfl rfl (by assumption)) ?_; clear E a; intro a E
            refine list_call E rfl rfl (by decide) rfl Try.func29 rfl (by kernel_rfl) rfl (rpad_ret q _ R _ hR (S.hp.sel (sel_cons (by first | exact pk1 | exact pk2 | exact pk3 | exact pk4 | exact pk5 | exact pk6 | exact pk7 | exact pk8 | exact pk9) (sel_nil _))) c.many (by omega)) ?_
            rintro v173 w ⟨R1, hR1, hT⟩; clear E a; intro a E
            have S := S.call1 (sel_cons (by first | exact pk1 | exact pk2 | exact pk3 | exact pk4 | exact pk5 | exact pk6 | exact pk7 | exact pk8 | exact pk9) (sel_nil _)) hT
            rw [back_pad h3 h4 ht] at hR1
            refine wpList_nil ?_
            refine in_normal ?_
            refine in_normal ?_
            refine then_k hK ?_; clear hK; clear K
            refine region_list ?_
            refine list_pure E rfl rfl (by decide) (rn_move E rfl rfl) ?_; clear E a; intro a E
            refine list_pure E rfl rfl (by decide) (rn_add E rfl rfl rfl (by first | exact wa_lit (y := 1) (by omega) | exact w_in (by omega) | exact w_inu (by omega) | exact rfl)) ?_; clear E a; intro a E
            refine list_pure E rfl rfl (by decide) (rn_assign E rfl rfl) ?_; clear E a; intro a E
            refine wpList_nil ?_
            refine then_normal ?_
            exact ⟨_, by omega, i + 1, c.next s1, R1, by omega, rfl, hch2, hR1, S.only (Bs := [R1, C, O]) (sel_cons (by first | exact pk1 | exact pk2 | exact pk3 | exact pk4 | exact pk5 | exact pk6 | exact pk7 | exact pk8 | exact pk9) (sel_cons (by first | exact pk1 | exact pk2 | exact pk3 | exact pk4 | exact pk5 | exact pk6 | exact pk7 | exact pk8 | exact pk9) (sel_cons (by first | exact pk1 | exact pk2 | exact pk3 | exact pk4 | exact pk5 | exact pk6 | exact pk7 | exact pk8 | exact pk9) (sel_nil _)))), E.keep (keep_cons rfl (keep_cons rfl (keep_cons rfl keep_nil)))⟩
    · first | replace hb := n1 hb | replace hb := n2 hb | replace hb := n3 hb | replace hb := n4 hb | replace hb := n5 hb | replace hb := n6 hb | skip
      have hik : i = kept.length := by omega
      refine wp_exit ?_
      refine then_exit ?_; clear hK; clear K
      refine then_exit ?_
      refine in_exit ?_
      refine then_k hK ?_; clear hK; clear K
      refine wp_seq_k ?_; intro K hK
      subst hik
      rw [List.drop_length] at hch1
      cases hch1
      refine region_list ?_
      refine list_pure E rfl rfl (by decide) (rn_move E rfl rfl) ?_; clear E a; intro a E
      refine list_call E rfl rfl (by decide) rfl Try.func15 rfl (by kernel_rfl) rfl (rdone_ret q _ R _ hR (S.hp.sel (sel_cons (by first | exact pk1 | exact pk2 | exact pk3 | exact pk4 | exact pk5 | exact pk6 | exact pk7 | exact pk8 | exact pk9) (sel_nil _)))) ?_
      rintro v203 w ⟨rfl, hT⟩; clear E a; intro a E
      have S := S.call1 (sel_cons (by first | exact pk1 | exact pk2 | exact pk3 | exact pk4 | exact pk5 | exact pk6 | exact pk7 | exact pk8 | exact pk9) (sel_nil _)) hT
      refine list_pure E rfl rfl (by decide) (by first | exact rn_eql E rfl rfl rfl | exact rn_eql_ptr_nil E rfl rfl rfl rfl | exact rn_eql_bool E rfl rfl rfl rfl | exact rn_eql_string E rfl rfl rfl) ?_; clear E a; intro a E
      refine list_pure E rfl rfl (by decide) (rn_move E rfl rfl) ?_; clear E a; intro a E
      refine guard_true E (t := 205) rfl ((by simp [Rdr.done])) (fun hb205 => ?_)
      refine list_guard_yes E rfl rfl rfl rfl hb205 rfl (by decide) (rn_move E rfl rfl) ?_; clear E a; intro a E
      refine list_guard_wp E rfl rfl rfl rfl hb205 ?_; refine wp_call' E rfl (by decide) rfl Try.func21 rfl (by kernel_rfl) rfl (left_ret q _ R _ hR (S.hp.sel (sel_cons (by first | exact pk1 | exact pk2 | exact pk3 | exact pk4 | exact pk5 | exact pk6 | exact pk7 | exact pk8 | exact pk9) (sel_nil _)))) ?_
      rintro v207 w ⟨rfl, hT⟩; clear E a; intro a E
      have S := S.call1 (sel_cons (by first | exact pk1 | exact pk2 | exact pk3 | exact pk4 | exact pk5 | exact pk6 | exact pk7 | exact pk8 | exact pk9) (sel_nil _)) hT
      refine list_guard_yes E rfl rfl rfl rfl hb205 rfl (by decide) (by first | exact rn_eql E rfl rfl rfl | exact rn_eql_ptr_nil E rfl rfl rfl rfl | exact rn_eql_bool E rfl rfl rfl rfl | exact rn_eql_string E rfl rfl rfl) ?_; clear E a; intro a E
      refine list_pure E rfl rfl (by decide) (rn_pick_yes' E rfl rfl hb205 rfl) ?_; clear E a; intro a E
      refine list_pure E rfl rfl (by decide) (rn_assign E rfl rfl) ?_; clear E a; intro a E
      refine wpList_nil ?_
      refine then_k hK ?_; clear hK; clear K
      refine wp_ret ?_
      refine ret1 E rfl rfl ?_
      exact ⟨_, rfl, by simp [Rdr.left], (S.only (Bs := [O]) (sel_cons (by first | exact pk1 | exact pk2 | exact pk3 | exact pk4 | exact pk5 | exact pk6 | exact pk7 | exact pk8 | exact pk9) (sel_nil _))).tr⟩
end Go.Proofs.Ytbnldjephphhhaa
