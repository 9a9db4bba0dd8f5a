/-
  Objects as blocks: four statements.
-/
import Derived.Test.YtkkibnnddllabaaTreeK
import Derived.Test.YtkkibnnddllabaaOld
namespace Go.Proofs.Ytkkibnnddllabaa
open Go.Sl
theorem splitL_length (b : List UInt8) : (splitL b).length ≤ b.length := by rw [splitL, List.length_map, chop_length]; exact nch_le (by omega)
theorem thinB_small {x : List UInt8} {k : Nat} (h : x.length ≤ k) : (thinB x).length ≤ k := by
  unfold thinB
  split
  · simp
  · exact h
theorem splitL_small (b : List UInt8) : ∀ x ∈ splitL b, x.length ≤ 1024 := fun x hx => by
  obtain ⟨y, hy, rfl⟩ := List.mem_map.1 hx
  exact thinB_small (chop_small y hy)
theorem packL_length (l : List Pt) : (packL l).length ≤ l.length := by
  unfold packL; split
  · rw [List.length_map, List.length_map, chop_length]; exact nch_le (by omega)
  · simp
theorem packL_small (l : List Pt) : ∀ x ∈ packL l, x.length ≤ 1024 := fun x hx => by
  unfold packL at hx; split at hx
  · obtain ⟨y, hy, rfl⟩ := List.mem_map.1 hx
    obtain ⟨z, hz, rfl⟩ := List.mem_map.1 hy
    exact thinB_small (by rw [encs_length]; have := chop_small z hz; omega)
  · cases hx
set_option maxRecDepth 10000

theorem dec_sum {H : Type} {enc : TypeId × Value → H} {w : World} : Dec enc Try.prog w 38 4 (fun s : Nat × Nat × Nat × Nat => [.int .u64 s.1, .int .u64 s.2.1, .int .u64 s.2.2.1, .int .u64 s.2.2.2]) (fun s => s.1 < 18446744073709551616 ∧ s.2.1 < 18446744073709551616 ∧ s.2.2.1 < 18446744073709551616 ∧ s.2.2.2 < 18446744073709551616) := fun n cs x h hlen hw => by
  match cs, hlen with
  | [c0, c1, c2, c3], _ =>
  have ki : Try.prog.cellsOf 36 = 1 := by kernel_rfl
  have ht := Try.underlying38
  obtain ⟨a0, e0, h0⟩ := dec_field 0 0 ht h hw rfl ki (dec_u64 (enc := enc) Try.underlying36) (by simp)
  obtain ⟨a1, e1, h1⟩ := dec_field 1 1 ht h hw rfl ki (dec_u64 (enc := enc) Try.underlying36) (by simp)
  obtain ⟨a2, e2, h2⟩ := dec_field 2 2 ht h hw rfl ki (dec_u64 (enc := enc) Try.underlying36) (by simp)
  obtain ⟨a3, e3, h3⟩ := dec_field 3 3 ht h hw rfl ki (dec_u64 (enc := enc) Try.underlying36) (by simp)
  simp only [List.drop_succ_cons, List.drop_zero, List.take_succ_cons, List.take_zero, List.cons.injEq, and_true] at e0 e1 e2 e3
  subst e0 e1 e2 e3
  exact ⟨(a0, a1, a2, a3), rfl, h0, h1, h2, h3⟩

theorem dec_pt {H : Type} {enc : TypeId × Value → H} {w : World} : Dec enc Try.prog w 40 9 Pt.lay Pt.Ok := fun n cs x h hlen hw => by
  match cs, hlen with
  | [c0, c1, c2, c3, c4, c5, c6, c7, c8], _ =>
  have ki : Try.prog.cellsOf 3 = 1 := by kernel_rfl
  have ku : Try.prog.cellsOf 36 = 1 := by kernel_rfl
  have ks : Try.prog.cellsOf 38 = 4 := by kernel_rfl
  have ht := Try.underlying40
  obtain ⟨a0, e0, h0⟩ := dec_field 0 0 ht h hw rfl ki (dec_i64 (enc := enc) Try.underlying3) (by simp)
  obtain ⟨a1, e1, h1⟩ := dec_field 1 1 ht h hw rfl ki (dec_i64 (enc := enc) Try.underlying3) (by simp)
  obtain ⟨a2, e2, h2⟩ := dec_field 2 2 ht h hw rfl ki (dec_i64 (enc := enc) Try.underlying3) (by simp)
  obtain ⟨a3, e3, h3⟩ := dec_field 3 3 ht h hw rfl ku (dec_u64 (enc := enc) Try.underlying36) (by simp)
  obtain ⟨a4, e4, h4⟩ := dec_field 4 4 ht h hw rfl ki (dec_i64 (enc := enc) Try.underlying3) (by simp)
  obtain ⟨⟨s0, s1, s2, s3⟩, e5, h5, h6, h7, h8⟩ := dec_field 5 5 ht h hw rfl ks (dec_sum (enc := enc)) (by simp)
  simp only [List.drop_succ_cons, List.drop_zero, List.take_succ_cons, List.take_zero, List.cons.injEq, and_true] at e0 e1 e2 e3 e4 e5
  obtain ⟨rfl, rfl, rfl, rfl⟩ := e5
  subst e0 e1 e2 e3 e4
  exact ⟨⟨a0, a1, a2, a3, a4, s0, s1, s2, s3⟩, rfl, ⟨h0, h1, h2, h3, h4, h5, h6, h7, h8⟩⟩

theorem dec_slt {H : Type} {enc : TypeId × Value → H} {w : World} : Dec enc Try.prog w 48 11 Slt.lay Slt.Ok := fun n cs x h hlen hw => by
  match cs, hlen with
  | [c0, c1, c2, c3, c4, c5, c6, c7, c8, c9, c10], _ =>
  have ki : Try.prog.cellsOf 3 = 1 := by kernel_rfl
  have kb : Try.prog.cellsOf 4 = 1 := by kernel_rfl
  have ks : Try.prog.cellsOf 40 = 9 := by kernel_rfl
  have ht := Try.underlying48
  obtain ⟨a0, e0, -⟩ := dec_field 0 0 ht h hw rfl kb (dec_bool (enc := enc) Try.underlying4) (by simp)
  obtain ⟨a1, e1, h1⟩ := dec_field 1 1 ht h hw rfl ki (dec_i64 (enc := enc) Try.underlying3) (by simp)
  obtain ⟨p, e2, h2⟩ := dec_field 2 2 ht h hw rfl ks (dec_pt (enc := enc)) (by simp)
  simp only [List.drop_succ_cons, List.drop_zero, List.take_succ_cons, List.take_zero, List.cons.injEq, and_true, Pt.lay] at e0 e1 e2
  obtain ⟨rfl, rfl, rfl, rfl, rfl, rfl, rfl, rfl, rfl⟩ := e2
  subst e0 e1
  exact ⟨⟨a0, a1, p⟩, rfl, ⟨h1, h2⟩⟩

theorem splits_walk (O : Chunk) (v : Value) (b : List UInt8) (hO : Rd O 1 v b.length (byt b)) (hbl : b.length ≤ 140737488351232) (hcap : ∃ ad c, v = .slice ad b.length c ∧ b.length ≤ c) (size : Int) (hs : -9223372036854775808 ≤ size ∧ size ≤ 9223372036854775807) (w0 : World) (H : Hp w0 [O]) :
    Ret Try.prog 3 #[v, .int .i64 size] w0 fun u w' => u = .bool true ∧ Trs w0 w' [O] [O] := by
  have S := (St.begin H).addNil
  refine enter2 41 Try.func3 rfl rfl (by decide) ?_; intro a E
  refine wp_seq_k ?_; intro K hK
  refine region_list ?_
  refine list_pure E rfl rfl (by decide) (rn_assign E rfl rfl) ?_; clear E a; intro a E
  refine wpList_nil ?_
  refine then_k hK ?_; clear hK; clear K
  refine wp_seq_k ?_; intro K hK
  refine region_list ?_
  refine list_call E rfl rfl (by decide) rfl Try.func9 rfl (by kernel_rfl) rfl (awake_ret _) ?_
  rintro v8 w ⟨rfl, hT⟩; clear E a; intro a E
  have S := S.quiet hT
  refine list_pure E rfl rfl (by decide) (rn_assign E rfl rfl) ?_; clear E a; intro a E
  refine wpList_nil ?_
  refine then_k hK ?_; clear hK; clear K
  refine wp_seq_k ?_; intro K hK
  refine region_list ?_
  refine list_pure E rfl rfl (by decide) (rn_move E rfl rfl) ?_; clear E a; intro a E
  refine list_wp rfl (wp_append (by' := 1) E S rfl rfl (by decide) rfl rfl (Buf.nil _ _) (by first | exact pk1 | exact pk2 | exact pk3 | exact pk4 | exact pk5 | exact pk6 | exact pk7 | exact pk8 | exact pk9) (hO.src (S.stab.at (by first | exact mm1 | exact mm2 | exact mm3 | exact mm4 | exact mm5 | exact mm6 | exact mm7 | exact mm8)) rfl) rfl rfl rfl rfl rfl rfl (by simp only [maxLen]; omega) (by omega) ?_); clear E S a; intro a w v10 C10 E S hB10
  simp only [Nat.zero_add, List.nil_append] at hB10
  refine list_pure E rfl rfl (by decide) (rn_assign E rfl rfl) ?_; clear E a; intro a E
  refine wpList_nil ?_
  refine then_k hK ?_; clear hK; clear K
  refine wp_seq_k ?_; intro K hK
  refine region_list ?_
  refine list_pure E rfl rfl (by decide) (rn_move E rfl rfl) ?_; clear E a; intro a E
  refine list_call E rfl rfl (by decide) rfl Try.func11 rfl (by kernel_rfl) rfl (split_ret C10 v10 b hB10.rd (by omega) hB10.hcap _ (S.hp.sel (sel_cons (by first | exact pk1 | exact pk2 | exact pk3 | exact pk4 | exact pk5 | exact pk6 | exact pk7 | exact pk8 | exact pk9) (sel_nil _)))) ?_
  rintro v12 w ⟨C, D, hB, hT⟩; clear E a; intro a E
  have S := S.call3 (sel_cons (by first | exact pk1 | exact pk2 | exact pk3 | exact pk4 | exact pk5 | exact pk6 | exact pk7 | exact pk8 | exact pk9) (sel_nil _)) hT
  refine list_pure E rfl rfl (by decide) (rn_move E rfl rfl) ?_; clear E a; intro a E
  refine list_call E rfl rfl (by decide) rfl Try.func12 rfl (by kernel_rfl) rfl (dsplit_ret O v b hO hbl hcap _ (S.hp.sel (sel_cons (by first | exact pk1 | exact pk2 | exact pk3 | exact pk4 | exact pk5 | exact pk6 | exact pk7 | exact pk8 | exact pk9) (sel_nil _)))) ?_
  rintro v14 w ⟨C2, D2, hB2, hT⟩; clear E a; intro a E
  have S := S.call3 (sel_cons (by first | exact pk1 | exact pk2 | exact pk3 | exact pk4 | exact pk5 | exact pk6 | exact pk7 | exact pk8 | exact pk9) (sel_nil _)) hT
  refine list_call E rfl rfl (by decide) rfl Try.func10 rfl (by kernel_rfl) rfl (bsame_ret C D C2 D2 _ _ (splitL b) hB hB2 (by have := splitL_length b; omega) (splitL_small b) _ (S.hp.sel (sel_cons (by first | exact pk1 | exact pk2 | exact pk3 | exact pk4 | exact pk5 | exact pk6 | exact pk7 | exact pk8 | exact pk9) (sel_cons (by first | exact pk1 | exact pk2 | exact pk3 | exact pk4 | exact pk5 | exact pk6 | exact pk7 | exact pk8 | exact pk9) (sel_cons (by first | exact pk1 | exact pk2 | exact pk3 | exact pk4 | exact pk5 | exact pk6 | exact pk7 | exact pk8 | exact pk9) (sel_cons (by first | exact pk1 | exact pk2 | exact pk3 | exact pk4 | exact pk5 | exact pk6 | exact pk7 | exact pk8 | exact pk9) (sel_nil _))))))) ?_
  rintro v15 w ⟨rfl, hT⟩; clear E a; intro a E
  have S := S.call0 (sel_cons (by first | exact pk1 | exact pk2 | exact pk3 | exact pk4 | exact pk5 | exact pk6 | exact pk7 | exact pk8 | exact pk9) (sel_cons (by first | exact pk1 | exact pk2 | exact pk3 | exact pk4 | exact pk5 | exact pk6 | exact pk7 | exact pk8 | exact pk9) (sel_cons (by first | exact pk1 | exact pk2 | exact pk3 | exact pk4 | exact pk5 | exact pk6 | exact pk7 | exact pk8 | exact pk9) (sel_cons (by first | exact pk1 | exact pk2 | exact pk3 | exact pk4 | exact pk5 | exact pk6 | exact pk7 | exact pk8 | exact pk9) (sel_nil _))))) hT
  refine list_pure E rfl rfl (by decide) (rn_assign E rfl rfl) ?_; clear E a; intro a E
  refine wpList_nil ?_
  refine then_k hK ?_; clear hK; clear K
  refine wp_seq_k ?_; intro K hK
  refine region_list ?_
  refine list_pure E rfl rfl (by decide) (rn_move E rfl rfl) ?_; clear E a; intro a E
  refine list_pure E rfl rfl (by decide) (rn_move E rfl rfl) ?_; clear E a; intro a E
  refine guard_true E (t := 17) rfl (rfl) (fun hb17 => ?_)
  refine list_guard_yes E rfl rfl rfl rfl hb17 rfl (by decide) (rn_move E rfl rfl) ?_; clear E a; intro a E
  refine list_pure E rfl rfl (by decide) (rn_pick_yes' E rfl rfl hb17 rfl) ?_; clear E a; intro a E
  refine list_pure E rfl rfl (by decide) (rn_move E rfl rfl) ?_; clear E a; intro a E
  refine guard_true E (t := 20) rfl (rfl) (fun hb20 => ?_)
  refine list_guard_yes E rfl rfl rfl rfl hb20 rfl (by decide) (rn_move E rfl rfl) ?_; clear E a; intro a E
  refine list_guard_yes E rfl rfl rfl rfl hb20 rfl (by decide) (rn_string E rfl rfl rfl rfl rfl hB10.rd (S.stab.at (by first | exact mm1 | exact mm2 | exact mm3 | exact mm4 | exact mm5 | exact mm6 | exact mm7 | exact mm8))) ?_; clear E a; intro a E
  refine list_guard_yes E rfl rfl rfl rfl hb20 rfl (by decide) (rn_move E rfl rfl) ?_; clear E a; intro a E
  refine list_guard_yes E rfl rfl rfl rfl hb20 rfl (by decide) (rn_string E rfl rfl rfl rfl rfl hO (S.stab.at (by first | exact mm1 | exact mm2 | exact mm3 | exact mm4 | exact mm5 | exact mm6 | exact mm7 | exact mm8))) ?_; clear E a; intro a E
  refine list_guard_yes E rfl rfl rfl rfl hb20 rfl (by decide) (by first | exact rn_eql E rfl rfl rfl | exact rn_eql_ptr_nil E rfl rfl rfl rfl | exact rn_eql_bool E rfl rfl rfl rfl | exact rn_eql_string E rfl rfl rfl) ?_; clear E a; intro a E
  refine list_pure E rfl rfl (by decide) (rn_pick_yes' E rfl rfl hb20 rfl) ?_; clear E a; intro a E
  refine list_pure E rfl rfl (by decide) (rn_move E rfl rfl) ?_; clear E a; intro a E
  refine guard_true E (t := 27) rfl ((by simp)) (fun hb27 => ?_)
  refine list_guard_yes E rfl rfl rfl rfl hb27 rfl (by decide) (rn_move E rfl rfl) ?_; clear E a; intro a E
  refine list_guard_wp E rfl rfl rfl rfl hb27 ?_; refine wp_call' E rfl (by decide) rfl Try.func13 rfl (by kernel_rfl) rfl (blank_ret O v b hO (by omega) _ (S.hp.sel (sel_cons (by first | exact pk1 | exact pk2 | exact pk3 | exact pk4 | exact pk5 | exact pk6 | exact pk7 | exact pk8 | exact pk9) (sel_nil _)))) ?_
  rintro v29 w ⟨rfl, hT⟩; clear E a; intro a E
  have S := S.call1 (sel_cons (by first | exact pk1 | exact pk2 | exact pk3 | exact pk4 | exact pk5 | exact pk6 | exact pk7 | exact pk8 | exact pk9) (sel_nil _)) hT
  refine list_guard_yes E rfl rfl rfl rfl hb27 rfl (by decide) (rn_move E rfl rfl) ?_; clear E a; intro a E
  refine list_guard_wp E rfl rfl rfl rfl hb27 ?_; refine wp_call' E rfl (by decide) rfl Try.func14 rfl (by kernel_rfl) rfl (dblank_ret O v b hO (by omega) _ (S.hp.sel (sel_cons (by first | exact pk1 | exact pk2 | exact pk3 | exact pk4 | exact pk5 | exact pk6 | exact pk7 | exact pk8 | exact pk9) (sel_nil _)))) ?_
  rintro v31 w ⟨rfl, hT⟩; clear E a; intro a E
  have S := S.call1 (sel_cons (by first | exact pk1 | exact pk2 | exact pk3 | exact pk4 | exact pk5 | exact pk6 | exact pk7 | exact pk8 | exact pk9) (sel_nil _)) hT
  refine list_guard_yes E rfl rfl rfl rfl hb27 rfl (by decide) (by first | exact rn_eql E rfl rfl rfl | exact rn_eql_ptr_nil E rfl rfl rfl rfl | exact rn_eql_bool E rfl rfl rfl rfl | exact rn_eql_string E rfl rfl rfl) ?_; clear E a; intro a E
  refine list_pure E rfl rfl (by decide) (rn_pick_yes' E rfl rfl hb27 rfl) ?_; clear E a; intro a E
  refine list_pure E rfl rfl (by decide) (rn_move E rfl rfl) ?_; clear E a; intro a E
  refine guard_true E (t := 34) rfl ((by simp)) (fun hb34 => ?_)
  refine list_guard_yes E rfl rfl rfl rfl hb34 rfl (by decide) (rn_move E rfl rfl) ?_; clear E a; intro a E
  refine list_guard_wp E rfl rfl rfl rfl hb34 ?_; refine wp_call' E rfl (by decide) rfl Try.func15 rfl (by kernel_rfl) rfl (cost_ret size hs _) ?_
  rintro v36 w ⟨rfl, hT⟩; clear E a; intro a E
  have S := S.quiet hT
  refine list_guard_yes E rfl rfl rfl rfl hb34 rfl (by decide) (rn_move E rfl rfl) ?_; clear E a; intro a E
  refine list_guard_wp E rfl rfl rfl rfl hb34 ?_; refine wp_call' E rfl (by decide) rfl Try.func16 rfl (by kernel_rfl) rfl (dcost_ret size hs _) ?_
  rintro v38 w ⟨rfl, hT⟩; clear E a; intro a E
  have S := S.quiet hT
  refine list_guard_yes E rfl rfl rfl rfl hb34 rfl (by decide) (by first | exact rn_eql E rfl rfl rfl | exact rn_eql_ptr_nil E rfl rfl rfl rfl | exact rn_eql_bool E rfl rfl rfl rfl | exact rn_eql_string E rfl rfl rfl) ?_; clear E a; intro a E
  refine list_pure E rfl rfl (by decide) (rn_pick_yes' E rfl rfl hb34 rfl) ?_; clear E a; intro a E
  refine list_pure E rfl rfl (by decide) (rn_assign E rfl rfl) ?_; clear E a; intro a E
  refine wpList_nil ?_
  refine then_k hK ?_; clear hK; clear K
  refine wp_ret ?_
  refine ret1 E rfl rfl ?_
  exact ⟨_, rfl, by simp, (S.only (Bs := [O]) (sel_cons (by first | exact pk1 | exact pk2 | exact pk3 | exact pk4 | exact pk5 | exact pk6 | exact pk7 | exact pk8 | exact pk9) (sel_nil _))).tr⟩

theorem packs_walk (O : Chunk) (v : Value) (l : List Pt) (hO : Rd O 9 v l.length (l.flatMap Pt.lay)) (hg : ∀ p ∈ l, p.Ok) (hl : l.length ≤ 140737488351232 / 72) (vb : Value) (b : List UInt8) (hb0 : Rd O 1 vb b.length (byt b)) (hbl : b.length ≤ 140737488351232) (hcapb : ∃ ad c, vb = .slice ad b.length c ∧ b.length ≤ c) (w0 : World) (H : Hp w0 [O]) :
    Ret Try.prog 4 #[v, vb] w0 fun u w' => u = .bool true ∧ Trs w0 w' [O] [O] := by
  have S := (St.begin H).addNil
  refine enter2 97 Try.func4 rfl rfl (by decide) ?_; intro a E
  refine wp_seq_k ?_; intro K hK
  refine region_list ?_
  refine list_pure E rfl rfl (by decide) (rn_assign E rfl rfl) ?_; clear E a; intro a E
  refine wpList_nil ?_
  refine then_k hK ?_; clear hK; clear K
  refine wp_seq_k ?_; intro K hK
  refine region_list ?_
  refine list_call E rfl rfl (by decide) rfl Try.func9 rfl (by kernel_rfl) rfl (awake_ret _) ?_
  rintro v18 w ⟨rfl, hT⟩; clear E a; intro a E
  have S := S.quiet hT
  refine list_pure E rfl rfl (by decide) (rn_assign E rfl rfl) ?_; clear E a; intro a E
  refine wpList_nil ?_
  refine then_k hK ?_; clear hK; clear K
  refine wp_seq_k ?_; intro K hK
  refine region_list ?_
  refine list_pure E rfl rfl (by decide) (rn_move E rfl rfl) ?_; clear E a; intro a E
  refine list_wp rfl (wp_append (by' := 72) E S rfl rfl (by decide) rfl rfl (Buf.nil _ _) (by first | exact pk1 | exact pk2 | exact pk3 | exact pk4 | exact pk5 | exact pk6 | exact pk7 | exact pk8 | exact pk9) (hO.src (S.stab.at (by first | exact mm1 | exact mm2 | exact mm3 | exact mm4 | exact mm5 | exact mm6 | exact mm7 | exact mm8)) rfl) rfl rfl rfl rfl rfl rfl (by simp only [maxLen]; omega) (by omega) ?_); clear E S a; intro a w v20 C20 E S hB20
  simp only [Nat.zero_add, List.nil_append] at hB20
  refine list_pure E rfl rfl (by decide) (rn_assign E rfl rfl) ?_; clear E a; intro a E
  refine wpList_nil ?_
  refine then_k hK ?_; clear hK; clear K
  refine wp_seq_k ?_; intro K hK
  refine region_list ?_
  refine list_pure E rfl rfl (by decide) (rn_move E rfl rfl) ?_; clear E a; intro a E
  refine list_call E rfl rfl (by decide) rfl Try.func17 rfl (by kernel_rfl) rfl (pack_ret C20 v20 l hB20.rd hg (by omega) hB20.hcap _ (S.hp.sel (sel_cons (by first | exact pk1 | exact pk2 | exact pk3 | exact pk4 | exact pk5 | exact pk6 | exact pk7 | exact pk8 | exact pk9) (sel_nil _)))) ?_
  rintro v23 w ⟨vx, C, D, rfl, hB, hT⟩; clear E a; intro a E
  have S := S.call3 (sel_cons (by first | exact pk1 | exact pk2 | exact pk3 | exact pk4 | exact pk5 | exact pk6 | exact pk7 | exact pk8 | exact pk9) (sel_nil _)) hT
  refine list_pure E rfl rfl (by decide) (rn_move E rfl rfl) ?_; clear E a; intro a E
  refine list_pure E rfl rfl (by decide) (rn_extract E rfl rfl rfl) ?_; clear E a; intro a E
  refine list_pure E rfl rfl (by decide) (rn_extract E rfl rfl rfl) ?_; clear E a; intro a E
  refine list_pure E rfl rfl (by decide) (rn_assign E rfl rfl) ?_; clear E a; intro a E
  refine list_pure E rfl rfl (by decide) (rn_assign E rfl rfl) ?_; clear E a; intro a E
  refine wpList_nil ?_
  refine then_k hK ?_; clear hK; clear K
  refine wp_seq_k ?_; intro K hK
  refine region_list ?_
  refine list_pure E rfl rfl (by decide) (rn_move E rfl rfl) ?_; clear E a; intro a E
  refine list_call E rfl rfl (by decide) rfl Try.func18 rfl (by kernel_rfl) rfl (dpack_ret O v l hO hg (by omega) _ (S.hp.sel (sel_cons (by first | exact pk1 | exact pk2 | exact pk3 | exact pk4 | exact pk5 | exact pk6 | exact pk7 | exact pk8 | exact pk9) (sel_nil _)))) ?_
  rintro v28 w ⟨vy, C2, D2, rfl, hB2, hT⟩; clear E a; intro a E
  have S := S.call3 (sel_cons (by first | exact pk1 | exact pk2 | exact pk3 | exact pk4 | exact pk5 | exact pk6 | exact pk7 | exact pk8 | exact pk9) (sel_nil _)) hT
  refine list_pure E rfl rfl (by decide) (rn_move E rfl rfl) ?_; clear E a; intro a E
  refine list_pure E rfl rfl (by decide) (rn_extract E rfl rfl rfl) ?_; clear E a; intro a E
  refine list_pure E rfl rfl (by decide) (rn_extract E rfl rfl rfl) ?_; clear E a; intro a E
  refine list_pure E rfl rfl (by decide) (rn_assign E rfl rfl) ?_; clear E a; intro a E
  refine list_pure E rfl rfl (by decide) (rn_assign E rfl rfl) ?_; clear E a; intro a E
  refine wpList_nil ?_
  refine then_k hK ?_; clear hK; clear K
  refine wp_seq_k ?_; intro K hK
  refine region_list ?_
  refine list_pure E rfl rfl (by decide) (rn_move E rfl rfl) ?_; clear E a; intro a E
  refine list_pure E rfl rfl (by decide) (rn_move E rfl rfl) ?_; clear E a; intro a E
  refine list_call E rfl rfl (by decide) rfl Try.func10 rfl (by kernel_rfl) rfl (bsame_ret C D C2 D2 _ _ (packL l) hB hB2 (by have := packL_length l; omega) (packL_small l) _ (S.hp.sel (sel_cons (by first | exact pk1 | exact pk2 | exact pk3 | exact pk4 | exact pk5 | exact pk6 | exact pk7 | exact pk8 | exact pk9) (sel_cons (by first | exact pk1 | exact pk2 | exact pk3 | exact pk4 | exact pk5 | exact pk6 | exact pk7 | exact pk8 | exact pk9) (sel_cons (by first | exact pk1 | exact pk2 | exact pk3 | exact pk4 | exact pk5 | exact pk6 | exact pk7 | exact pk8 | exact pk9) (sel_cons (by first | exact pk1 | exact pk2 | exact pk3 | exact pk4 | exact pk5 | exact pk6 | exact pk7 | exact pk8 | exact pk9) (sel_nil _))))))) ?_
  rintro v33 w ⟨rfl, hT⟩; clear E a; intro a E
  have S := S.call0 (sel_cons (by first | exact pk1 | exact pk2 | exact pk3 | exact pk4 | exact pk5 | exact pk6 | exact pk7 | exact pk8 | exact pk9) (sel_cons (by first | exact pk1 | exact pk2 | exact pk3 | exact pk4 | exact pk5 | exact pk6 | exact pk7 | exact pk8 | exact pk9) (sel_cons (by first | exact pk1 | exact pk2 | exact pk3 | exact pk4 | exact pk5 | exact pk6 | exact pk7 | exact pk8 | exact pk9) (sel_cons (by first | exact pk1 | exact pk2 | exact pk3 | exact pk4 | exact pk5 | exact pk6 | exact pk7 | exact pk8 | exact pk9) (sel_nil _))))) hT
  refine list_pure E rfl rfl (by decide) (rn_assign E rfl rfl) ?_; clear E a; intro a E
  refine wpList_nil ?_
  refine then_k hK ?_; clear hK; clear K
  refine wp_seq_k ?_; intro K hK
  replace E := E.keep (e' := [(0, _), (1, _), (4, _), (5, _), (6, _), (8, _), (10, _), (11, _)]) (keep_cons rfl (keep_cons rfl (keep_cons rfl (keep_cons rfl (keep_cons rfl (keep_cons rfl (keep_cons rfl (keep_cons rfl (keep_nil)))))))))
  refine region_list ?_
  refine list_pure E rfl rfl (by decide) (rn_move E rfl rfl) ?_; clear E a; intro a E
  refine list_call E rfl rfl (by decide) rfl Try.func19 rfl (by kernel_rfl) rfl (unpack_ret O vb b hb0 (by omega) hcapb _ (S.hp.sel (sel_cons (by first | exact pk1 | exact pk2 | exact pk3 | exact pk4 | exact pk5 | exact pk6 | exact pk7 | exact pk8 | exact pk9) (sel_nil _)))) ?_
  rintro v36 w ⟨vm, M, rfl, hM, hT⟩; clear E a; intro a E
  have S := S.call2 (sel_cons (by first | exact pk1 | exact pk2 | exact pk3 | exact pk4 | exact pk5 | exact pk6 | exact pk7 | exact pk8 | exact pk9) (sel_nil _)) hT
  refine list_pure E rfl rfl (by decide) (rn_move E rfl rfl) ?_; clear E a; intro a E
  refine list_pure E rfl rfl (by decide) (rn_extract E rfl rfl rfl) ?_; clear E a; intro a E
  refine list_pure E rfl rfl (by decide) (rn_extract E rfl rfl rfl) ?_; clear E a; intro a E
  refine list_pure E rfl rfl (by decide) (rn_assign E rfl rfl) ?_; clear E a; intro a E
  refine list_pure E rfl rfl (by decide) (rn_assign E rfl rfl) ?_; clear E a; intro a E
  refine wpList_nil ?_
  refine then_k hK ?_; clear hK; clear K
  refine wp_seq_k ?_; intro K hK
  refine region_list ?_
  refine list_pure E rfl rfl (by decide) (rn_move E rfl rfl) ?_; clear E a; intro a E
  refine list_call E rfl rfl (by decide) rfl Try.func20 rfl (by kernel_rfl) rfl (dunpack_ret O vb b hb0 (by omega) hcapb _ (S.hp.sel (sel_cons (by first | exact pk1 | exact pk2 | exact pk3 | exact pk4 | exact pk5 | exact pk6 | exact pk7 | exact pk8 | exact pk9) (sel_nil _)))) ?_
  rintro v41 w ⟨vn, N, rfl, hN, hT⟩; clear E a; intro a E
  have S := S.call2 (sel_cons (by first | exact pk1 | exact pk2 | exact pk3 | exact pk4 | exact pk5 | exact pk6 | exact pk7 | exact pk8 | exact pk9) (sel_nil _)) hT
  refine list_pure E rfl rfl (by decide) (rn_move E rfl rfl) ?_; clear E a; intro a E
  refine list_pure E rfl rfl (by decide) (rn_extract E rfl rfl rfl) ?_; clear E a; intro a E
  refine list_pure E rfl rfl (by decide) (rn_extract E rfl rfl rfl) ?_; clear E a; intro a E
  refine list_pure E rfl rfl (by decide) (rn_assign E rfl rfl) ?_; clear E a; intro a E
  refine list_pure E rfl rfl (by decide) (rn_assign E rfl rfl) ?_; clear E a; intro a E
  refine wpList_nil ?_
  refine then_k hK ?_; clear hK; clear K
  refine wp_seq_k ?_; intro K hK
  refine wp_seq_k ?_; intro K hK
  obtain ⟨adm, cm, rfl⟩ := hM.slice
  obtain ⟨adn, cn, rfl⟩ := hN.slice
  obtain ⟨ad, c, rfl⟩ := hO.slice
  obtain ⟨ad6, c6, rfl⟩ := hB20.slice
  have S := S.only (Bs := [M, N, C20, O]) (sel_cons (by first | exact pk1 | exact pk2 | exact pk3 | exact pk4 | exact pk5 | exact pk6 | exact pk7 | exact pk8 | exact pk9) (sel_cons (by first | exact pk1 | exact pk2 | exact pk3 | exact pk4 | exact pk5 | exact pk6 | exact pk7 | exact pk8 | exact pk9) (sel_cons (by first | exact pk1 | exact pk2 | exact pk3 | exact pk4 | exact pk5 | exact pk6 | exact pk7 | exact pk8 | exact pk9) (sel_cons (by first | exact pk1 | exact pk2 | exact pk3 | exact pk4 | exact pk5 | exact pk6 | exact pk7 | exact pk8 | exact pk9) (sel_nil _)))))
  refine region_list ?_
  refine list_pure E rfl rfl (by decide) (rn_move E rfl rfl) ?_; clear E a; intro a E
  refine list_pure E rfl rfl (by decide) (rn_not E rfl rfl) ?_; clear E a; intro a E
  refine list_pure E rfl rfl (by decide) (rn_move E rfl rfl) ?_; clear E a; intro a E
  refine guard_false E (t := 46) rfl (rfl) (fun hb46 => ?_)
  refine list_guard_yes E rfl rfl rfl rfl hb46 rfl (by decide) (rn_move E rfl rfl) ?_; clear E a; intro a E
  refine list_guard_yes E rfl rfl rfl rfl hb46 rfl (by decide) (rn_not E rfl rfl) ?_; clear E a; intro a E
  refine list_pure E rfl rfl (by decide) (rn_pick_no' E rfl rfl hb46 rfl) ?_; clear E a; intro a E
  refine list_pure E rfl rfl (by decide) (rn_move E rfl rfl) ?_; clear E a; intro a E
  refine guard_false E (t := 50) rfl (rfl) (fun hb50 => ?_)
  refine list_guard_yes E rfl rfl rfl rfl hb50 rfl (by decide) (rn_move E rfl rfl) ?_; clear E a; intro a E
  refine list_guard_yes E rfl rfl rfl rfl hb50 rfl (by decide) (rn_move E rfl rfl) ?_; clear E a; intro a E
  refine list_guard_yes E rfl rfl rfl rfl hb50 rfl (by decide) (by first | exact rn_neq E rfl rfl rfl | exact rn_neq_ptr_nil E rfl rfl rfl rfl | exact rn_neq_bool E rfl rfl rfl rfl | exact rn_neq_string E rfl rfl rfl) ?_; clear E a; intro a E
  refine list_pure E rfl rfl (by decide) (rn_pick_no' E rfl rfl hb50 rfl) ?_; clear E a; intro a E
  refine list_pure E rfl rfl (by decide) (rn_move E rfl rfl) ?_; clear E a; intro a E
  refine guard_false E (t := 55) rfl ((by simp)) (fun hb55 => ?_)
  refine list_guard_yes E rfl rfl rfl rfl hb55 rfl (by decide) (rn_move E rfl rfl) ?_; clear E a; intro a E
  refine list_guard_yes E rfl rfl rfl rfl hb55 rfl (by decide) (rn_move E rfl rfl) ?_; clear E a; intro a E
  refine list_guard_yes E rfl rfl rfl rfl hb55 rfl (by decide) (by first | exact rn_neq E rfl rfl rfl | exact rn_neq_ptr_nil E rfl rfl rfl rfl | exact rn_neq_bool E rfl rfl rfl rfl | exact rn_neq_string E rfl rfl rfl) ?_; clear E a; intro a E
  refine list_pure E rfl rfl (by decide) (rn_pick_no' E rfl rfl hb55 rfl) ?_; clear E a; intro a E
  refine list_pure E rfl rfl (by decide) (rn_move E rfl rfl) ?_; clear E a; intro a E
  refine guard_false E (t := 60) rfl ((by simp)) (fun hb60 => ?_)
  refine list_guard_yes E rfl rfl rfl rfl hb60 rfl (by decide) (rn_move E rfl rfl) ?_; clear E a; intro a E
  refine list_guard_yes E rfl rfl rfl rfl hb60 rfl (by decide) (by first | exact rn_len E rfl rfl rfl | exact rn_len_str E rfl rfl rfl | exact rn_len_string E rfl rfl rfl) ?_; clear E a; intro a E
  refine list_guard_yes E rfl rfl rfl rfl hb60 rfl (by decide) (rn_move E rfl rfl) ?_; clear E a; intro a E
  refine list_guard_yes E rfl rfl rfl rfl hb60 rfl (by decide) (by first | exact rn_len E rfl rfl rfl | exact rn_len_str E rfl rfl rfl | exact rn_len_string E rfl rfl rfl) ?_; clear E a; intro a E
  refine list_guard_yes E rfl rfl rfl rfl hb60 rfl (by decide) (by first | exact rn_neq E rfl rfl rfl | exact rn_neq_ptr_nil E rfl rfl rfl rfl | exact rn_neq_bool E rfl rfl rfl rfl | exact rn_neq_string E rfl rfl rfl) ?_; clear E a; intro a E
  refine list_pure E rfl rfl (by decide) (rn_pick_no' E rfl rfl hb60 rfl) ?_; clear E a; intro a E
  refine wpList_nil ?_
  refine then_k hK ?_; clear hK; clear K
  refine if_false' E rfl ((by simp)) ?_
  refine wp_skip ?_
  refine then_k hK ?_; clear hK; clear K
  refine wp_seq_k ?_; intro K hK
  refine wp_seq_k ?_; intro K hK
  replace E := E.keep (e' := [(0, _), (4, _), (6, _), (12, _), (14, _)]) (keep_cons rfl (keep_cons rfl (keep_cons rfl (keep_cons rfl (keep_cons rfl (keep_nil))))))
  refine region_list ?_
  refine list_pure E rfl rfl (by decide) (rn_assign E rfl rfl) ?_; clear E a; intro a E
  refine wpList_nil ?_
  refine then_k hK ?_; clear hK; clear K
  refine wp_block ?_
  refine wp_loop_ghost (fun (m : Nat) (a : Act) (w' : World) => ∃ (i : Nat), m = l.length - i ∧ i ≤ l.length ∧ St w0 [O] w' [M, N, C20, O] ∧ Fr a 97 [(0, .slice ad l.length c), (6, .slice ad6 l.length c6), (12, .slice adm (unpL b).length cm), (14, .slice adn (unpL b).length cn), (16, .int .i64 i)]) (l.length - 0) ?_ ?_
  · exact ⟨0, rfl, by omega, S, E.keep (keep_cons rfl (keep_cons rfl (keep_cons rfl (keep_cons rfl (keep_cons rfl keep_nil)))))⟩
  clear E; clear a; rintro m a w ⟨i, rfl, hi, S, E⟩
  refine wp_seq_k ?_; intro K hK
  refine wp_seq_k ?_; intro K hK
  refine region_list ?_
  refine list_pure E rfl rfl (by decide) (rn_move E rfl rfl) ?_; clear E a; intro a E
  refine list_pure E rfl rfl (by decide) (rn_move E rfl rfl) ?_; clear E a; intro a E
  refine list_pure E rfl rfl (by decide) (by first | exact rn_len E rfl rfl rfl | exact rn_len_str E rfl rfl rfl | exact rn_len_string E rfl rfl rfl) ?_; clear E a; intro a E
  refine list_pure E rfl rfl (by decide) (rn_lss E rfl rfl rfl) ?_; clear E a; intro a E
  refine wpList_nil ?_
  refine then_k hK ?_; clear hK; clear K
  refine if_bool E rfl (fun hb => ?_) (fun hb => ?_)
  · first | with_reducible replace hb := n1 hb | with_reducible replace hb := n2 hb | with_reducible replace hb := n3 hb | with_reducible replace hb := n4 hb | with_reducible replace hb := n5 hb | with_reducible replace hb := n6 hb | replace hb := n1 hb | replace hb := n2 hb | replace hb := n3 hb | replace hb := n4 hb | replace hb := n5 hb | replace hb := n6 hb | skip
    refine wp_skip ?_
    refine then_k hK ?_; clear hK; clear K
    refine wp_seq_k ?_; intro K hK
    refine wp_block ?_
    refine wp_seq_k ?_; intro K hK
    have hib : i < l.length := by omega
    obtain ⟨g, off, rfl⟩ := hO.addr (by omega)
    obtain ⟨g6, rfl⟩ := hB20.addr (by omega)
    refine region_mix0 S (.ofL [(0, 0), (1, 0), (2, 0), (3, 0), (4, 0), (5, 0), (6, 0), (7, 0), (8, 0)]) (by kernel_rfl) (by kernel_rfl) ?_
    clear S; intro w S
    refine mix_pure E rfl rfl rfl (by decide) (fun w h => rn_move E rfl rfl) ?_; clear E a; intro a E
    refine mix_pure E rfl rfl rfl (by decide) (fun w h => rn_move E rfl rfl) ?_; clear E a; intro a E
    refine mix_pure E rfl rfl rfl (by decide) (fun w h => by first | exact rn_indexAddr1 E rfl rfl rfl rfl rfl rfl (by omega) | exact rn_indexAddr E rfl rfl rfl rfl rfl rfl (by omega) | exact rn_indexAddr_array E rfl rfl rfl rfl rfl rfl (by omega)) ?_; clear E a; intro a E
    refine mix_pure E rfl rfl rfl (by decide) (fun w h => rn_load_aggc (vs := [_, _, _, _, _, _, _, _, _]) E rfl rfl rfl rfl (hB20.rd.elem (lay := Pt.lay) Pt.lay_len (h.at (by first | exact mm1 | exact mm2 | exact mm3 | exact mm4 | exact mm5 | exact mm6 | exact mm7 | exact mm8)) (i := i) hib)) ?_; clear E a; intro a E
    refine mix_pure E rfl rfl rfl (by decide) (fun w h => rn_move E rfl rfl) ?_; clear E a; intro a E
    refine mix_pure E rfl rfl rfl (by decide) (fun w h => rn_move E rfl rfl) ?_; clear E a; intro a E
    refine mix_pure E rfl rfl rfl (by decide) (fun w h => by first | exact rn_indexAddr1 E rfl rfl rfl rfl rfl rfl (by omega) | exact rn_indexAddr E rfl rfl rfl rfl rfl rfl (by omega) | exact rn_indexAddr_array E rfl rfl rfl rfl rfl rfl (by omega)) ?_; clear E a; intro a E
    refine mix_pure E rfl rfl rfl (by decide) (fun w h => rn_load_aggc (vs := [_, _, _, _, _, _, _, _, _]) E rfl rfl rfl rfl (hO.elem (lay := Pt.lay) Pt.lay_len (h.at (by first | exact mm1 | exact mm2 | exact mm3 | exact mm4 | exact mm5 | exact mm6 | exact mm7 | exact mm8)) (i := i) hib)) ?_; clear E a; intro a E
    refine mix_pure E rfl rfl rfl (by decide) (fun w h => by first | exact rn_neq_pair E rfl rfl rfl rfl (by kernel_rfl) (by kernel_rfl) rfl rfl rfl | exact rn_neq_cells E rfl rfl rfl rfl (by kernel_rfl) (by kernel_rfl) rfl) ?_; clear E a; intro a E
    refine mix_nil ?_
    refine then_k hK ?_; clear hK; clear K
    refine if_bool E rfl (fun hb => ?_) (fun hb => ?_)
    · first | with_reducible replace hb := n1 hb | with_reducible replace hb := n2 hb | with_reducible replace hb := n3 hb | with_reducible replace hb := n4 hb | with_reducible replace hb := n5 hb | with_reducible replace hb := n6 hb | replace hb := n1 hb | replace hb := n2 hb | replace hb := n3 hb | replace hb := n4 hb | replace hb := n5 hb | replace hb := n6 hb | skip
      exfalso; simp at hb
    · first | with_reducible replace hb := n1 hb | with_reducible replace hb := n2 hb | with_reducible replace hb := n3 hb | with_reducible replace hb := n4 hb | with_reducible replace hb := n5 hb | with_reducible replace hb := n6 hb | replace hb := n1 hb | replace hb := n2 hb | replace hb := n3 hb | replace hb := n4 hb | replace hb := n5 hb | replace hb := n6 hb | skip
      refine wp_skip ?_
      refine in_normal ?_
      refine then_k hK ?_; clear hK; clear K
      refine region_list ?_
      refine list_pure E rfl rfl (by decide) (rn_move E rfl rfl) ?_; clear E a; intro a E
      refine list_pure E rfl rfl (by decide) (rn_add E rfl rfl rfl (by first | exact wa_lit (y := 1) (by omega) | exact w_in (by omega) | exact w_inu (by omega) | exact rfl)) ?_; clear E a; intro a E
      refine list_pure E rfl rfl (by decide) (rn_assign E rfl rfl) ?_; clear E a; intro a E
      refine wpList_nil ?_
      refine then_normal ?_
      exact ⟨_, by omega, i + 1, rfl, by omega, S, E.keep (keep_cons rfl (keep_cons rfl (keep_cons rfl (keep_cons rfl (keep_cons rfl keep_nil)))))⟩
  · first | with_reducible replace hb := n1 hb | with_reducible replace hb := n2 hb | with_reducible replace hb := n3 hb | with_reducible replace hb := n4 hb | with_reducible replace hb := n5 hb | with_reducible replace hb := n6 hb | replace hb := n1 hb | replace hb := n2 hb | replace hb := n3 hb | replace hb := n4 hb | replace hb := n5 hb | replace hb := n6 hb | skip
    refine wp_exit ?_
    refine then_exit ?_; clear hK; clear K
    refine then_exit ?_
    refine in_exit ?_
    refine then_k hK ?_; clear hK; clear K
    refine wp_seq_k ?_; intro K hK
    refine wp_seq_k ?_; intro K hK
    refine region_list ?_
    refine list_pure E rfl rfl (by decide) (rn_assign E rfl rfl) ?_; clear E a; intro a E
    refine wpList_nil ?_
    refine then_k hK ?_; clear hK; clear K
    refine wp_block ?_
    refine wp_loop_ghost (fun (m : Nat) (a : Act) (w' : World) => ∃ (i : Nat), m = (unpL b).length - i ∧ i ≤ (unpL b).length ∧ St w0 [O] w' [M, N, C20, O] ∧ Fr a 97 [(12, .slice adm (unpL b).length cm), (14, .slice adn (unpL b).length cn), (17, .int .i64 i)]) ((unpL b).length - 0) ?_ ?_
    · exact ⟨0, rfl, by omega, S, E.keep (keep_cons rfl (keep_cons rfl (keep_cons rfl keep_nil)))⟩
    clear E; clear a; rintro m a w ⟨i, rfl, hi, S, E⟩
    refine wp_seq_k ?_; intro K hK
    refine wp_seq_k ?_; intro K hK
    refine region_list ?_
    refine list_pure E rfl rfl (by decide) (rn_move E rfl rfl) ?_; clear E a; intro a E
    refine list_pure E rfl rfl (by decide) (rn_move E rfl rfl) ?_; clear E a; intro a E
    refine list_pure E rfl rfl (by decide) (by first | exact rn_len E rfl rfl rfl | exact rn_len_str E rfl rfl rfl | exact rn_len_string E rfl rfl rfl) ?_; clear E a; intro a E
    refine list_pure E rfl rfl (by decide) (rn_lss E rfl rfl rfl) ?_; clear E a; intro a E
    refine wpList_nil ?_
    refine then_k hK ?_; clear hK; clear K
    refine if_bool E rfl (fun hb => ?_) (fun hb => ?_)
    · first | with_reducible replace hb := n1 hb | with_reducible replace hb := n2 hb | with_reducible replace hb := n3 hb | with_reducible replace hb := n4 hb | with_reducible replace hb := n5 hb | with_reducible replace hb := n6 hb | replace hb := n1 hb | replace hb := n2 hb | replace hb := n3 hb | replace hb := n4 hb | replace hb := n5 hb | replace hb := n6 hb | skip
      refine wp_skip ?_
      refine then_k hK ?_; clear hK; clear K
      refine wp_seq_k ?_; intro K hK
      refine wp_block ?_
      refine wp_seq_k ?_; intro K hK
      have hib : i < (unpL b).length := by omega
      have hmx : (unpL b).length ≤ 9223372036854775807 := hM.rd.2.2.1
      obtain ⟨gm, rfl⟩ := hM.addr (by omega)
      obtain ⟨gn, rfl⟩ := hN.addr (by omega)
      refine region_mix0 S (.ofL [(0, 0), (1, 0), (2, 0), (3, 0), (4, 0), (5, 0), (6, 0), (7, 0), (8, 0)]) (by kernel_rfl) (by kernel_rfl) ?_
      clear S; intro w S
      refine mix_pure E rfl rfl rfl (by decide) (fun w h => rn_move E rfl rfl) ?_; clear E a; intro a E
      refine mix_pure E rfl rfl rfl (by decide) (fun w h => rn_move E rfl rfl) ?_; clear E a; intro a E
      refine mix_pure E rfl rfl rfl (by decide) (fun w h => by first | exact rn_indexAddr1 E rfl rfl rfl rfl rfl rfl (by omega) | exact rn_indexAddr E rfl rfl rfl rfl rfl rfl (by omega) | exact rn_indexAddr_array E rfl rfl rfl rfl rfl rfl (by omega)) ?_; clear E a; intro a E
      refine mix_pure E rfl rfl rfl (by decide) (fun w h => rn_load_aggc (vs := [_, _, _, _, _, _, _, _, _]) E rfl rfl rfl rfl (hM.rd.elem (lay := Pt.lay) Pt.lay_len (h.at (by first | exact mm1 | exact mm2 | exact mm3 | exact mm4 | exact mm5 | exact mm6 | exact mm7 | exact mm8)) (i := i) hib)) ?_; clear E a; intro a E
      refine mix_pure E rfl rfl rfl (by decide) (fun w h => rn_move E rfl rfl) ?_; clear E a; intro a E
      refine mix_pure E rfl rfl rfl (by decide) (fun w h => rn_move E rfl rfl) ?_; clear E a; intro a E
      refine mix_pure E rfl rfl rfl (by decide) (fun w h => by first | exact rn_indexAddr1 E rfl rfl rfl rfl rfl rfl (by omega) | exact rn_indexAddr E rfl rfl rfl rfl rfl rfl (by omega) | exact rn_indexAddr_array E rfl rfl rfl rfl rfl rfl (by omega)) ?_; clear E a; intro a E
      refine mix_pure E rfl rfl rfl (by decide) (fun w h => rn_load_aggc (vs := [_, _, _, _, _, _, _, _, _]) E rfl rfl rfl rfl (hN.rd.elem (lay := Pt.lay) Pt.lay_len (h.at (by first | exact mm1 | exact mm2 | exact mm3 | exact mm4 | exact mm5 | exact mm6 | exact mm7 | exact mm8)) (i := i) hib)) ?_; clear E a; intro a E
      refine mix_pure E rfl rfl rfl (by decide) (fun w h => by first | exact rn_neq_pair E rfl rfl rfl rfl (by kernel_rfl) (by kernel_rfl) rfl rfl rfl | exact rn_neq_cells E rfl rfl rfl rfl (by kernel_rfl) (by kernel_rfl) rfl) ?_; clear E a; intro a E
      refine mix_nil ?_
      refine then_k hK ?_; clear hK; clear K
      refine if_bool E rfl (fun hb => ?_) (fun hb => ?_)
      · first | with_reducible replace hb := n1 hb | with_reducible replace hb := n2 hb | with_reducible replace hb := n3 hb | with_reducible replace hb := n4 hb | with_reducible replace hb := n5 hb | with_reducible replace hb := n6 hb | replace hb := n1 hb | replace hb := n2 hb | replace hb := n3 hb | replace hb := n4 hb | replace hb := n5 hb | replace hb := n6 hb | skip
        exfalso; simp at hb
      · first | with_reducible replace hb := n1 hb | with_reducible replace hb := n2 hb | with_reducible replace hb := n3 hb | with_reducible replace hb := n4 hb | with_reducible replace hb := n5 hb | with_reducible replace hb := n6 hb | replace hb := n1 hb | replace hb := n2 hb | replace hb := n3 hb | replace hb := n4 hb | replace hb := n5 hb | replace hb := n6 hb | skip
        refine wp_skip ?_
        refine in_normal ?_
        refine then_k hK ?_; clear hK; clear K
        refine region_list ?_
        refine list_pure E rfl rfl (by decide) (rn_move E rfl rfl) ?_; clear E a; intro a E
        refine list_pure E rfl rfl (by decide) (rn_add E rfl rfl rfl (by first | exact wa_lit (y := 1) (by omega) | exact w_in (by omega) | exact w_inu (by omega) | exact rfl)) ?_; clear E a; intro a E
        refine list_pure E rfl rfl (by decide) (rn_assign E rfl rfl) ?_; clear E a; intro a E
        refine wpList_nil ?_
        refine then_normal ?_
        exact ⟨_, by omega, i + 1, rfl, by omega, S, E.keep (keep_cons rfl (keep_cons rfl (keep_cons rfl keep_nil)))⟩
    · first | with_reducible replace hb := n1 hb | with_reducible replace hb := n2 hb | with_reducible replace hb := n3 hb | with_reducible replace hb := n4 hb | with_reducible replace hb := n5 hb | with_reducible replace hb := n6 hb | replace hb := n1 hb | replace hb := n2 hb | replace hb := n3 hb | replace hb := n4 hb | replace hb := n5 hb | replace hb := n6 hb | skip
      refine wp_exit ?_
      refine then_exit ?_; clear hK; clear K
      refine then_exit ?_
      refine in_exit ?_
      refine then_k hK ?_; clear hK; clear K
      refine wp_seq_k ?_; intro K hK
      refine region_list ?_
      refine list_pure E rfl rfl (by decide) (rn_assign E rfl rfl) ?_; clear E a; intro a E
      refine wpList_nil ?_
      refine then_k hK ?_; clear hK; clear K
      refine wp_ret ?_
      refine ret1 E rfl rfl ?_
      exact ⟨_, rfl, rfl, (S.only (Bs := [O]) (sel_cons (by first | exact pk1 | exact pk2 | exact pk3 | exact pk4 | exact pk5 | exact pk6 | exact pk7 | exact pk8 | exact pk9) (sel_nil _))).tr⟩
end Go.Proofs.Ytkkibnnddllabaa
