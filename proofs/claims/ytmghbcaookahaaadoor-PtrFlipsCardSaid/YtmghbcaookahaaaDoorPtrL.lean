/-
  Pointers, labels, uberblocks: what arguments are read as, and four statements.
-/
import Derived.Test.YtmghbcaookahaaaDoorPtrK
import Derived.Test.YtmghbcaookahaaaDoorOld
namespace Go.Sl
/-- A label among the old: its tops stand in the chunk. -/
structure LabG (O : Chunk) (v : Value) (l : Lbl) : Prop where
  rd : Rd O 3 v l.tops.length (l.tops.flatMap Tp.lay)
  len : l.tops.length ≤ 140737488351232 / 24
  ok : l.Ok
theorem lbdecE_tops {b : List UInt8} (h : lbdecE b = 0) : (lbAt (b.take 96)).tops.length ≤ 4 := by
  unfold lbdecE at h
  split at h
  · cases h
  split at h
  · cases h
  · rename_i c; simp only [lbAt, List.length_map, List.length_range]; omega
def Tp7 : Tp := ⟨-7, 0, 0⟩
theorem ptO_small (p : Pt) : (ptO p).length ≤ 1000000 := by
  unfold ptO; split
  · rw [ptenc_length]; omega
  · simp
theorem lbO_small (l : Lbl) : (lbO l).length ≤ 1000000 := by
  unfold lbO; split
  · rename_i h; rw [whole_length (by have := lbB_small h; omega)]; omega
  · simp
theorem ubO_small (l : Ub) : (ubO l).length ≤ 1000000 := by
  unfold ubO; split
  · rename_i h; rw [whole_length (by rw [ubB_length]; omega)]; omega
  · simp
end Go.Sl
namespace Go.Proofs.YtmghbcaookahaaaDoor
open Go.Sl
set_option maxRecDepth 10000

theorem dec_sum {H : Type} {enc : TypeId × Value → H} {w : World} : Dec enc Tryd.prog w 24 4 (fun s : Nat × Nat × Nat × Nat => [.int .u64 s.1, .int .u64 s.2.1, .int .u64 s.2.2.1, .int .u64 s.2.2.2]) (fun s => s.1 < 18446744073709551616 ∧ s.2.1 < 18446744073709551616 ∧ s.2.2.1 < 18446744073709551616 ∧ s.2.2.2 < 18446744073709551616) := fun n cs x h hlen hw => by
  match cs, hlen with
  | [c0, c1, c2, c3], _ =>
  have ki : Tryd.prog.cellsOf 22 = 1 := by kernel_rfl
  have ht := Tryd.underlying24
  obtain ⟨a0, e0, h0⟩ := dec_field 0 0 ht h hw rfl ki (dec_u64 (enc := enc) Tryd.underlying22) (by simp)
  obtain ⟨a1, e1, h1⟩ := dec_field 1 1 ht h hw rfl ki (dec_u64 (enc := enc) Tryd.underlying22) (by simp)
  obtain ⟨a2, e2, h2⟩ := dec_field 2 2 ht h hw rfl ki (dec_u64 (enc := enc) Tryd.underlying22) (by simp)
  obtain ⟨a3, e3, h3⟩ := dec_field 3 3 ht h hw rfl ki (dec_u64 (enc := enc) Tryd.underlying22) (by simp)
  simp only [List.drop_succ_cons, List.drop_zero, List.take_succ_cons, List.take_zero, List.cons.injEq, and_true] at e0 e1 e2 e3
  subst e0 e1 e2 e3
  exact ⟨(a0, a1, a2, a3), rfl, h0, h1, h2, h3⟩

theorem dec_pt {H : Type} {enc : TypeId × Value → H} {w : World} : Dec enc Tryd.prog w 26 9 Pt.lay Pt.Ok := fun n cs x h hlen hw => by
  match cs, hlen with
  | [c0, c1, c2, c3, c4, c5, c6, c7, c8], _ =>
  have ki : Tryd.prog.cellsOf 3 = 1 := by kernel_rfl
  have ku : Tryd.prog.cellsOf 22 = 1 := by kernel_rfl
  have ks : Tryd.prog.cellsOf 24 = 4 := by kernel_rfl
  have ht := Tryd.underlying26
  obtain ⟨a0, e0, h0⟩ := dec_field 0 0 ht h hw rfl ki (dec_i64 (enc := enc) Tryd.underlying3) (by simp)
  obtain ⟨a1, e1, h1⟩ := dec_field 1 1 ht h hw rfl ki (dec_i64 (enc := enc) Tryd.underlying3) (by simp)
  obtain ⟨a2, e2, h2⟩ := dec_field 2 2 ht h hw rfl ki (dec_i64 (enc := enc) Tryd.underlying3) (by simp)
  obtain ⟨a3, e3, h3⟩ := dec_field 3 3 ht h hw rfl ku (dec_u64 (enc := enc) Tryd.underlying22) (by simp)
  obtain ⟨a4, e4, h4⟩ := dec_field 4 4 ht h hw rfl ki (dec_i64 (enc := enc) Tryd.underlying3) (by simp)
  obtain ⟨⟨s0, s1, s2, s3⟩, e5, h5, h6, h7, h8⟩ := dec_field 5 5 ht h hw rfl ks (dec_sum (enc := enc)) (by simp)
  simp only [List.drop_succ_cons, List.drop_zero, List.take_succ_cons, List.take_zero, List.cons.injEq, and_true] at e0 e1 e2 e3 e4 e5
  obtain ⟨rfl, rfl, rfl, rfl⟩ := e5
  subst e0 e1 e2 e3 e4
  exact ⟨⟨a0, a1, a2, a3, a4, s0, s1, s2, s3⟩, rfl, ⟨h0, h1, h2, h3, h4, h5, h6, h7, h8⟩⟩

theorem dec_ub {H : Type} {enc : TypeId × Value → H} {w : World} : Dec enc Tryd.prog w 45 12 Ub.lay Ub.Ok := fun n cs x h hlen hw => by
  match cs, hlen with
  | [c0, c1, c2, c3, c4, c5, c6, c7, c8, c9, c10, c11], _ =>
  have ku : Tryd.prog.cellsOf 22 = 1 := by kernel_rfl
  have ks : Tryd.prog.cellsOf 26 = 9 := by kernel_rfl
  have ht := Tryd.underlying45
  obtain ⟨a0, e0, h0⟩ := dec_field 0 0 ht h hw rfl ku (dec_u64 (enc := enc) Tryd.underlying22) (by simp)
  obtain ⟨a1, e1, h1⟩ := dec_field 1 1 ht h hw rfl ku (dec_u64 (enc := enc) Tryd.underlying22) (by simp)
  obtain ⟨a2, e2, h2⟩ := dec_field 2 2 ht h hw rfl ku (dec_u64 (enc := enc) Tryd.underlying22) (by simp)
  obtain ⟨p, e3, h3⟩ := dec_field 3 3 ht h hw rfl ks (dec_pt (enc := enc)) (by simp)
  simp only [List.drop_succ_cons, List.drop_zero, List.take_succ_cons, List.take_zero, List.cons.injEq, and_true, Pt.lay] at e0 e1 e2 e3
  obtain ⟨rfl, rfl, rfl, rfl, rfl, rfl, rfl, rfl, rfl⟩ := e3
  subst e0 e1 e2
  exact ⟨⟨a0, a1, a2, p⟩, rfl, ⟨h0, h1, h2, h3⟩⟩

theorem dec_top {H : Type} {enc : TypeId × Value → H} {w : World} : Dec enc Tryd.prog w 39 3 Tp.lay Tp.Ok := fun n cs x h hlen hw => by
  match cs, hlen with
  | [c0, c1, c2], _ =>
  have ki : Tryd.prog.cellsOf 3 = 1 := by kernel_rfl
  have ht := Tryd.underlying39
  obtain ⟨a0, e0, h0⟩ := dec_field 0 0 ht h hw rfl ki (dec_i64 (enc := enc) Tryd.underlying3) (by simp)
  obtain ⟨a1, e1, h1⟩ := dec_field 1 1 ht h hw rfl ki (dec_i64 (enc := enc) Tryd.underlying3) (by simp)
  obtain ⟨a2, e2, h2⟩ := dec_field 2 2 ht h hw rfl ki (dec_i64 (enc := enc) Tryd.underlying3) (by simp)
  simp only [List.drop_succ_cons, List.drop_zero, List.take_succ_cons, List.take_zero, List.cons.injEq, and_true] at e0 e1 e2
  subst e0 e1 e2
  exact ⟨⟨a0, a1, a2⟩, rfl, ⟨h0, h1, h2⟩⟩

theorem dec_label {H : Type} {enc : TypeId × Value → H} {w : World} : Dec enc Tryd.prog w 37 4 (fun x : Value × Lbl => [.int .u64 x.2.pool, x.1, .int .i64 x.2.top, .int .i64 x.2.place]) (fun x => LabG (old w) x.1 x.2) := fun n cs x h hlen hw => by
  match cs, hlen with
  | [c0, c1, c2, c3], _ =>
  have ki : Tryd.prog.cellsOf 3 = 1 := by kernel_rfl
  have ku : Tryd.prog.cellsOf 22 = 1 := by kernel_rfl
  have ks : Tryd.prog.cellsOf 35 = 1 := by kernel_rfl
  have ht := Tryd.underlying37
  obtain ⟨a0, e0, h0⟩ := dec_field 0 0 ht h hw rfl ku (dec_u64 (enc := enc) Tryd.underlying22) (by simp)
  obtain ⟨⟨v, ts⟩, e1, ad, c, f1, f2, f3, f4, f5⟩ := dec_field 1 1 ht h hw rfl ks (dec_slice (enc := enc) (s := 3) (sz := 24) Tryd.underlying35 (by kernel_rfl) (by decide) (by kernel_rfl) (dec_top (enc := enc)) (fun e _ => e.lay_one)) (by simp)
  obtain ⟨a2, e2, h2⟩ := dec_field 2 2 ht h hw rfl ki (dec_i64 (enc := enc) Tryd.underlying3) (by simp)
  obtain ⟨a3, e3, h3⟩ := dec_field 3 3 ht h hw rfl ki (dec_i64 (enc := enc) Tryd.underlying3) (by simp)
  simp only [List.drop_succ_cons, List.drop_zero, List.take_succ_cons, List.take_zero, List.cons.injEq, and_true] at e0 e1 e2 e3
  subst e0 e1 e2 e3
  simp only at f1 f2 f3 f4 f5
  exact ⟨(c1, ⟨a0, ts, a2, a3⟩), rfl, ⟨f4, by show ts.length ≤ _; omega, ⟨h0, h2, h3, f5⟩⟩⟩

theorem writes_walk (O : Chunk) (x : Pt) (ho : x.Ok) (w0 : World) (H : Hp w0 [O]) :
    Ret Tryd.prog 3 #[x.agg] w0 fun u w' => u = .bool true ∧ Trs w0 w' [O] [O] := by
  have S := St.begin H
  obtain ⟨z, hz⟩ : ∃ z, z = ptE x := ⟨_, rfl⟩
  have hsm := ptO_small x
  refine enter1 58 Tryd.func3 rfl rfl (by decide) ?_; intro a E
  refine wp_seq_k ?_; intro K hK
  refine region_list ?_
  refine list_wp rfl (wp_box E S rfl rfl (by decide) rfl rfl ?_); clear E S a; intro a w b1 E S
  refine list_pure E rfl rfl (by decide) (rn_assign E rfl rfl) ?_; clear E a; intro a E
  refine wpList_nil ?_
  refine then_k hK ?_; clear hK; clear K
  refine wp_seq_k ?_; intro K hK
  refine region_list ?_
  refine list_call E rfl rfl (by decide) rfl Tryd.func9 rfl (by kernel_rfl) rfl (awake_ret _) ?_
  rintro v12 w ⟨rfl, hT⟩; clear E a; intro a E
  have S := S.quiet hT
  refine list_pure E rfl rfl (by decide) (rn_assign E rfl rfl) ?_; clear E a; intro a E
  refine wpList_nil ?_
  refine then_k hK ?_; clear hK; clear K
  refine wp_seq_k ?_; intro K hK
  refine region_list ?_
  refine list_pure E rfl rfl (by decide) (rn_load_blk (vs := [_, _, _, _, _, _, _, _, _]) E rfl rfl rfl (S.get (by repeat (first | exact pk1 | apply pick_tail))) rfl rfl) ?_; clear E a; intro a E
  refine list_call E rfl rfl (by decide) rfl Tryd.func10 rfl (by kernel_rfl) rfl (ptencode_ret x ho _) ?_
  rintro v15 w ⟨v1, C1, rfl, hC1, hT⟩; clear E a; intro a E
  have S := S.fresh hT; rw [← hz] at E
  refine list_pure E rfl rfl (by decide) (rn_move E rfl rfl) ?_; clear E a; intro a E
  refine list_pure E rfl rfl (by decide) (rn_extract E rfl rfl rfl) ?_; clear E a; intro a E
  refine list_pure E rfl rfl (by decide) (rn_extract E rfl rfl rfl) ?_; clear E a; intro a E
  refine list_pure E rfl rfl (by decide) (rn_assign E rfl rfl) ?_; clear E a; intro a E
  refine list_pure E rfl rfl (by decide) (rn_assign E rfl rfl) ?_; clear E a; intro a E
  refine wpList_nil ?_
  refine then_k hK ?_; clear hK; clear K
  refine wp_seq_k ?_; intro K hK
  refine region_list ?_
  refine list_pure E rfl rfl (by decide) (rn_load_blk (vs := [_, _, _, _, _, _, _, _, _]) E rfl rfl rfl (S.get (by repeat (first | exact pk1 | apply pick_tail))) rfl rfl) ?_; clear E a; intro a E
  refine list_call E rfl rfl (by decide) rfl Tryd.func11 rfl (by kernel_rfl) rfl (dptencode_ret x ho _) ?_
  rintro v20 w ⟨v2, C2, rfl, hC2, hT⟩; clear E a; intro a E
  have S := S.fresh hT; rw [← hz] at E
  refine list_pure E rfl rfl (by decide) (rn_move E rfl rfl) ?_; clear E a; intro a E
  refine list_pure E rfl rfl (by decide) (rn_extract E rfl rfl rfl) ?_; clear E a; intro a E
  refine list_pure E rfl rfl (by decide) (rn_extract E rfl rfl rfl) ?_; clear E a; intro a E
  refine list_pure E rfl rfl (by decide) (rn_assign E rfl rfl) ?_; clear E a; intro a E
  refine list_pure E rfl rfl (by decide) (rn_assign E rfl rfl) ?_; clear E a; intro a E
  refine wpList_nil ?_
  refine then_k hK ?_; clear hK; clear K
  refine wp_seq_k ?_; intro K hK
  refine region_list ?_
  refine list_pure E rfl rfl (by decide) (rn_move E rfl rfl) ?_; clear E a; intro a E
  refine list_pure E rfl rfl (by decide) (rn_move E rfl rfl) ?_; clear E a; intro a E
  refine list_call E rfl rfl (by decide) rfl Tryd.func12 rfl (by kernel_rfl) rfl (own_ret C1 C2 v1 v2 _ _ hC1 hC2.rd hsm hsm _ (S.hp.sel (sel_cons (by repeat (first | exact pk1 | apply pick_tail)) (sel_cons (by repeat (first | exact pk1 | apply pick_tail)) (sel_nil _))))) ?_
  rintro v25 w ⟨rfl, hT⟩; clear E a; intro a E
  have S := S.call1 (sel_cons (by repeat (first | exact pk1 | apply pick_tail)) (sel_cons (by repeat (first | exact pk1 | apply pick_tail)) (sel_nil _))) hT; rw [decide_eq_true (rfl : ptO x = ptO x)] at E
  refine list_pure E rfl rfl (by decide) (rn_assign E rfl rfl) ?_; clear E a; intro a E
  refine wpList_nil ?_
  refine then_k hK ?_; clear hK; clear K
  refine wp_seq_k ?_; intro K hK
  refine region_list ?_
  refine list_pure E rfl rfl (by decide) (rn_load_blk (vs := [_, _, _, _, _, _, _, _, _]) E rfl rfl rfl (S.get (by repeat (first | exact pk1 | apply pick_tail))) rfl rfl) ?_; clear E a; intro a E
  refine list_call E rfl rfl (by decide) rfl Tryd.func10 rfl (by kernel_rfl) rfl (ptencode_ret x ho _) ?_
  rintro v28 w ⟨v3, C3, rfl, hC3, hT⟩; clear E a; intro a E
  have S := S.fresh hT; rw [← hz] at E
  refine list_pure E rfl rfl (by decide) (rn_move E rfl rfl) ?_; clear E a; intro a E
  refine list_pure E rfl rfl (by decide) (rn_extract E rfl rfl rfl) ?_; clear E a; intro a E
  refine list_pure E rfl rfl (by decide) (rn_extract E rfl rfl rfl) ?_; clear E a; intro a E
  refine list_pure E rfl rfl (by decide) (rn_assign E rfl rfl) ?_; clear E a; intro a E
  refine list_pure E rfl rfl (by decide) (rn_assign E rfl rfl) ?_; clear E a; intro a E
  refine wpList_nil ?_
  refine then_k hK ?_; clear hK; clear K
  refine wp_seq_k ?_; intro K hK
  replace E := E.keep (e' := [(1, _), (2, _), (3, _), (5, _), (6, _), (7, _), (8, _), (9, _), (10, _)]) (keep_cons rfl (keep_cons rfl (keep_cons rfl (keep_cons rfl (keep_cons rfl (keep_cons rfl (keep_cons rfl (keep_cons rfl (keep_cons rfl (keep_nil))))))))))
  refine region_list ?_
  refine list_pure E rfl rfl (by decide) (rn_move E rfl rfl) ?_; clear E a; intro a E
  refine list_pure E rfl rfl (by decide) (rn_move E rfl rfl) ?_; clear E a; intro a E
  refine list_call E rfl rfl (by decide) rfl Tryd.func12 rfl (by kernel_rfl) rfl (own_ret C3 C2 v3 v2 _ _ hC3 hC2.rd hsm hsm _ (S.hp.sel (sel_cons (by repeat (first | exact pk1 | apply pick_tail)) (sel_cons (by repeat (first | exact pk1 | apply pick_tail)) (sel_nil _))))) ?_
  rintro v33 w ⟨rfl, hT⟩; clear E a; intro a E
  have S := S.call1 (sel_cons (by repeat (first | exact pk1 | apply pick_tail)) (sel_cons (by repeat (first | exact pk1 | apply pick_tail)) (sel_nil _))) hT; rw [decide_eq_true (rfl : ptO x = ptO x)] at E
  refine list_pure E rfl rfl (by decide) (rn_assign E rfl rfl) ?_; clear E a; intro a E
  refine wpList_nil ?_
  refine then_k hK ?_; clear hK; clear K
  refine wp_seq_k ?_; intro K hK
  refine region_mix0 S (.ofL [(0, 0), (1, 0), (2, 0), (3, 0), (4, 0), (5, 0), (6, 0), (7, 0), (8, 0), (9, 0), (10, 0), (11, 0), (12, 0), (13, 0), (14, 0), (15, 0), (16, 0), (17, 0), (18, 0), (20, 0), (19, 1), (21, 3), (22, 2), (23, 2), (24, 2)]) (by kernel_rfl) (by kernel_rfl) ?_
  clear S; intro w S
  refine mix_pure E rfl rfl rfl (by decide) (fun w h => rn_move E rfl rfl) ?_; clear E a; intro a E
  refine mix_pure E rfl rfl rfl (by decide) (fun w h => rn_move E rfl rfl) ?_; clear E a; intro a E
  refine guard_true E (t := 35) rfl (rfl) (fun hb35 => ?_)
  refine mix_guard_yes E rfl rfl rfl rfl rfl hb35 rfl (by decide) (fun w h => rn_move E rfl rfl) ?_; clear E a; intro a E
  refine mix_pure E rfl rfl rfl (by decide) (fun w h => rn_pick_yes' E rfl rfl hb35 rfl) ?_; clear E a; intro a E
  refine mix_pure E rfl rfl rfl (by decide) (fun w h => rn_move E rfl rfl) ?_; clear E a; intro a E
  refine guard_true E (t := 38) rfl (rfl) (fun hb38 => ?_)
  refine mix_guard_yes E rfl rfl rfl rfl rfl hb38 rfl (by decide) (fun w h => rn_move E rfl rfl) ?_; clear E a; intro a E
  refine mix_pure E rfl rfl rfl (by decide) (fun w h => rn_pick_yes' E rfl rfl hb38 rfl) ?_; clear E a; intro a E
  refine mix_pure E rfl rfl rfl (by decide) (fun w h => rn_move E rfl rfl) ?_; clear E a; intro a E
  refine guard_true E (t := 41) rfl (rfl) (fun hb41 => ?_)
  refine mix_guard_yes E rfl rfl rfl rfl rfl hb41 rfl (by decide) (fun w h => rn_move E rfl rfl) ?_; clear E a; intro a E
  refine mix_guard_yes E rfl rfl rfl rfl rfl hb41 rfl (by decide) (fun w h => rn_move E rfl rfl) ?_; clear E a; intro a E
  refine mix_guard_yes E rfl rfl rfl rfl rfl hb41 rfl (by decide) (fun w h => by first | exact rn_eql E rfl rfl rfl | exact rn_eql_ptr_nil E rfl rfl rfl rfl | exact rn_eql_bool E rfl rfl rfl rfl | exact rn_eql_string E rfl rfl rfl) ?_; clear E a; intro a E
  refine mix_pure E rfl rfl rfl (by decide) (fun w h => rn_pick_yes' E rfl rfl hb41 rfl) ?_; clear E a; intro a E
  refine mix_pure E rfl rfl rfl (by decide) (fun w h => rn_move E rfl rfl) ?_; clear E a; intro a E
  refine guard_true E (t := 46) rfl ((by simp)) (fun hb46 => ?_)
  refine mix_guard_yes E rfl rfl rfl rfl rfl hb46 rfl (by decide) (fun w h => rn_move E rfl rfl) ?_; clear E a; intro a E
  refine mix_guard_yes E rfl rfl rfl rfl rfl hb46 rfl (by decide) (fun w h => rn_move E rfl rfl) ?_; clear E a; intro a E
  refine mix_guard_yes E rfl rfl rfl rfl rfl hb46 rfl (by decide) (fun w h => by first | exact rn_eql E rfl rfl rfl | exact rn_eql_ptr_nil E rfl rfl rfl rfl | exact rn_eql_bool E rfl rfl rfl rfl | exact rn_eql_string E rfl rfl rfl) ?_; clear E a; intro a E
  refine mix_pure E rfl rfl rfl (by decide) (fun w h => rn_pick_yes' E rfl rfl hb46 rfl) ?_; clear E a; intro a E
  refine mix_pure E rfl rfl rfl (by decide) (fun w h => rn_move E rfl rfl) ?_; clear E a; intro a E
  refine guard_true E (t := 51) rfl ((by simp)) (fun hb51 => ?_)
  refine mix_guard_yes E rfl rfl rfl rfl rfl hb51 rfl (by decide) (fun w h => rn_load_blk (vs := [_, _, _, _, _, _, _, _, _]) E rfl rfl rfl (h.one (by repeat (first | exact mm1 | apply List.Mem.tail))) rfl rfl) ?_; clear E a; intro a E
  refine mix_guard_yes E rfl rfl rfl rfl rfl hb51 rfl (by decide) (fun w h => rn_load_blk (vs := [_, _, _, _, _, _, _, _, _]) E rfl rfl rfl (h.one (by repeat (first | exact mm1 | apply List.Mem.tail))) rfl rfl) ?_; clear E a; intro a E
  refine mix_guard_act E rfl rfl rfl rfl rfl hb51 ?_; refine wp_call' E rfl (by decide) rfl Tryd.func13 rfl (by kernel_rfl) rfl (ptcheck_ret x _) ?_
  rintro v53 w ⟨rfl, hT⟩; clear E a; intro a E
  have S := S.quiet hT; rw [← hz] at E
  refine ⟨S.stab.sub (by first | (simp; done) | (simp +contextual; done)), ?_⟩
  refine mix_guard_last E rfl rfl rfl rfl rfl hb51 ?_; refine wp_call' E rfl (by decide) rfl Tryd.func14 rfl (by kernel_rfl) rfl (dptcheck_ret x _) ?_
  rintro v55 w ⟨rfl, hT⟩; clear E a; intro a E
  have S := S.quiet hT; rw [← hz] at E
  refine mix_guard_free E rfl rfl rfl rfl rfl hb51 rfl (by decide) (fun w => by first | exact rn_eql E rfl rfl rfl | exact rn_eql_ptr_nil E rfl rfl rfl rfl | exact rn_eql_bool E rfl rfl rfl rfl | exact rn_eql_string E rfl rfl rfl) ?_; clear E a; intro a E
  refine mix_free E rfl rfl rfl (by decide) (fun w => rn_pick_yes' E rfl rfl hb51 rfl) ?_; clear E a; intro a E
  refine mix_free E rfl rfl rfl (by decide) (fun w => rn_assign E rfl rfl) ?_; clear E a; intro a E
  refine mix_nil ?_
  refine then_k hK ?_; clear hK; clear K
  refine wp_ret ?_
  refine ret1 E rfl rfl ?_
  exact ⟨_, rfl, by simp, (S.only (Bs := [O]) (sel_cons (by repeat (first | exact pk1 | apply pick_tail)) (sel_nil _))).tr⟩

theorem ubers_walk (O : Chunk) (x : Ub) (ho : x.Ok) (w0 : World) (H : Hp w0 [O]) :
    Ret Tryd.prog 5 #[x.agg] w0 fun u w' => u = .bool true ∧ Trs w0 w' [O] [O] := by
  have S := St.begin H
  obtain ⟨z, hz⟩ : ∃ z, z = ubE x := ⟨_, rfl⟩
  have hsm := ubO_small x
  refine enter1 39 Tryd.func5 rfl rfl (by decide) ?_; intro a E
  refine wp_seq_k ?_; intro K hK
  refine region_list ?_
  refine list_wp rfl (wp_box E S rfl rfl (by decide) rfl rfl ?_); clear E S a; intro a w b1 E S
  refine list_pure E rfl rfl (by decide) (rn_assign E rfl rfl) ?_; clear E a; intro a E
  refine wpList_nil ?_
  refine then_k hK ?_; clear hK; clear K
  refine wp_seq_k ?_; intro K hK
  refine region_list ?_
  refine list_call E rfl rfl (by decide) rfl Tryd.func9 rfl (by kernel_rfl) rfl (awake_ret _) ?_
  rintro v9 w ⟨rfl, hT⟩; clear E a; intro a E
  have S := S.quiet hT
  refine list_pure E rfl rfl (by decide) (rn_assign E rfl rfl) ?_; clear E a; intro a E
  refine wpList_nil ?_
  refine then_k hK ?_; clear hK; clear K
  refine wp_seq_k ?_; intro K hK
  refine region_list ?_
  refine list_pure E rfl rfl (by decide) (rn_load_blk (vs := [_, _, _, _, _, _, _, _, _, _, _, _]) E rfl rfl rfl (S.get (by repeat (first | exact pk1 | apply pick_tail))) rfl rfl) ?_; clear E a; intro a E
  refine list_call E rfl rfl (by decide) rfl Tryd.func20 rfl (by kernel_rfl) rfl (ubencode_ret x ho _) ?_
  rintro v12 w ⟨v1, C1, rfl, hC1, hT⟩; clear E a; intro a E
  have S := S.fresh hT; rw [← hz] at E
  refine list_pure E rfl rfl (by decide) (rn_move E rfl rfl) ?_; clear E a; intro a E
  refine list_pure E rfl rfl (by decide) (rn_extract E rfl rfl rfl) ?_; clear E a; intro a E
  refine list_pure E rfl rfl (by decide) (rn_extract E rfl rfl rfl) ?_; clear E a; intro a E
  refine list_pure E rfl rfl (by decide) (rn_assign E rfl rfl) ?_; clear E a; intro a E
  refine list_pure E rfl rfl (by decide) (rn_assign E rfl rfl) ?_; clear E a; intro a E
  refine wpList_nil ?_
  refine then_k hK ?_; clear hK; clear K
  refine wp_seq_k ?_; intro K hK
  refine region_list ?_
  refine list_pure E rfl rfl (by decide) (rn_load_blk (vs := [_, _, _, _, _, _, _, _, _, _, _, _]) E rfl rfl rfl (S.get (by repeat (first | exact pk1 | apply pick_tail))) rfl rfl) ?_; clear E a; intro a E
  refine list_call E rfl rfl (by decide) rfl Tryd.func21 rfl (by kernel_rfl) rfl (dubencode_ret x ho _) ?_
  rintro v17 w ⟨v2, C2, rfl, hC2, hT⟩; clear E a; intro a E
  have S := S.fresh hT; rw [← hz] at E
  refine list_pure E rfl rfl (by decide) (rn_move E rfl rfl) ?_; clear E a; intro a E
  refine list_pure E rfl rfl (by decide) (rn_extract E rfl rfl rfl) ?_; clear E a; intro a E
  refine list_pure E rfl rfl (by decide) (rn_extract E rfl rfl rfl) ?_; clear E a; intro a E
  refine list_pure E rfl rfl (by decide) (rn_assign E rfl rfl) ?_; clear E a; intro a E
  refine list_pure E rfl rfl (by decide) (rn_assign E rfl rfl) ?_; clear E a; intro a E
  refine wpList_nil ?_
  refine then_k hK ?_; clear hK; clear K
  refine wp_seq_k ?_; intro K hK
  refine region_list ?_
  refine list_pure E rfl rfl (by decide) (rn_move E rfl rfl) ?_; clear E a; intro a E
  refine list_pure E rfl rfl (by decide) (rn_move E rfl rfl) ?_; clear E a; intro a E
  refine list_call E rfl rfl (by decide) rfl Tryd.func12 rfl (by kernel_rfl) rfl (own_ret C1 C2 v1 v2 _ _ hC1 hC2.rd hsm hsm _ (S.hp.sel (sel_cons (by repeat (first | exact pk1 | apply pick_tail)) (sel_cons (by repeat (first | exact pk1 | apply pick_tail)) (sel_nil _))))) ?_
  rintro v22 w ⟨rfl, hT⟩; clear E a; intro a E
  have S := S.call1 (sel_cons (by repeat (first | exact pk1 | apply pick_tail)) (sel_cons (by repeat (first | exact pk1 | apply pick_tail)) (sel_nil _))) hT; rw [decide_eq_true (rfl : ubO x = ubO x)] at E
  refine list_pure E rfl rfl (by decide) (rn_assign E rfl rfl) ?_; clear E a; intro a E
  refine wpList_nil ?_
  refine then_k hK ?_; clear hK; clear K
  refine wp_seq_k ?_; intro K hK
  refine region_mix0 S (.ofL [(0, 0), (1, 0), (2, 0), (3, 0), (4, 0), (5, 0), (6, 0), (7, 0), (8, 0), (9, 0), (10, 0), (12, 0), (11, 1), (13, 3), (14, 2), (15, 2), (16, 2)]) (by kernel_rfl) (by kernel_rfl) ?_
  clear S; intro w S
  refine mix_pure E rfl rfl rfl (by decide) (fun w h => rn_move E rfl rfl) ?_; clear E a; intro a E
  refine mix_pure E rfl rfl rfl (by decide) (fun w h => rn_move E rfl rfl) ?_; clear E a; intro a E
  refine guard_true E (t := 24) rfl (rfl) (fun hb24 => ?_)
  refine mix_guard_yes E rfl rfl rfl rfl rfl hb24 rfl (by decide) (fun w h => rn_move E rfl rfl) ?_; clear E a; intro a E
  refine mix_pure E rfl rfl rfl (by decide) (fun w h => rn_pick_yes' E rfl rfl hb24 rfl) ?_; clear E a; intro a E
  refine mix_pure E rfl rfl rfl (by decide) (fun w h => rn_move E rfl rfl) ?_; clear E a; intro a E
  refine guard_true E (t := 27) rfl (rfl) (fun hb27 => ?_)
  refine mix_guard_yes E rfl rfl rfl rfl rfl hb27 rfl (by decide) (fun w h => rn_move E rfl rfl) ?_; clear E a; intro a E
  refine mix_guard_yes E rfl rfl rfl rfl rfl hb27 rfl (by decide) (fun w h => rn_move E rfl rfl) ?_; clear E a; intro a E
  refine mix_guard_yes E rfl rfl rfl rfl rfl hb27 rfl (by decide) (fun w h => by first | exact rn_eql E rfl rfl rfl | exact rn_eql_ptr_nil E rfl rfl rfl rfl | exact rn_eql_bool E rfl rfl rfl rfl | exact rn_eql_string E rfl rfl rfl) ?_; clear E a; intro a E
  refine mix_pure E rfl rfl rfl (by decide) (fun w h => rn_pick_yes' E rfl rfl hb27 rfl) ?_; clear E a; intro a E
  refine mix_pure E rfl rfl rfl (by decide) (fun w h => rn_move E rfl rfl) ?_; clear E a; intro a E
  refine guard_true E (t := 32) rfl ((by simp)) (fun hb32 => ?_)
  refine mix_guard_yes E rfl rfl rfl rfl rfl hb32 rfl (by decide) (fun w h => rn_load_blk (vs := [_, _, _, _, _, _, _, _, _, _, _, _]) E rfl rfl rfl (h.one (by repeat (first | exact mm1 | apply List.Mem.tail))) rfl rfl) ?_; clear E a; intro a E
  refine mix_guard_yes E rfl rfl rfl rfl rfl hb32 rfl (by decide) (fun w h => rn_load_blk (vs := [_, _, _, _, _, _, _, _, _, _, _, _]) E rfl rfl rfl (h.one (by repeat (first | exact mm1 | apply List.Mem.tail))) rfl rfl) ?_; clear E a; intro a E
  refine mix_guard_act E rfl rfl rfl rfl rfl hb32 ?_; refine wp_call' E rfl (by decide) rfl Tryd.func22 rfl (by kernel_rfl) rfl (ubcheck_ret x _) ?_
  rintro v34 w ⟨rfl, hT⟩; clear E a; intro a E
  have S := S.quiet hT; rw [← hz] at E
  refine ⟨S.stab.sub (by first | (simp; done) | (simp +contextual; done)), ?_⟩
  refine mix_guard_last E rfl rfl rfl rfl rfl hb32 ?_; refine wp_call' E rfl (by decide) rfl Tryd.func23 rfl (by kernel_rfl) rfl (dubcheck_ret x _) ?_
  rintro v36 w ⟨rfl, hT⟩; clear E a; intro a E
  have S := S.quiet hT; rw [← hz] at E
  refine mix_guard_free E rfl rfl rfl rfl rfl hb32 rfl (by decide) (fun w => by first | exact rn_eql E rfl rfl rfl | exact rn_eql_ptr_nil E rfl rfl rfl rfl | exact rn_eql_bool E rfl rfl rfl rfl | exact rn_eql_string E rfl rfl rfl) ?_; clear E a; intro a E
  refine mix_free E rfl rfl rfl (by decide) (fun w => rn_pick_yes' E rfl rfl hb32 rfl) ?_; clear E a; intro a E
  refine mix_free E rfl rfl rfl (by decide) (fun w => rn_assign E rfl rfl) ?_; clear E a; intro a E
  refine mix_nil ?_
  refine then_k hK ?_; clear hK; clear K
  refine wp_ret ?_
  refine ret1 E rfl rfl ?_
  exact ⟨_, rfl, by simp, (S.only (Bs := [O]) (sel_cons (by repeat (first | exact pk1 | apply pick_tail)) (sel_nil _))).tr⟩

theorem labels_walk (O : Chunk) (a : Value × Lbl) (hg : LabG O a.1 a.2) (w0 : World) (H : Hp w0 [O]) :
    Ret Tryd.prog 4 #[lbagg a.2 a.1] w0 fun u w' => u = .bool true ∧ Trs w0 w' [O] [O] := by
  have S := (St.begin H).addNil
  obtain ⟨v, l⟩ := a
  obtain ⟨hO, hlen, ho⟩ := hg
  simp only at hO hlen ho
  obtain ⟨z, hz⟩ : ∃ z, z = lbE l := ⟨_, rfl⟩
  have hsm := lbO_small l
  obtain ⟨ad, c, rfl⟩ := hO.slice
  change Ret Tryd.prog _ #[.agg #[.int .u64 l.pool, .slice ad l.tops.length c, .int .i64 l.top, .int .i64 l.place]] w0 _
  refine enter1 72 Tryd.func4 rfl rfl (by decide) ?_; intro a E
  refine wp_seq_k ?_; intro K hK
  refine region_list ?_
  refine list_wp rfl (wp_box E S rfl rfl (by decide) rfl rfl ?_); clear E S a; intro a w b1 E S
  refine list_pure E rfl rfl (by decide) (rn_assign E rfl rfl) ?_; clear E a; intro a E
  refine wpList_nil ?_
  refine then_k hK ?_; clear hK; clear K
  refine wp_seq_k ?_; intro K hK
  refine region_list ?_
  refine list_call E rfl rfl (by decide) rfl Tryd.func9 rfl (by kernel_rfl) rfl (awake_ret _) ?_
  rintro v12 w ⟨rfl, hT⟩; clear E a; intro a E
  have S := S.quiet hT
  refine list_pure E rfl rfl (by decide) (rn_assign E rfl rfl) ?_; clear E a; intro a E
  refine wpList_nil ?_
  refine then_k hK ?_; clear hK; clear K
  refine wp_seq_k ?_; intro K hK
  refine region_list ?_
  refine list_pure E rfl rfl (by decide) (by first | exact rn_fieldAddr0 (q := 1) E rfl rfl rfl | exact rn_fieldAddr (q := 1) E rfl rfl rfl) ?_; clear E a; intro a E
  refine list_pure E rfl rfl (by decide) (by first | exact rn_load E rfl rfl rfl (S.get (by repeat (first | exact pk1 | apply pick_tail))) rfl | exact rn_loadc E rfl rfl rfl (by assumption)) ?_; clear E a; intro a E
  refine list_wp rfl (wp_append (by' := 24) E S rfl rfl (by decide) rfl rfl (Buf.nil _ _) (by repeat (first | exact pk1 | apply pick_tail)) (hO.src (S.stab.at (by repeat (first | exact mm1 | apply List.Mem.tail))) rfl) rfl rfl rfl rfl rfl rfl (by simp only [maxLen]; omega) (by omega) ?_); clear E S a; intro a w v15 C15 E S hB15
  simp only [Nat.zero_add, List.nil_append] at hB15
  refine list_pure E rfl rfl (by decide) (rn_assign E rfl rfl) ?_; clear E a; intro a E
  refine wpList_nil ?_
  refine then_k hK ?_; clear hK; clear K
  refine wp_seq_k ?_; intro K hK
  refine region_list ?_
  refine list_pure E rfl rfl (by decide) (rn_move E rfl rfl) ?_; clear E a; intro a E
  refine list_pure E rfl rfl (by decide) (rn_build (cells := [_, _, _]) E rfl rfl rfl) ?_; clear E a; intro a E
  refine list_wp rfl (wp_bslice (cells := [_, _, _]) E S rfl rfl (by decide) rfl rfl rfl rfl rfl (by decide) rfl ?_); clear E S a; intro a w b18 E S
  refine list_wp rfl (wp_append (by' := 24) E S rfl rfl (by decide) rfl rfl hB15 (by repeat (first | exact pk1 | apply pick_tail)) ((rd_cells (g := b18) (T := 39) (xs := Tp7.lay) (s := 3) (m := 1) rfl (Tp.lay_one _) (by omega) 1).src (S.stab.at (by repeat (first | exact mm1 | apply List.Mem.tail))) rfl) rfl rfl rfl rfl rfl rfl (by simp only [maxLen]; omega) (by omega) ?_); clear E S a; intro a w v19 C19 E S hB19
  rw [← flat_snoc] at hB19
  have hcap := buf_hcap hB19
  obtain ⟨ad9, c9, rfl, hc9⟩ := hcap
  obtain ⟨g9, rfl⟩ := hB19.addr (by omega)
  obtain ⟨ad2, c2, hs2, hR2⟩ := hB19.rd.cut (lo := 0) (hi := l.tops.length) (by omega) (by omega) (by omega)
  rw [Nat.sub_zero] at hs2 hR2
  rw [show (List.drop (0 * 3) ((l.tops ++ [Tp7]).flatMap Tp.lay)).take (l.tops.length * 3) = l.tops.flatMap Tp.lay by rw [Nat.zero_mul, List.drop_zero, List.flatMap_append, List.take_left' (flat_len Tp.lay_len)]] at hR2
  refine list_pure E rfl rfl (by decide) (rn_assign E rfl rfl) ?_; clear E a; intro a E
  refine wpList_nil ?_
  refine then_k hK ?_; clear hK; clear K
  refine wp_seq_k ?_; intro K hK
  refine region_list ?_
  refine list_pure E rfl rfl (by decide) (rn_load_blk (vs := [_, _, _, _]) E rfl rfl rfl (S.get (by repeat (first | exact pk1 | apply pick_tail))) rfl rfl) ?_; clear E a; intro a E
  refine list_wp rfl (wp_alloc E S rfl rfl (by decide) rfl rfl rfl ?_); clear E S a; intro a w b5 E S
  refine list_wp rfl (wp_storeN E S rfl rfl rfl rfl (by simp [Value.oneCell']) rfl (by repeat (first | exact pk1 | apply pick_tail)) (by simp) ?_); clear E S a; intro a w E S; simp only [List.take_succ_cons, List.take_zero, List.drop_succ_cons, List.drop_zero, List.cons_append, List.nil_append, List.append_nil, List.length_cons, List.length_nil, Nat.zero_add, Nat.add_zero] at S
  refine wpList_nil ?_
  refine then_k hK ?_; clear hK; clear K
  refine wp_seq_k ?_; intro K hK
  refine region_list ?_
  refine list_pure E rfl rfl (by decide) (rn_move E rfl rfl) ?_; clear E a; intro a E
  refine list_pure E rfl rfl (by decide) (by first | exact rn_fieldAddr0 (q := 1) E rfl rfl rfl | exact rn_fieldAddr (q := 1) E rfl rfl rfl) ?_; clear E a; intro a E
  refine list_pure E rfl rfl (by decide) (by first | exact rn_load E rfl rfl rfl (S.get (by repeat (first | exact pk1 | apply pick_tail))) rfl | exact rn_loadc E rfl rfl rfl (by assumption)) ?_; clear E a; intro a E
  refine list_pure E rfl rfl (by decide) (by first | exact rn_len E rfl rfl rfl | exact rn_len_str E rfl rfl rfl | exact rn_len_string E rfl rfl rfl) ?_; clear E a; intro a E
  refine list_pure E rfl rfl (by decide) (rn_slice_h (s := 3) (hi := l.tops.length) E rfl rfl rfl rfl rfl rfl (by omega)) ?_; clear E a; intro a E
  rw [hs2] at E
  refine list_pure E rfl rfl (by decide) (by first | exact rn_fieldAddr0 (q := 1) E rfl rfl rfl | exact rn_fieldAddr (q := 1) E rfl rfl rfl) ?_; clear E a; intro a E
  refine list_wp rfl (wp_store1 E S rfl rfl rfl rfl rfl rfl (by repeat (first | exact pk1 | apply pick_tail)) (by first | exact Nat.le_of_ble_eq_true rfl | (simp; done) | (simp; omega)) ?_); clear E S a; intro a w E S; try dsimp only [List.set] at S
  refine wpList_nil ?_
  refine then_k hK ?_; clear hK; clear K
  refine wp_seq_k ?_; intro K hK
  refine region_list ?_
  refine list_pure E rfl rfl (by decide) (rn_load_blk (vs := [_, _, _, _]) E rfl rfl rfl (S.get (by repeat (first | exact pk1 | apply pick_tail))) rfl rfl) ?_; clear E a; intro a E
  refine list_call E rfl rfl (by decide) rfl Tryd.func15 rfl (by kernel_rfl) rfl (lbencode_ret C19 _ l hR2 ho _ (S.hp.sel (sel_cons (by repeat (first | exact pk1 | apply pick_tail)) (sel_nil _)))) ?_
  rintro v29 w ⟨v1, C1, rfl, hC1, hT⟩; clear E a; intro a E
  have S := S.call2 (sel_cons (by repeat (first | exact pk1 | apply pick_tail)) (sel_nil _)) hT; rw [← hz] at E
  refine list_pure E rfl rfl (by decide) (rn_move E rfl rfl) ?_; clear E a; intro a E
  refine list_pure E rfl rfl (by decide) (rn_extract E rfl rfl rfl) ?_; clear E a; intro a E
  refine list_pure E rfl rfl (by decide) (rn_extract E rfl rfl rfl) ?_; clear E a; intro a E
  refine list_pure E rfl rfl (by decide) (rn_assign E rfl rfl) ?_; clear E a; intro a E
  refine list_pure E rfl rfl (by decide) (rn_assign E rfl rfl) ?_; clear E a; intro a E
  refine wpList_nil ?_
  refine then_k hK ?_; clear hK; clear K
  refine wp_seq_k ?_; intro K hK
  replace E := E.keep (e' := [(1, _), (2, _), (3, _), (4, _), (5, _), (6, _), (7, _)]) (keep_cons rfl (keep_cons rfl (keep_cons rfl (keep_cons rfl (keep_cons rfl (keep_cons rfl (keep_cons rfl (keep_nil))))))))
  refine region_list ?_
  refine list_pure E rfl rfl (by decide) (rn_load_blk (vs := [_, _, _, _]) E rfl rfl rfl (S.get (by repeat (first | exact pk1 | apply pick_tail))) rfl rfl) ?_; clear E a; intro a E
  refine list_call E rfl rfl (by decide) rfl Tryd.func16 rfl (by kernel_rfl) rfl (dlbencode_ret O _ l hO ho _ (S.hp.sel (sel_cons (by repeat (first | exact pk1 | apply pick_tail)) (sel_nil _)))) ?_
  rintro v34 w ⟨v2, C2, rfl, hC2, hT⟩; clear E a; intro a E
  have S := S.call2 (sel_cons (by repeat (first | exact pk1 | apply pick_tail)) (sel_nil _)) hT; rw [← hz] at E
  refine list_pure E rfl rfl (by decide) (rn_move E rfl rfl) ?_; clear E a; intro a E
  refine list_pure E rfl rfl (by decide) (rn_extract E rfl rfl rfl) ?_; clear E a; intro a E
  refine list_pure E rfl rfl (by decide) (rn_extract E rfl rfl rfl) ?_; clear E a; intro a E
  refine list_pure E rfl rfl (by decide) (rn_assign E rfl rfl) ?_; clear E a; intro a E
  refine list_pure E rfl rfl (by decide) (rn_assign E rfl rfl) ?_; clear E a; intro a E
  refine wpList_nil ?_
  refine then_k hK ?_; clear hK; clear K
  refine wp_seq_k ?_; intro K hK
  refine region_list ?_
  refine list_pure E rfl rfl (by decide) (rn_move E rfl rfl) ?_; clear E a; intro a E
  refine list_pure E rfl rfl (by decide) (rn_move E rfl rfl) ?_; clear E a; intro a E
  refine list_call E rfl rfl (by decide) rfl Tryd.func12 rfl (by kernel_rfl) rfl (own_ret C1 C2 v1 v2 _ _ hC1 hC2.rd hsm hsm _ (S.hp.sel (sel_cons (by repeat (first | exact pk1 | apply pick_tail)) (sel_cons (by repeat (first | exact pk1 | apply pick_tail)) (sel_nil _))))) ?_
  rintro v39 w ⟨rfl, hT⟩; clear E a; intro a E
  have S := S.call1 (sel_cons (by repeat (first | exact pk1 | apply pick_tail)) (sel_cons (by repeat (first | exact pk1 | apply pick_tail)) (sel_nil _))) hT; rw [decide_eq_true (rfl : lbO l = lbO l)] at E
  refine list_pure E rfl rfl (by decide) (rn_assign E rfl rfl) ?_; clear E a; intro a E
  refine wpList_nil ?_
  refine then_k hK ?_; clear hK; clear K
  refine wp_seq_k ?_; intro K hK
  refine region_list ?_
  refine list_pure E rfl rfl (by decide) (rn_load_blk (vs := [_, _, _, _]) E rfl rfl rfl (S.get (by repeat (first | exact pk1 | apply pick_tail))) rfl rfl) ?_; clear E a; intro a E
  refine list_pure E rfl rfl (by decide) (rn_load_blk (vs := [_, _, _, _]) E rfl rfl rfl (S.get (by repeat (first | exact pk1 | apply pick_tail))) rfl rfl) ?_; clear E a; intro a E
  refine list_call E rfl rfl (by decide) rfl Tryd.func17 rfl (by kernel_rfl) rfl (samelb_ret O C19 _ _ l l hO hR2 (by omega) _ (S.hp.sel (sel_cons (by repeat (first | exact pk1 | apply pick_tail)) (sel_cons (by repeat (first | exact pk1 | apply pick_tail)) (sel_nil _))))) ?_
  rintro v42 w ⟨rfl, hT⟩; clear E a; intro a E
  have S := S.call2 (sel_cons (by repeat (first | exact pk1 | apply pick_tail)) (sel_cons (by repeat (first | exact pk1 | apply pick_tail)) (sel_nil _))) hT; rw [decide_eq_true (rfl : l = l)] at E
  refine list_pure E rfl rfl (by decide) (rn_assign E rfl rfl) ?_; clear E a; intro a E
  refine wpList_nil ?_
  refine then_k hK ?_; clear hK; clear K
  refine wp_seq_k ?_; intro K hK
  refine region_mix0 S (.ofL [(0, 0), (1, 0), (2, 0), (3, 0), (4, 0), (5, 0), (6, 0), (7, 0), (8, 0), (9, 0), (10, 0), (11, 0), (12, 0), (13, 0), (14, 0), (15, 0), (16, 0), (17, 0), (18, 0), (19, 0), (20, 0), (21, 0), (22, 0), (23, 0), (25, 0), (24, 1), (26, 3), (27, 2), (28, 2), (29, 2)]) (by kernel_rfl) (by kernel_rfl) ?_
  clear S; intro w S
  refine mix_pure E rfl rfl rfl (by decide) (fun w h => rn_move E rfl rfl) ?_; clear E a; intro a E
  refine mix_pure E rfl rfl rfl (by decide) (fun w h => rn_move E rfl rfl) ?_; clear E a; intro a E
  refine guard_true E (t := 44) rfl (rfl) (fun hb44 => ?_)
  refine mix_guard_yes E rfl rfl rfl rfl rfl hb44 rfl (by decide) (fun w h => rn_move E rfl rfl) ?_; clear E a; intro a E
  refine mix_pure E rfl rfl rfl (by decide) (fun w h => rn_pick_yes' E rfl rfl hb44 rfl) ?_; clear E a; intro a E
  refine mix_pure E rfl rfl rfl (by decide) (fun w h => rn_move E rfl rfl) ?_; clear E a; intro a E
  refine guard_true E (t := 47) rfl (rfl) (fun hb47 => ?_)
  refine mix_guard_yes E rfl rfl rfl rfl rfl hb47 rfl (by decide) (fun w h => rn_move E rfl rfl) ?_; clear E a; intro a E
  refine mix_pure E rfl rfl rfl (by decide) (fun w h => rn_pick_yes' E rfl rfl hb47 rfl) ?_; clear E a; intro a E
  refine mix_pure E rfl rfl rfl (by decide) (fun w h => rn_move E rfl rfl) ?_; clear E a; intro a E
  refine guard_true E (t := 50) rfl (rfl) (fun hb50 => ?_)
  refine mix_guard_yes E rfl rfl rfl rfl rfl hb50 rfl (by decide) (fun w h => rn_move E rfl rfl) ?_; clear E a; intro a E
  refine mix_guard_yes E rfl rfl rfl rfl rfl hb50 rfl (by decide) (fun w h => by first | exact rn_fieldAddr0 (q := 1) E rfl rfl rfl | exact rn_fieldAddr (q := 1) E rfl rfl rfl) ?_; clear E a; intro a E
  refine mix_guard_yes E rfl rfl rfl rfl rfl hb50 rfl (by decide) (fun w h => by first | exact rn_load E rfl rfl rfl (h.one (by repeat (first | exact mm1 | apply List.Mem.tail))) rfl | exact rn_loadc E rfl rfl rfl (by assumption)) ?_; clear E a; intro a E
  refine mix_guard_yes E rfl rfl rfl rfl rfl hb50 rfl (by decide) (fun w h => by first | exact rn_len E rfl rfl rfl | exact rn_len_str E rfl rfl rfl | exact rn_len_string E rfl rfl rfl) ?_; clear E a; intro a E
  refine mix_guard_yes E rfl rfl rfl rfl rfl hb50 rfl (by decide) (fun w h => rn_indexAddr (i := l.tops.length) E rfl rfl rfl rfl rfl rfl (by omega)) ?_; clear E a; intro a E
  refine mix_guard_yes E rfl rfl rfl rfl rfl hb50 rfl (by decide) (fun w h => by first | exact rn_fieldAddr0 (q := 0) E rfl rfl rfl | exact rn_fieldAddr (q := 0) E rfl rfl rfl) ?_; clear E a; intro a E
  refine mix_guard_yes E rfl rfl rfl rfl rfl hb50 rfl (by decide) (fun w h => rn_loadc E rfl rfl rfl (hB19.rd.elem (lay := Tp.lay) Tp.lay_len (h.at (by repeat (first | exact mm1 | apply List.Mem.tail))) (i := l.tops.length) (by simp) 0 (.int .i64 (-7)) (by simp [Tp.lay, Tp7]))) ?_; clear E a; intro a E
  refine mix_guard_yes E rfl rfl rfl rfl rfl hb50 rfl (by decide) (fun w h => by first | exact rn_eql E rfl rfl rfl | exact rn_eql_ptr_nil E rfl rfl rfl rfl | exact rn_eql_bool E rfl rfl rfl rfl | exact rn_eql_string E rfl rfl rfl) ?_; clear E a; intro a E
  refine mix_pure E rfl rfl rfl (by decide) (fun w h => rn_pick_yes' E rfl rfl hb50 rfl) ?_; clear E a; intro a E
  refine mix_pure E rfl rfl rfl (by decide) (fun w h => rn_move E rfl rfl) ?_; clear E a; intro a E
  refine guard_true E (t := 60) rfl (rfl) (fun hb60 => ?_)
  refine mix_guard_yes E rfl rfl rfl rfl rfl hb60 rfl (by decide) (fun w h => rn_move E rfl rfl) ?_; clear E a; intro a E
  refine mix_guard_yes E rfl rfl rfl rfl rfl hb60 rfl (by decide) (fun w h => rn_move E rfl rfl) ?_; clear E a; intro a E
  refine mix_guard_yes E rfl rfl rfl rfl rfl hb60 rfl (by decide) (fun w h => by first | exact rn_eql E rfl rfl rfl | exact rn_eql_ptr_nil E rfl rfl rfl rfl | exact rn_eql_bool E rfl rfl rfl rfl | exact rn_eql_string E rfl rfl rfl) ?_; clear E a; intro a E
  refine mix_pure E rfl rfl rfl (by decide) (fun w h => rn_pick_yes' E rfl rfl hb60 rfl) ?_; clear E a; intro a E
  refine mix_pure E rfl rfl rfl (by decide) (fun w h => rn_move E rfl rfl) ?_; clear E a; intro a E
  refine guard_true E (t := 65) rfl ((by simp)) (fun hb65 => ?_)
  refine mix_guard_yes E rfl rfl rfl rfl rfl hb65 rfl (by decide) (fun w h => rn_load_blk (vs := [_, _, _, _]) E rfl rfl rfl (h.one (by repeat (first | exact mm1 | apply List.Mem.tail))) rfl rfl) ?_; clear E a; intro a E
  refine mix_guard_yes E rfl rfl rfl rfl rfl hb65 rfl (by decide) (fun w h => rn_load_blk (vs := [_, _, _, _]) E rfl rfl rfl (h.one (by repeat (first | exact mm1 | apply List.Mem.tail))) rfl rfl) ?_; clear E a; intro a E
  refine mix_guard_act E rfl rfl rfl rfl rfl hb65 ?_; refine wp_call' E rfl (by decide) rfl Tryd.func18 rfl (by kernel_rfl) rfl (lbcheck_ret C19 _ l hR2 _ (S.hp.sel (sel_cons (by repeat (first | exact pk1 | apply pick_tail)) (sel_nil _)))) ?_
  rintro v67 w ⟨rfl, hT⟩; clear E a; intro a E
  have S := S.call1 (sel_cons (by repeat (first | exact pk1 | apply pick_tail)) (sel_nil _)) hT; rw [← hz] at E
  refine ⟨S.stab.sub (by first | (simp; done) | (simp +contextual; done)), ?_⟩
  refine mix_guard_last E rfl rfl rfl rfl rfl hb65 ?_; refine wp_call' E rfl (by decide) rfl Tryd.func19 rfl (by kernel_rfl) rfl (dlbcheck_ret O _ l hO _ (S.hp.sel (sel_cons (by repeat (first | exact pk1 | apply pick_tail)) (sel_nil _)))) ?_
  rintro v69 w ⟨rfl, hT⟩; clear E a; intro a E
  have S := S.call1 (sel_cons (by repeat (first | exact pk1 | apply pick_tail)) (sel_nil _)) hT; rw [← hz] at E
  refine mix_guard_free E rfl rfl rfl rfl rfl hb65 rfl (by decide) (fun w => by first | exact rn_eql E rfl rfl rfl | exact rn_eql_ptr_nil E rfl rfl rfl rfl | exact rn_eql_bool E rfl rfl rfl rfl | exact rn_eql_string E rfl rfl rfl) ?_; clear E a; intro a E
  refine mix_free E rfl rfl rfl (by decide) (fun w => rn_pick_yes' E rfl rfl hb65 rfl) ?_; clear E a; intro a E
  refine mix_free E rfl rfl rfl (by decide) (fun w => rn_assign E rfl rfl) ?_; clear E a; intro a E
  refine mix_nil ?_
  refine then_k hK ?_; clear hK; clear K
  refine wp_ret ?_
  refine ret1 E rfl rfl ?_
  exact ⟨_, rfl, by simp, (S.only (Bs := [O]) (sel_cons (by repeat (first | exact pk1 | apply pick_tail)) (sel_nil _))).tr⟩

theorem reads_walk (O : Chunk) (v : Value) (b : List UInt8) (hO : Rd O 1 v b.length (byt b)) (hbl : b.length ≤ 140737488351232) (hcap : ∃ ad c, v = .slice ad b.length c ∧ b.length ≤ c) (w0 : World) (H : Hp w0 [O]) :
    Ret Tryd.prog 6 #[v] w0 fun u w' => u = .bool true ∧ Trs w0 w' [O] [O] := by
  have S := (St.begin H).addNil
  obtain ⟨z1, hz1⟩ : ∃ z, z = ptdecE b := ⟨_, rfl⟩
  obtain ⟨z2, hz2⟩ : ∃ z, z = lbdecE b := ⟨_, rfl⟩
  obtain ⟨z3, hz3⟩ : ∃ z, z = ubdecE b := ⟨_, rfl⟩
  obtain ⟨p1, hp1⟩ : ∃ z, z = ptdec b := ⟨_, rfl⟩
  obtain ⟨p2, hp2⟩ : ∃ z, z = lbdec b := ⟨_, rfl⟩
  obtain ⟨p3, hp3⟩ : ∃ z, z = ubdec b := ⟨_, rfl⟩
  have hl2 : p2.tops.length ≤ 140737488355328 := by
    rw [hp2]; unfold lbdec; split
    · rename_i h; have := lbdecE_tops h; omega
    · decide
  refine enter1 90 Tryd.func6 rfl rfl (by decide) ?_; intro a E
  refine wp_seq_k ?_; intro K hK
  refine region_list ?_
  refine list_pure E rfl rfl (by decide) (rn_assign E rfl rfl) ?_; clear E a; intro a E
  refine wpList_nil ?_
  refine then_k hK ?_; clear hK; clear K
  refine wp_seq_k ?_; intro K hK
  refine region_list ?_
  refine list_call E rfl rfl (by decide) rfl Tryd.func9 rfl (by kernel_rfl) rfl (awake_ret _) ?_
  rintro v18 w ⟨rfl, hT⟩; clear E a; intro a E
  have S := S.quiet hT
  refine list_pure E rfl rfl (by decide) (rn_assign E rfl rfl) ?_; clear E a; intro a E
  refine wpList_nil ?_
  refine then_k hK ?_; clear hK; clear K
  refine wp_seq_k ?_; intro K hK
  refine region_list ?_
  refine list_pure E rfl rfl (by decide) (rn_move E rfl rfl) ?_; clear E a; intro a E
  refine list_wp rfl (wp_append (by' := 1) E S rfl rfl (by decide) rfl rfl (Buf.nil _ _) (by repeat (first | exact pk1 | apply pick_tail)) (hO.src (S.stab.at (by repeat (first | exact mm1 | apply List.Mem.tail))) rfl) rfl rfl rfl rfl rfl rfl (by simp only [maxLen]; omega) (by omega) ?_); clear E S a; intro a w v20 C20 E S hB20
  simp only [Nat.zero_add, List.nil_append] at hB20
  refine list_pure E rfl rfl (by decide) (rn_assign E rfl rfl) ?_; clear E a; intro a E
  refine wpList_nil ?_
  refine then_k hK ?_; clear hK; clear K
  refine wp_seq_k ?_; intro K hK
  refine region_list ?_
  refine list_pure E rfl rfl (by decide) (rn_move E rfl rfl) ?_; clear E a; intro a E
  refine list_call E rfl rfl (by decide) rfl Tryd.func24 rfl (by kernel_rfl) rfl (ptdecode_ret C20 v20 b hB20.rd _ (S.hp.sel (sel_cons (by repeat (first | exact pk1 | apply pick_tail)) (sel_nil _)))) ?_
  rintro v23 w ⟨rfl, hT⟩; clear E a; intro a E
  have S := S.call1 (sel_cons (by repeat (first | exact pk1 | apply pick_tail)) (sel_nil _)) hT; rw [← hz1, ← hp1] at E
  refine list_pure E rfl rfl (by decide) (rn_move E rfl rfl) ?_; clear E a; intro a E
  refine list_pure E rfl rfl (by decide) (rn_extract E rfl rfl rfl) ?_; clear E a; intro a E
  refine list_pure E rfl rfl (by decide) (rn_extract E rfl rfl rfl) ?_; clear E a; intro a E
  refine list_wp rfl (wp_alloc E S rfl rfl (by decide) rfl rfl rfl ?_); clear E S a; intro a w b5 E S
  refine list_wp rfl (wp_storeN E S rfl rfl rfl rfl (by simp [Value.oneCell']) rfl (by repeat (first | exact pk1 | apply pick_tail)) (by simp) ?_); clear E S a; intro a w E S; simp only [List.take_succ_cons, List.take_zero, List.drop_succ_cons, List.drop_zero, List.cons_append, List.nil_append, List.append_nil, List.length_cons, List.length_nil, Nat.zero_add, Nat.add_zero] at S
  refine list_pure E rfl rfl (by decide) (rn_assign E rfl rfl) ?_; clear E a; intro a E
  refine wpList_nil ?_
  refine then_k hK ?_; clear hK; clear K
  refine wp_seq_k ?_; intro K hK
  refine region_list ?_
  refine list_pure E rfl rfl (by decide) (rn_move E rfl rfl) ?_; clear E a; intro a E
  refine list_call E rfl rfl (by decide) rfl Tryd.func25 rfl (by kernel_rfl) rfl (dptdecode_ret O v b hO (by omega) _ (S.hp.sel (sel_cons (by repeat (first | exact pk1 | apply pick_tail)) (sel_nil _)))) ?_
  rintro v28 w ⟨rfl, hT⟩; clear E a; intro a E
  have S := S.call1 (sel_cons (by repeat (first | exact pk1 | apply pick_tail)) (sel_nil _)) hT; rw [← hz1, ← hp1] at E
  refine list_pure E rfl rfl (by decide) (rn_move E rfl rfl) ?_; clear E a; intro a E
  refine list_pure E rfl rfl (by decide) (rn_extract E rfl rfl rfl) ?_; clear E a; intro a E
  refine list_pure E rfl rfl (by decide) (rn_extract E rfl rfl rfl) ?_; clear E a; intro a E
  refine list_wp rfl (wp_alloc E S rfl rfl (by decide) rfl rfl rfl ?_); clear E S a; intro a w b7 E S
  refine list_wp rfl (wp_storeN E S rfl rfl rfl rfl (by simp [Value.oneCell']) rfl (by repeat (first | exact pk1 | apply pick_tail)) (by simp) ?_); clear E S a; intro a w E S; simp only [List.take_succ_cons, List.take_zero, List.drop_succ_cons, List.drop_zero, List.cons_append, List.nil_append, List.append_nil, List.length_cons, List.length_nil, Nat.zero_add, Nat.add_zero] at S
  refine list_pure E rfl rfl (by decide) (rn_assign E rfl rfl) ?_; clear E a; intro a E
  refine wpList_nil ?_
  refine then_k hK ?_; clear hK; clear K
  refine wp_seq_k ?_; intro K hK
  refine region_list ?_
  refine list_pure E rfl rfl (by decide) (rn_move E rfl rfl) ?_; clear E a; intro a E
  refine list_call E rfl rfl (by decide) rfl Tryd.func26 rfl (by kernel_rfl) rfl (lbdecode_ret C20 v20 b hB20.rd (buf_hcap hB20) _ (S.hp.sel (sel_cons (by repeat (first | exact pk1 | apply pick_tail)) (sel_nil _)))) ?_
  rintro v33 w ⟨vm, M, rfl, hM, hT⟩; clear E a; intro a E
  have S := S.call2 (sel_cons (by repeat (first | exact pk1 | apply pick_tail)) (sel_nil _)) hT; rw [← hz2, ← hp2] at E; rw [← hp2] at hM; obtain ⟨adm, cm, rfl⟩ := hM.slice
  refine list_pure E rfl rfl (by decide) (rn_move E rfl rfl) ?_; clear E a; intro a E
  refine list_pure E rfl rfl (by decide) (rn_extract E rfl rfl rfl) ?_; clear E a; intro a E
  refine list_pure E rfl rfl (by decide) (rn_extract E rfl rfl rfl) ?_; clear E a; intro a E
  refine list_wp rfl (wp_alloc E S rfl rfl (by decide) rfl rfl rfl ?_); clear E S a; intro a w b9 E S
  refine list_wp rfl (wp_storeN E S rfl rfl rfl rfl (by simp [Value.oneCell']) rfl (by repeat (first | exact pk1 | apply pick_tail)) (by simp) ?_); clear E S a; intro a w E S; simp only [List.take_succ_cons, List.take_zero, List.drop_succ_cons, List.drop_zero, List.cons_append, List.nil_append, List.append_nil, List.length_cons, List.length_nil, Nat.zero_add, Nat.add_zero] at S
  refine list_pure E rfl rfl (by decide) (rn_assign E rfl rfl) ?_; clear E a; intro a E
  refine wpList_nil ?_
  refine then_k hK ?_; clear hK; clear K
  refine wp_seq_k ?_; intro K hK
  replace E := E.keep (e' := [(0, _), (2, _), (3, _), (4, _), (5, _), (6, _), (7, _), (8, _), (9, _), (10, _)]) (keep_cons rfl (keep_cons rfl (keep_cons rfl (keep_cons rfl (keep_cons rfl (keep_cons rfl (keep_cons rfl (keep_cons rfl (keep_cons rfl (keep_cons rfl (keep_nil)))))))))))
  refine region_list ?_
  refine list_pure E rfl rfl (by decide) (rn_move E rfl rfl) ?_; clear E a; intro a E
  refine list_call E rfl rfl (by decide) rfl Tryd.func27 rfl (by kernel_rfl) rfl (dlbdecode_ret O v b hO (by omega) hcap _ (S.hp.sel (sel_cons (by repeat (first | exact pk1 | apply pick_tail)) (sel_nil _)))) ?_
  rintro v38 w ⟨vn, N, rfl, hN, hT⟩; clear E a; intro a E
  have S := S.call2 (sel_cons (by repeat (first | exact pk1 | apply pick_tail)) (sel_nil _)) hT; rw [← hz2, ← hp2] at E; rw [← hp2] at hN; obtain ⟨adn, cn, rfl⟩ := hN.slice
  refine list_pure E rfl rfl (by decide) (rn_move E rfl rfl) ?_; clear E a; intro a E
  refine list_pure E rfl rfl (by decide) (rn_extract E rfl rfl rfl) ?_; clear E a; intro a E
  refine list_pure E rfl rfl (by decide) (rn_extract E rfl rfl rfl) ?_; clear E a; intro a E
  refine list_wp rfl (wp_alloc E S rfl rfl (by decide) rfl rfl rfl ?_); clear E S a; intro a w b11 E S
  refine list_wp rfl (wp_storeN E S rfl rfl rfl rfl (by simp [Value.oneCell']) rfl (by repeat (first | exact pk1 | apply pick_tail)) (by simp) ?_); clear E S a; intro a w E S; simp only [List.take_succ_cons, List.take_zero, List.drop_succ_cons, List.drop_zero, List.cons_append, List.nil_append, List.append_nil, List.length_cons, List.length_nil, Nat.zero_add, Nat.add_zero] at S
  refine list_pure E rfl rfl (by decide) (rn_assign E rfl rfl) ?_; clear E a; intro a E
  refine wpList_nil ?_
  refine then_k hK ?_; clear hK; clear K
  refine wp_seq_k ?_; intro K hK
  refine region_list ?_
  refine list_pure E rfl rfl (by decide) (rn_move E rfl rfl) ?_; clear E a; intro a E
  refine list_call E rfl rfl (by decide) rfl Tryd.func28 rfl (by kernel_rfl) rfl (ubdecode_ret C20 v20 b hB20.rd (buf_hcap hB20) _ (S.hp.sel (sel_cons (by repeat (first | exact pk1 | apply pick_tail)) (sel_nil _)))) ?_
  rintro v43 w ⟨rfl, hT⟩; clear E a; intro a E
  have S := S.call1 (sel_cons (by repeat (first | exact pk1 | apply pick_tail)) (sel_nil _)) hT; rw [← hz3, ← hp3] at E
  refine list_pure E rfl rfl (by decide) (rn_move E rfl rfl) ?_; clear E a; intro a E
  refine list_pure E rfl rfl (by decide) (rn_extract E rfl rfl rfl) ?_; clear E a; intro a E
  refine list_pure E rfl rfl (by decide) (rn_extract E rfl rfl rfl) ?_; clear E a; intro a E
  refine list_wp rfl (wp_alloc E S rfl rfl (by decide) rfl rfl rfl ?_); clear E S a; intro a w b13 E S
  refine list_wp rfl (wp_storeN E S rfl rfl rfl rfl (by simp [Value.oneCell']) rfl (by repeat (first | exact pk1 | apply pick_tail)) (by simp) ?_); clear E S a; intro a w E S; simp only [List.take_succ_cons, List.take_zero, List.drop_succ_cons, List.drop_zero, List.cons_append, List.nil_append, List.append_nil, List.length_cons, List.length_nil, Nat.zero_add, Nat.add_zero] at S
  refine list_pure E rfl rfl (by decide) (rn_assign E rfl rfl) ?_; clear E a; intro a E
  refine wpList_nil ?_
  refine then_k hK ?_; clear hK; clear K
  refine wp_seq_k ?_; intro K hK
  replace E := E.keep (e' := [(0, _), (2, _), (3, _), (4, _), (5, _), (6, _), (7, _), (8, _), (9, _), (10, _), (11, _), (12, _), (13, _), (14, _)]) (keep_cons rfl (keep_cons rfl (keep_cons rfl (keep_cons rfl (keep_cons rfl (keep_cons rfl (keep_cons rfl (keep_cons rfl (keep_cons rfl (keep_cons rfl (keep_cons rfl (keep_cons rfl (keep_cons rfl (keep_cons rfl (keep_nil)))))))))))))))
  refine region_list ?_
  refine list_pure E rfl rfl (by decide) (rn_move E rfl rfl) ?_; clear E a; intro a E
  refine list_call E rfl rfl (by decide) rfl Tryd.func29 rfl (by kernel_rfl) rfl (dubdecode_ret O v b hO hcap _ (S.hp.sel (sel_cons (by repeat (first | exact pk1 | apply pick_tail)) (sel_nil _)))) ?_
  rintro v48 w ⟨rfl, hT⟩; clear E a; intro a E
  have S := S.call1 (sel_cons (by repeat (first | exact pk1 | apply pick_tail)) (sel_nil _)) hT; rw [← hz3, ← hp3] at E
  refine list_pure E rfl rfl (by decide) (rn_move E rfl rfl) ?_; clear E a; intro a E
  refine list_pure E rfl rfl (by decide) (rn_extract E rfl rfl rfl) ?_; clear E a; intro a E
  refine list_pure E rfl rfl (by decide) (rn_extract E rfl rfl rfl) ?_; clear E a; intro a E
  refine list_wp rfl (wp_alloc E S rfl rfl (by decide) rfl rfl rfl ?_); clear E S a; intro a w b15 E S
  refine list_wp rfl (wp_storeN E S rfl rfl rfl rfl (by simp [Value.oneCell']) rfl (by repeat (first | exact pk1 | apply pick_tail)) (by simp) ?_); clear E S a; intro a w E S; simp only [List.take_succ_cons, List.take_zero, List.drop_succ_cons, List.drop_zero, List.cons_append, List.nil_append, List.append_nil, List.length_cons, List.length_nil, Nat.zero_add, Nat.add_zero] at S
  refine list_pure E rfl rfl (by decide) (rn_assign E rfl rfl) ?_; clear E a; intro a E
  refine wpList_nil ?_
  refine then_k hK ?_; clear hK; clear K
  refine wp_seq_k ?_; intro K hK
  refine region_list ?_
  refine list_pure E rfl rfl (by decide) (rn_load_blk (vs := [_, _, _, _]) E rfl rfl rfl (S.get (by repeat (first | exact pk1 | apply pick_tail))) rfl rfl) ?_; clear E a; intro a E
  refine list_pure E rfl rfl (by decide) (rn_load_blk (vs := [_, _, _, _]) E rfl rfl rfl (S.get (by repeat (first | exact pk1 | apply pick_tail))) rfl rfl) ?_; clear E a; intro a E
  refine list_call E rfl rfl (by decide) rfl Tryd.func17 rfl (by kernel_rfl) rfl (samelb_ret M N _ _ p2 p2 hM.rd hN.rd hl2 _ (S.hp.sel (sel_cons (by repeat (first | exact pk1 | apply pick_tail)) (sel_cons (by repeat (first | exact pk1 | apply pick_tail)) (sel_nil _))))) ?_
  rintro v53 w ⟨rfl, hT⟩; clear E a; intro a E
  have S := S.call2 (sel_cons (by repeat (first | exact pk1 | apply pick_tail)) (sel_cons (by repeat (first | exact pk1 | apply pick_tail)) (sel_nil _))) hT; rw [decide_eq_true (rfl : p2 = p2)] at E
  refine list_pure E rfl rfl (by decide) (rn_assign E rfl rfl) ?_; clear E a; intro a E
  refine wpList_nil ?_
  refine then_k hK ?_; clear hK; clear K
  refine wp_seq_k ?_; intro K hK
  replace E := E.keep (e' := [(0, _), (2, _), (3, _), (4, _), (5, _), (6, _), (7, _), (8, _), (10, _), (12, _), (13, _), (14, _), (15, _), (16, _), (17, _)]) (keep_cons rfl (keep_cons rfl (keep_cons rfl (keep_cons rfl (keep_cons rfl (keep_cons rfl (keep_cons rfl (keep_cons rfl (keep_cons rfl (keep_cons rfl (keep_cons rfl (keep_cons rfl (keep_cons rfl (keep_cons rfl (keep_cons rfl (keep_nil))))))))))))))))
  refine region_list ?_
  refine list_pure E rfl rfl (by decide) (rn_move E rfl rfl) ?_; clear E a; intro a E
  refine list_pure E rfl rfl (by decide) (rn_move E rfl rfl) ?_; clear E a; intro a E
  refine guard_true E (t := 55) rfl (rfl) (fun hb55 => ?_)
  refine list_guard_yes E rfl rfl rfl rfl hb55 rfl (by decide) (rn_move E rfl rfl) ?_; clear E a; intro a E
  refine list_pure E rfl rfl (by decide) (rn_pick_yes' E rfl rfl hb55 rfl) ?_; clear E a; intro a E
  refine list_pure E rfl rfl (by decide) (rn_move E rfl rfl) ?_; clear E a; intro a E
  refine guard_true E (t := 58) rfl (rfl) (fun hb58 => ?_)
  refine list_guard_yes E rfl rfl rfl rfl hb58 rfl (by decide) (rn_load_blk (vs := [_, _, _, _, _, _, _, _, _]) E rfl rfl rfl (S.get (by repeat (first | exact pk1 | apply pick_tail))) rfl rfl) ?_; clear E a; intro a E
  refine list_guard_yes E rfl rfl rfl rfl hb58 rfl (by decide) (rn_load_blk (vs := [_, _, _, _, _, _, _, _, _]) E rfl rfl rfl (S.get (by repeat (first | exact pk1 | apply pick_tail))) rfl rfl) ?_; clear E a; intro a E
  refine list_guard_yes E rfl rfl rfl rfl hb58 rfl (by decide) (by first | exact rn_eql_pair E rfl rfl rfl rfl (by kernel_rfl) (by kernel_rfl) rfl rfl rfl | exact rn_eql_cells E rfl rfl rfl rfl (by kernel_rfl) (by kernel_rfl) rfl) ?_; clear E a; intro a E
  refine list_pure E rfl rfl (by decide) (rn_pick_yes' E rfl rfl hb58 rfl) ?_; clear E a; intro a E
  refine list_pure E rfl rfl (by decide) (rn_move E rfl rfl) ?_; clear E a; intro a E
  refine guard_true E (t := 63) rfl ((by simp)) (fun hb63 => ?_)
  refine list_guard_yes E rfl rfl rfl rfl hb63 rfl (by decide) (rn_load_blk (vs := [_, _, _, _, _, _, _, _, _, _, _, _]) E rfl rfl rfl (S.get (by repeat (first | exact pk1 | apply pick_tail))) rfl rfl) ?_; clear E a; intro a E
  refine list_guard_yes E rfl rfl rfl rfl hb63 rfl (by decide) (rn_load_blk (vs := [_, _, _, _, _, _, _, _, _, _, _, _]) E rfl rfl rfl (S.get (by repeat (first | exact pk1 | apply pick_tail))) rfl rfl) ?_; clear E a; intro a E
  refine list_guard_yes E rfl rfl rfl rfl hb63 rfl (by decide) (by first | exact rn_eql_pair E rfl rfl rfl rfl (by kernel_rfl) (by kernel_rfl) rfl rfl rfl | exact rn_eql_cells E rfl rfl rfl rfl (by kernel_rfl) (by kernel_rfl) rfl) ?_; clear E a; intro a E
  refine list_pure E rfl rfl (by decide) (rn_pick_yes' E rfl rfl hb63 rfl) ?_; clear E a; intro a E
  refine list_pure E rfl rfl (by decide) (rn_move E rfl rfl) ?_; clear E a; intro a E
  refine guard_true E (t := 68) rfl ((by simp)) (fun hb68 => ?_)
  refine list_guard_yes E rfl rfl rfl rfl hb68 rfl (by decide) (rn_move E rfl rfl) ?_; clear E a; intro a E
  refine list_guard_yes E rfl rfl rfl rfl hb68 rfl (by decide) (rn_move E rfl rfl) ?_; clear E a; intro a E
  refine list_guard_yes E rfl rfl rfl rfl hb68 rfl (by decide) (by first | exact rn_eql E rfl rfl rfl | exact rn_eql_ptr_nil E rfl rfl rfl rfl | exact rn_eql_bool E rfl rfl rfl rfl | exact rn_eql_string E rfl rfl rfl) ?_; clear E a; intro a E
  refine list_pure E rfl rfl (by decide) (rn_pick_yes' E rfl rfl hb68 rfl) ?_; clear E a; intro a E
  refine list_pure E rfl rfl (by decide) (rn_move E rfl rfl) ?_; clear E a; intro a E
  refine guard_true E (t := 73) rfl ((by simp)) (fun hb73 => ?_)
  refine list_guard_yes E rfl rfl rfl rfl hb73 rfl (by decide) (rn_move E rfl rfl) ?_; clear E a; intro a E
  refine list_guard_yes E rfl rfl rfl rfl hb73 rfl (by decide) (rn_move E rfl rfl) ?_; clear E a; intro a E
  refine list_guard_yes E rfl rfl rfl rfl hb73 rfl (by decide) (by first | exact rn_eql E rfl rfl rfl | exact rn_eql_ptr_nil E rfl rfl rfl rfl | exact rn_eql_bool E rfl rfl rfl rfl | exact rn_eql_string E rfl rfl rfl) ?_; clear E a; intro a E
  refine list_pure E rfl rfl (by decide) (rn_pick_yes' E rfl rfl hb73 rfl) ?_; clear E a; intro a E
  refine list_pure E rfl rfl (by decide) (rn_move E rfl rfl) ?_; clear E a; intro a E
  refine guard_true E (t := 78) rfl ((by simp)) (fun hb78 => ?_)
  refine list_guard_yes E rfl rfl rfl rfl hb78 rfl (by decide) (rn_move E rfl rfl) ?_; clear E a; intro a E
  refine list_guard_yes E rfl rfl rfl rfl hb78 rfl (by decide) (rn_move E rfl rfl) ?_; clear E a; intro a E
  refine list_guard_yes E rfl rfl rfl rfl hb78 rfl (by decide) (by first | exact rn_eql E rfl rfl rfl | exact rn_eql_ptr_nil E rfl rfl rfl rfl | exact rn_eql_bool E rfl rfl rfl rfl | exact rn_eql_string E rfl rfl rfl) ?_; clear E a; intro a E
  refine list_pure E rfl rfl (by decide) (rn_pick_yes' E rfl rfl hb78 rfl) ?_; clear E a; intro a E
  refine list_pure E rfl rfl (by decide) (rn_move E rfl rfl) ?_; clear E a; intro a E
  refine guard_true E (t := 83) rfl ((by simp)) (fun hb83 => ?_)
  refine list_guard_yes E rfl rfl rfl rfl hb83 rfl (by decide) (rn_move E rfl rfl) ?_; clear E a; intro a E
  refine list_guard_yes E rfl rfl rfl rfl hb83 rfl (by decide) (rn_string E rfl rfl rfl rfl rfl hB20.rd (S.stab.at (by repeat (first | exact mm1 | apply List.Mem.tail)))) ?_; clear E a; intro a E
  refine list_guard_yes E rfl rfl rfl rfl hb83 rfl (by decide) (rn_move E rfl rfl) ?_; clear E a; intro a E
  refine list_guard_yes E rfl rfl rfl rfl hb83 rfl (by decide) (rn_string E rfl rfl rfl rfl rfl hO (S.stab.at (by repeat (first | exact mm1 | apply List.Mem.tail)))) ?_; clear E a; intro a E
  refine list_guard_yes E rfl rfl rfl rfl hb83 rfl (by decide) (by first | exact rn_eql E rfl rfl rfl | exact rn_eql_ptr_nil E rfl rfl rfl rfl | exact rn_eql_bool E rfl rfl rfl rfl | exact rn_eql_string E rfl rfl rfl) ?_; clear E a; intro a E
  refine list_pure E rfl rfl (by decide) (rn_pick_yes' E rfl rfl hb83 rfl) ?_; clear E a; intro a E
  refine list_pure E rfl rfl (by decide) (rn_assign E rfl rfl) ?_; clear E a; intro a E
  refine wpList_nil ?_
  refine then_k hK ?_; clear hK; clear K
  refine wp_ret ?_
  refine ret1 E rfl rfl ?_
  exact ⟨_, rfl, by simp, (S.only (Bs := [O]) (sel_cons (by repeat (first | exact pk1 | apply pick_tail)) (sel_nil _))).tr⟩
end Go.Proofs.YtmghbcaookahaaaDoor
