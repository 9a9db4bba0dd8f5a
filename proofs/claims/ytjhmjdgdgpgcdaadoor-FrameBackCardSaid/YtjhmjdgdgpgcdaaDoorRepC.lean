/-
  FrameBack.
-/
import Derived.Test.YtjhmjdgdgpgcdaaDoorRepB
import Derived.Test.YtjhmjdgdgpgcdaaDoorRepV
namespace Go.Proofs.YtjhmjdgdgpgcdaaDoor
open Go.Sl
set_option maxRecDepth 10000

theorem rqE_may {q : Rq} (h : rqE q = 0) : q.may := Decidable.byContradiction fun hn => by rw [rqE_no hn] at h; omega
theorem rpE_may {r : Rp} (h : rpE r = 0) : r.may := Decidable.byContradiction fun hn => by rw [rpE_no hn] at h; omega

theorem backLaw_ret (q : Rq) (Oq : Chunk) (vq : Value) (hOq : Rd Oq 1 vq q.data.length (byt q.data)) (r : Rp) (L O : Chunk) (vl vr : Value) (hL : Rd L 1 vl r.list.length (sts r.list)) (hll : r.list.length ≤ 140737488355328) (hO : Rd O 1 vr r.data.length (byt r.data))
    (D : Chunk) (v : Value) (b : List UInt8) (hD : Rd D 1 v b.length (byt b)) (hcap : ∃ ad c, v = .slice ad b.length c ∧ b.length ≤ c) (As : List Chunk) (hQA : Oq ∈ As) (hLA : L ∈ As) (hOA : O ∈ As) (hDA : D ∈ As) (hG : Tab As 2 shaK) (w0 : World) (H : Hp w0 As) :
    Ret Tryd.prog 8 #[rqagg q vq, rpagg r vl vr, v] w0 fun u w' => u = .bool true ∧ Trs w0 w' As As := by
  have S := St.begin H
  have hcap0 := hcap
  have hOq0 := hOq
  have hL0 := hL
  have hO0 := hO
  obtain ⟨adq, cq, rfl⟩ := hOq.slice
  obtain ⟨adl, cl, rfl⟩ := hL.slice
  obtain ⟨adr, cr, rfl⟩ := hO.slice
  obtain ⟨adb, cb, rfl, hcb⟩ := hcap
  refine enter3 112 Tryd.func8 rfl rfl (by decide) ?_; intro a E
  refine wp_seq_k ?_; intro K hK
  refine region_list ?_
  refine list_wp rfl (wp_box E S rfl rfl (by decide) rfl rfl ?_); clear E S a; intro a w b3 E S
  refine list_wp rfl (wp_box E S rfl rfl (by decide) rfl rfl ?_); clear E S a; intro a w b4 E S
  refine list_pure E rfl rfl (by decide) (rn_assign E rfl rfl) ?_; clear E a; intro a E
  refine wpList_nil ?_
  refine then_k hK ?_; clear hK; clear K
  refine wp_seq_k ?_; intro K hK
  refine region_list ?_
  refine list_call E rfl rfl (by decide) rfl Tryd.func9 rfl (by kernel_rfl) rfl (awake_ret _ hG.tail.tail _ S.hp) ?_
  rintro v26 w ⟨rfl, hT⟩; clear E a; intro a E
  have S := S.all hT
  refine list_pure E rfl rfl (by decide) (rn_assign E rfl rfl) ?_; clear E a; intro a E
  refine wpList_nil ?_
  refine then_k hK ?_; clear hK; clear K
  refine wp_seq_k ?_; intro K hK
  refine region_list ?_
  refine list_pure E rfl rfl (by decide) (rn_load_blk (vs := [_, _, _, _, _, _, _, _, _, _]) E rfl rfl rfl (S.get (by repeat (first | exact pk1 | apply pick_tail))) rfl rfl) ?_; clear E a; intro a E
  refine list_call E rfl rfl (by decide) rfl Tryd.func10 rfl (by kernel_rfl) rfl (rqencode_ret q Oq _ hOq0 _ (show Oq ∈ _ from (by repeat (first | exact mm1 | assumption | apply List.Mem.tail))) (hG.sub (fun _ h => by repeat (first | exact h | apply List.Mem.tail))) _ S.hp) ?_
  rintro v29 w ⟨x, C, rfl, hC, hT⟩; clear E a; intro a E
  have S := S.all hT
  obtain ⟨adx, cx, rfl⟩ := hC.slice
  have hcx := hC.cap_le
  refine list_pure E rfl rfl (by decide) (rn_move E rfl rfl) ?_; clear E a; intro a E
  refine list_pure E rfl rfl (by decide) (rn_extract E rfl rfl rfl) ?_; clear E a; intro a E
  refine list_pure E rfl rfl (by decide) (rn_extract E rfl rfl rfl) ?_; clear E a; intro a E
  refine list_pure E rfl rfl (by decide) (rn_assign E rfl rfl) ?_; clear E a; intro a E
  refine list_pure E rfl rfl (by decide) (rn_assign E rfl rfl) ?_; clear E a; intro a E
  refine wpList_nil ?_
  refine then_k hK ?_; clear hK; clear K
  refine wp_seq_k ?_; intro K hK
  refine wp_seq_k ?_; intro K hK
  refine region_list ?_
  refine list_pure E rfl rfl (by decide) (rn_move E rfl rfl) ?_; clear E a; intro a E
  refine list_pure E rfl rfl (by decide) (by first | exact rn_eql E rfl rfl rfl | exact rn_eql_ptr_nil E rfl rfl rfl rfl | exact rn_eql_bool E rfl rfl rfl rfl | exact rn_eql_string E rfl rfl rfl) ?_; clear E a; intro a E
  refine wpList_nil ?_
  refine then_k hK ?_; clear hK; clear K
  refine wp_join (fun (a : Act) (w' : World) => ∃ (b3 b4 : Nat), St w0 As w' ([(b4, cel [.int .i64 r.ses, .int .i64 r.id, .int .i64 r.err, .int .i64 r.num, str r.text, .slice adl r.list.length cl, .slice adr r.data.length cr] 50)] :: [(b3, cel [.int .i64 q.ses, .int .i64 q.id, .int .i64 q.verb, str q.name, str q.item, str q.other, str q.path, .int .i64 q.at_, .int .i64 q.many, .slice adq q.data.length cq] 24)] :: As) ∧ Fr a 112 [(2, .slice adb b.length cb), (3, ptr b3), (4, ptr b4), (7, .bool true)]) ?_ ?_
  · skip
    refine if_bool E rfl (fun hb => ?_) (fun hb => ?_)
    · replace hb := Nrm.nrm hb
      have hm := rqE_may hb
      refine wp_seq_k ?_; intro K hK
      refine region_list ?_
      refine list_pure E rfl rfl (by decide) (rn_move E rfl rfl) ?_; clear E a; intro a E
      refine list_call E rfl rfl (by decide) rfl Tryd.func18 rfl (by kernel_rfl) rfl (readrq_ret C _ (rqO q) hC.rd ⟨_, _, rfl, hcx⟩ _ (show C ∈ _ from (by repeat (first | exact mm1 | assumption | apply List.Mem.tail))) (hG.sub (fun _ h => by repeat (first | exact h | apply List.Mem.tail))) _ S.hp) ?_
      rintro v36 w ⟨y, F, rfl, hF, hT⟩; clear E a; intro a E
      have S := S.all hT; rw [rqF_backP hm] at E hF; dsimp only at E hF
      obtain ⟨ady, cy, rfl⟩ := hF.slice
      refine list_pure E rfl rfl (by decide) (rn_move E rfl rfl) ?_; clear E a; intro a E
      refine list_pure E rfl rfl (by decide) (rn_extract E rfl rfl rfl) ?_; clear E a; intro a E
      refine list_pure E rfl rfl (by decide) (rn_extract E rfl rfl rfl) ?_; clear E a; intro a E
      refine list_wp rfl (wp_alloc E S rfl rfl (by decide) rfl rfl rfl ?_); clear E S a; intro a w b10 E S
      refine list_wp rfl (wp_storeN E S rfl rfl rfl rfl (by simp [Value.oneCell']) rfl (by repeat (first | exact pk1 | apply pick_tail)) (by simp) ?_); clear E S a; intro a w E S; simp only [List.take_succ_cons, List.take_zero, List.drop_succ_cons, List.drop_zero, List.cons_append, List.nil_append, List.append_nil, List.length_cons, List.length_nil, Nat.zero_add, Nat.add_zero] at S
      refine list_pure E rfl rfl (by decide) (rn_assign E rfl rfl) ?_; clear E a; intro a E
      refine wpList_nil ?_
      refine then_k hK ?_; clear hK; clear K
      refine wp_seq_k ?_; intro K hK
      replace E := E.keep (e' := [(2, _), (3, _), (4, _), (6, _), (7, _), (10, _), (11, _)]) (keep_cons rfl (keep_cons rfl (keep_cons rfl (keep_cons rfl (keep_cons rfl (keep_cons rfl (keep_cons rfl (keep_nil))))))))
      refine region_list ?_
      refine list_pure E rfl rfl (by decide) (rn_load_blk (vs := [_, _, _, _, _, _, _, _, _, _]) E rfl rfl rfl (S.get (by repeat (first | exact pk1 | apply pick_tail))) rfl rfl) ?_; clear E a; intro a E
      refine list_pure E rfl rfl (by decide) (rn_load_blk (vs := [_, _, _, _, _, _, _, _, _, _]) E rfl rfl rfl (S.get (by repeat (first | exact pk1 | apply pick_tail))) rfl rfl) ?_; clear E a; intro a E
      refine list_call E rfl rfl (by decide) rfl Tryd.func19 rfl (by kernel_rfl) rfl (samerq_ret q q _ _ Oq F hOq0 hF.rd _ (show Oq ∈ _ from (by repeat (first | exact mm1 | assumption | apply List.Mem.tail))) (show F ∈ _ from (by repeat (first | exact mm1 | assumption | apply List.Mem.tail))) _ S.hp) ?_
      rintro v41 w ⟨rfl, hT⟩; clear E a; intro a E
      have S := S.all hT; rw [decide_eq_true (rfl : q = q)] at E
      refine list_pure E rfl rfl (by decide) (rn_assign E rfl rfl) ?_; clear E a; intro a E
      refine wpList_nil ?_
      refine then_k hK ?_; clear hK; clear K
      refine wp_seq_k ?_; intro K hK
      refine region_list ?_
      refine list_pure E rfl rfl (by decide) (rn_move E rfl rfl) ?_; clear E a; intro a E
      refine list_pure E rfl rfl (by decide) (by first | exact rn_neq E rfl rfl rfl | exact rn_neq_ptr_nil E rfl rfl rfl rfl | exact rn_neq_bool E rfl rfl rfl rfl | exact rn_neq_string E rfl rfl rfl) ?_; clear E a; intro a E
      refine list_pure E rfl rfl (by decide) (rn_move E rfl rfl) ?_; clear E a; intro a E
      refine guard_false E (t := 44) rfl (rfl) (fun hb44 => ?_)
      refine list_guard_yes E rfl rfl rfl rfl hb44 rfl (by decide) (rn_move E rfl rfl) ?_; clear E a; intro a E
      refine list_guard_yes E rfl rfl rfl rfl hb44 rfl (by decide) (rn_not E rfl rfl) ?_; clear E a; intro a E
      refine list_pure E rfl rfl (by decide) (rn_pick_no' E rfl rfl hb44 rfl) ?_; clear E a; intro a E
      refine wpList_nil ?_
      refine then_k hK ?_; clear hK; clear K
      refine if_false' E rfl (rfl) ?_
      refine wp_skip ?_
      refine joined_here ?_
      exact ⟨b3, b4, ((S.del (A := C) (by repeat (first | exact pk1 | apply pick_tail))).del (A := F) (by repeat (first | exact pk1 | apply pick_tail))).del (A := [(b10, _)]) (by repeat (first | exact pk1 | apply pick_tail)), E.keep (keep_cons rfl (keep_cons rfl (keep_cons rfl (keep_cons rfl keep_nil))))⟩
    · replace hb := Nrm.nrm hb
      skip
      refine wp_skip ?_
      refine joined_here ?_
      exact ⟨b3, b4, S.del (A := C) (by repeat (first | exact pk1 | apply pick_tail)), E.keep (keep_cons rfl (keep_cons rfl (keep_cons rfl (keep_cons rfl keep_nil))))⟩
  · clear S E a; intro a w J; obtain ⟨b3, b4, S, E⟩ := J
    refine then_k hK ?_; clear hK; clear K
    refine wp_seq_k ?_; intro K hK
    refine region_list ?_
    refine list_pure E rfl rfl (by decide) (rn_load_blk (vs := [_, _, _, _, _, _, _]) E rfl rfl rfl (S.get (by repeat (first | exact pk1 | apply pick_tail))) rfl rfl) ?_; clear E a; intro a E
    refine list_call E rfl rfl (by decide) rfl Tryd.func20 rfl (by kernel_rfl) rfl (rpencode_ret r L O _ _ hL0 hll hO0 _ (show L ∈ _ from (by repeat (first | exact mm1 | assumption | apply List.Mem.tail))) (show O ∈ _ from (by repeat (first | exact mm1 | assumption | apply List.Mem.tail))) (hG.sub (fun _ h => by repeat (first | exact h | apply List.Mem.tail))) _ S.hp) ?_
    rintro v50 w ⟨x, C, rfl, hC, hT⟩; clear E a; intro a E
    have S := S.all hT
    obtain ⟨adx, cx, rfl⟩ := hC.slice
    have hcx := hC.cap_le
    refine list_pure E rfl rfl (by decide) (rn_move E rfl rfl) ?_; clear E a; intro a E
    refine list_pure E rfl rfl (by decide) (rn_extract E rfl rfl rfl) ?_; clear E a; intro a E
    refine list_pure E rfl rfl (by decide) (rn_extract E rfl rfl rfl) ?_; clear E a; intro a E
    refine list_pure E rfl rfl (by decide) (rn_assign E rfl rfl) ?_; clear E a; intro a E
    refine list_pure E rfl rfl (by decide) (rn_assign E rfl rfl) ?_; clear E a; intro a E
    refine wpList_nil ?_
    refine then_k hK ?_; clear hK; clear K
    refine wp_seq_k ?_; intro K hK
    refine wp_seq_k ?_; intro K hK
    refine region_list ?_
    refine list_pure E rfl rfl (by decide) (rn_move E rfl rfl) ?_; clear E a; intro a E
    refine list_pure E rfl rfl (by decide) (by first | exact rn_eql E rfl rfl rfl | exact rn_eql_ptr_nil E rfl rfl rfl rfl | exact rn_eql_bool E rfl rfl rfl rfl | exact rn_eql_string E rfl rfl rfl) ?_; clear E a; intro a E
    refine wpList_nil ?_
    refine then_k hK ?_; clear hK; clear K
    refine wp_join (fun (a : Act) (w' : World) => ∃ (b3 b4 : Nat), St w0 As w' ([(b4, cel [.int .i64 r.ses, .int .i64 r.id, .int .i64 r.err, .int .i64 r.num, str r.text, .slice adl r.list.length cl, .slice adr r.data.length cr] 50)] :: [(b3, cel [.int .i64 q.ses, .int .i64 q.id, .int .i64 q.verb, str q.name, str q.item, str q.other, str q.path, .int .i64 q.at_, .int .i64 q.many, .slice adq q.data.length cq] 24)] :: As) ∧ Fr a 112 [(2, .slice adb b.length cb), (3, ptr b3), (4, ptr b4), (7, .bool true)]) ?_ ?_
    · skip
      refine if_bool E rfl (fun hb => ?_) (fun hb => ?_)
      · replace hb := Nrm.nrm hb
        have hm := rpE_may hb
        refine wp_seq_k ?_; intro K hK
        refine region_list ?_
        refine list_pure E rfl rfl (by decide) (rn_move E rfl rfl) ?_; clear E a; intro a E
        refine list_call E rfl rfl (by decide) rfl Tryd.func24 rfl (by kernel_rfl) rfl (readrp_ret C _ (rpO r) hC.rd ⟨_, _, rfl, hcx⟩ _ (show C ∈ _ from (by repeat (first | exact mm1 | assumption | apply List.Mem.tail))) (hG.sub (fun _ h => by repeat (first | exact h | apply List.Mem.tail))) _ S.hp) ?_
        rintro v57 w ⟨y, z, G, F, rfl, hGr, hF, hT⟩; clear E a; intro a E
        have S := S.all hT; rw [rpF_backP hm] at E hF hGr; dsimp only at E hF hGr
        obtain ⟨ady, cy, rfl⟩ := hF.slice
        obtain ⟨adz, cz, rfl⟩ := hGr.slice
        refine list_pure E rfl rfl (by decide) (rn_move E rfl rfl) ?_; clear E a; intro a E
        refine list_pure E rfl rfl (by decide) (rn_extract E rfl rfl rfl) ?_; clear E a; intro a E
        refine list_pure E rfl rfl (by decide) (rn_extract E rfl rfl rfl) ?_; clear E a; intro a E
        refine list_wp rfl (wp_alloc E S rfl rfl (by decide) rfl rfl rfl ?_); clear E S a; intro a w b15 E S
        refine list_wp rfl (wp_storeN E S rfl rfl rfl rfl (by simp [Value.oneCell']) rfl (by repeat (first | exact pk1 | apply pick_tail)) (by simp) ?_); clear E S a; intro a w E S; simp only [List.take_succ_cons, List.take_zero, List.drop_succ_cons, List.drop_zero, List.cons_append, List.nil_append, List.append_nil, List.length_cons, List.length_nil, Nat.zero_add, Nat.add_zero] at S
        refine list_pure E rfl rfl (by decide) (rn_assign E rfl rfl) ?_; clear E a; intro a E
        refine wpList_nil ?_
        refine then_k hK ?_; clear hK; clear K
        refine wp_seq_k ?_; intro K hK
        refine region_list ?_
        refine list_pure E rfl rfl (by decide) (rn_load_blk (vs := [_, _, _, _, _, _, _]) E rfl rfl rfl (S.get (by repeat (first | exact pk1 | apply pick_tail))) rfl rfl) ?_; clear E a; intro a E
        refine list_pure E rfl rfl (by decide) (rn_load_blk (vs := [_, _, _, _, _, _, _]) E rfl rfl rfl (S.get (by repeat (first | exact pk1 | apply pick_tail))) rfl rfl) ?_; clear E a; intro a E
        refine list_call E rfl rfl (by decide) rfl Tryd.func25 rfl (by kernel_rfl) rfl (samerp_ret r r _ _ _ _ L G O F hL0 hGr.rd hO0 hF.rd _ (show L ∈ _ from (by repeat (first | exact mm1 | assumption | apply List.Mem.tail))) (show G ∈ _ from (by repeat (first | exact mm1 | assumption | apply List.Mem.tail))) (show O ∈ _ from (by repeat (first | exact mm1 | assumption | apply List.Mem.tail))) (show F ∈ _ from (by repeat (first | exact mm1 | assumption | apply List.Mem.tail))) _ S.hp) ?_
        rintro v62 w ⟨rfl, hT⟩; clear E a; intro a E
        have S := S.all hT; rw [decide_eq_true (rfl : r = r)] at E
        refine list_pure E rfl rfl (by decide) (rn_assign E rfl rfl) ?_; clear E a; intro a E
        refine wpList_nil ?_
        refine then_k hK ?_; clear hK; clear K
        refine wp_seq_k ?_; intro K hK
        replace E := E.keep (e' := [(2, _), (3, _), (4, _), (7, _), (16, _), (17, _)]) (keep_cons rfl (keep_cons rfl (keep_cons rfl (keep_cons rfl (keep_cons rfl (keep_cons rfl (keep_nil)))))))
        refine region_list ?_
        refine list_pure E rfl rfl (by decide) (rn_move E rfl rfl) ?_; clear E a; intro a E
        refine list_pure E rfl rfl (by decide) (by first | exact rn_neq E rfl rfl rfl | exact rn_neq_ptr_nil E rfl rfl rfl rfl | exact rn_neq_bool E rfl rfl rfl rfl | exact rn_neq_string E rfl rfl rfl) ?_; clear E a; intro a E
        refine list_pure E rfl rfl (by decide) (rn_move E rfl rfl) ?_; clear E a; intro a E
        refine guard_false E (t := 65) rfl (rfl) (fun hb65 => ?_)
        refine list_guard_yes E rfl rfl rfl rfl hb65 rfl (by decide) (rn_move E rfl rfl) ?_; clear E a; intro a E
        refine list_guard_yes E rfl rfl rfl rfl hb65 rfl (by decide) (rn_not E rfl rfl) ?_; clear E a; intro a E
        refine list_pure E rfl rfl (by decide) (rn_pick_no' E rfl rfl hb65 rfl) ?_; clear E a; intro a E
        refine wpList_nil ?_
        refine then_k hK ?_; clear hK; clear K
        refine if_false' E rfl (rfl) ?_
        refine wp_skip ?_
        refine joined_here ?_
        exact ⟨b3, b4, (((S.del (A := C) (by repeat (first | exact pk1 | apply pick_tail))).del (A := F) (by repeat (first | exact pk1 | apply pick_tail))).del (A := G) (by repeat (first | exact pk1 | apply pick_tail))).del (A := [(b15, _)]) (by repeat (first | exact pk1 | apply pick_tail)), E.keep (keep_cons rfl (keep_cons rfl (keep_cons rfl (keep_cons rfl keep_nil))))⟩
      · replace hb := Nrm.nrm hb
        skip
        refine wp_skip ?_
        refine joined_here ?_
        exact ⟨b3, b4, S.del (A := C) (by repeat (first | exact pk1 | apply pick_tail)), E.keep (keep_cons rfl (keep_cons rfl (keep_cons rfl (keep_cons rfl keep_nil))))⟩
    · clear S E a; intro a w J; obtain ⟨b3, b4, S, E⟩ := J
      refine then_k hK ?_; clear hK; clear K
      refine wp_seq_k ?_; intro K hK
      refine region_list ?_
      refine list_pure E rfl rfl (by decide) (rn_move E rfl rfl) ?_; clear E a; intro a E
      refine list_call E rfl rfl (by decide) rfl Tryd.func18 rfl (by kernel_rfl) rfl (readrq_ret D _ b hD hcap0 _ (show D ∈ _ from (by repeat (first | exact mm1 | assumption | apply List.Mem.tail))) (hG.sub (fun _ h => by repeat (first | exact h | apply List.Mem.tail))) _ S.hp) ?_
      rintro v71 w ⟨y, F, rfl, hF, hT⟩; clear E a; intro a E
      have S := S.all hT
      obtain ⟨R, hR⟩ : ∃ R, R = rqF (dataP 2048) b := ⟨_, rfl⟩
      have hRf := @rqF_forth b
      rw [← hR] at E hF hRf
      obtain ⟨ady, cy, rfl⟩ := hF.slice
      refine list_pure E rfl rfl (by decide) (rn_move E rfl rfl) ?_; clear E a; intro a E
      refine list_pure E rfl rfl (by decide) (rn_extract E rfl rfl rfl) ?_; clear E a; intro a E
      refine list_pure E rfl rfl (by decide) (rn_extract E rfl rfl rfl) ?_; clear E a; intro a E
      refine list_wp rfl (wp_alloc E S rfl rfl (by decide) rfl rfl rfl ?_); clear E S a; intro a w b18 E S
      refine list_wp rfl (wp_storeN E S rfl rfl rfl rfl (by simp [Value.oneCell']) rfl (by repeat (first | exact pk1 | apply pick_tail)) (by simp) ?_); clear E S a; intro a w E S; simp only [List.take_succ_cons, List.take_zero, List.drop_succ_cons, List.drop_zero, List.cons_append, List.nil_append, List.append_nil, List.length_cons, List.length_nil, Nat.zero_add, Nat.add_zero] at S
      refine list_pure E rfl rfl (by decide) (rn_assign E rfl rfl) ?_; clear E a; intro a E
      refine wpList_nil ?_
      refine then_k hK ?_; clear hK; clear K
      refine wp_seq_k ?_; intro K hK
      refine wp_seq_k ?_; intro K hK
      refine region_list ?_
      refine list_pure E rfl rfl (by decide) (rn_move E rfl rfl) ?_; clear E a; intro a E
      refine list_pure E rfl rfl (by decide) (by first | exact rn_eql E rfl rfl rfl | exact rn_eql_ptr_nil E rfl rfl rfl rfl | exact rn_eql_bool E rfl rfl rfl rfl | exact rn_eql_string E rfl rfl rfl) ?_; clear E a; intro a E
      refine wpList_nil ?_
      refine then_k hK ?_; clear hK; clear K
      refine wp_join (fun (a : Act) (w' : World) => ∃ (b3 b4 : Nat), St w0 As w' ([(b4, cel [.int .i64 r.ses, .int .i64 r.id, .int .i64 r.err, .int .i64 r.num, str r.text, .slice adl r.list.length cl, .slice adr r.data.length cr] 50)] :: [(b3, cel [.int .i64 q.ses, .int .i64 q.id, .int .i64 q.verb, str q.name, str q.item, str q.other, str q.path, .int .i64 q.at_, .int .i64 q.many, .slice adq q.data.length cq] 24)] :: As) ∧ Fr a 112 [(2, .slice adb b.length cb), (3, ptr b3), (4, ptr b4), (7, .bool true)]) ?_ ?_
      · skip
        refine if_bool E rfl (fun hb => ?_) (fun hb => ?_)
        · replace hb := Nrm.nrm hb
          obtain ⟨hm, hO2⟩ := hRf hb
          refine wp_seq_k ?_; intro K hK
          refine region_list ?_
          refine list_pure E rfl rfl (by decide) (rn_load_blk (vs := [_, _, _, _, _, _, _, _, _, _]) E rfl rfl rfl (S.get (by repeat (first | exact pk1 | apply pick_tail))) rfl rfl) ?_; clear E a; intro a E
          refine list_call E rfl rfl (by decide) rfl Tryd.func10 rfl (by kernel_rfl) rfl (rqencode_ret R.1 F _ hF.rd _ (show F ∈ _ from (by repeat (first | exact mm1 | assumption | apply List.Mem.tail))) (hG.sub (fun _ h => by repeat (first | exact h | apply List.Mem.tail))) _ S.hp) ?_
          rintro v78 w ⟨x, C, rfl, hC, hT⟩; clear E a; intro a E
          have S := S.all hT; rw [rqE_yes hm] at E; rw [hO2] at hC
          obtain ⟨adx, cx, rfl⟩ := hC.slice
          refine list_pure E rfl rfl (by decide) (rn_move E rfl rfl) ?_; clear E a; intro a E
          refine list_pure E rfl rfl (by decide) (rn_extract E rfl rfl rfl) ?_; clear E a; intro a E
          refine list_pure E rfl rfl (by decide) (rn_extract E rfl rfl rfl) ?_; clear E a; intro a E
          refine list_pure E rfl rfl (by decide) (rn_assign E rfl rfl) ?_; clear E a; intro a E
          refine list_pure E rfl rfl (by decide) (rn_assign E rfl rfl) ?_; clear E a; intro a E
          refine wpList_nil ?_
          refine then_k hK ?_; clear hK; clear K
          refine wp_seq_k ?_; intro K hK
          refine region_list ?_
          refine list_pure E rfl rfl (by decide) (rn_move E rfl rfl) ?_; clear E a; intro a E
          refine list_pure E rfl rfl (by decide) (by first | exact rn_neq E rfl rfl rfl | exact rn_neq_ptr_nil E rfl rfl rfl rfl | exact rn_neq_bool E rfl rfl rfl rfl | exact rn_neq_string E rfl rfl rfl) ?_; clear E a; intro a E
          refine list_pure E rfl rfl (by decide) (rn_move E rfl rfl) ?_; clear E a; intro a E
          refine guard_false E (t := 83) rfl (rfl) (fun hb83 => ?_)
          refine list_guard_yes E rfl rfl rfl rfl hb83 rfl (by decide) (rn_move E rfl rfl) ?_; clear E a; intro a E
          refine list_guard_yes E rfl rfl rfl rfl hb83 rfl (by decide) (rn_string E rfl rfl rfl rfl rfl (bs := b) hC.rd (S.stab.at (by repeat (first | exact mm1 | assumption | apply List.Mem.tail)))) ?_; clear E a; intro a E
          refine list_guard_yes E rfl rfl rfl rfl hb83 rfl (by decide) (rn_move E rfl rfl) ?_; clear E a; intro a E
          refine list_guard_yes E rfl rfl rfl rfl hb83 rfl (by decide) (rn_string E rfl rfl rfl rfl rfl (bs := b) hD (S.stab.at (by repeat (first | exact mm1 | assumption | apply List.Mem.tail)))) ?_; clear E a; intro a E
          refine list_guard_yes E rfl rfl rfl rfl hb83 rfl (by decide) (by first | exact rn_neq E rfl rfl rfl | exact rn_neq_ptr_nil E rfl rfl rfl rfl | exact rn_neq_bool E rfl rfl rfl rfl | exact rn_neq_string E rfl rfl rfl) ?_; clear E a; intro a E
          refine list_pure E rfl rfl (by decide) (rn_pick_no' E rfl rfl hb83 rfl) ?_; clear E a; intro a E
          refine wpList_nil ?_
          refine then_k hK ?_; clear hK; clear K
          refine if_false' E rfl ((by simp)) ?_
          refine wp_skip ?_
          refine joined_here ?_
          exact ⟨b3, b4, ((S.del (A := C) (by repeat (first | exact pk1 | apply pick_tail))).del (A := F) (by repeat (first | exact pk1 | apply pick_tail))).del (A := [(b18, _)]) (by repeat (first | exact pk1 | apply pick_tail)), E.keep (keep_cons rfl (keep_cons rfl (keep_cons rfl (keep_cons rfl keep_nil))))⟩
        · replace hb := Nrm.nrm hb
          skip
          refine wp_skip ?_
          refine joined_here ?_
          exact ⟨b3, b4, (S.del (A := F) (by repeat (first | exact pk1 | apply pick_tail))).del (A := [(b18, _)]) (by repeat (first | exact pk1 | apply pick_tail)), E.keep (keep_cons rfl (keep_cons rfl (keep_cons rfl (keep_cons rfl keep_nil))))⟩
      · clear S E a; intro a w J; obtain ⟨b3, b4, S, E⟩ := J
        refine then_k hK ?_; clear hK; clear K
        refine wp_seq_k ?_; intro K hK
        refine region_list ?_
        refine list_pure E rfl rfl (by decide) (rn_move E rfl rfl) ?_; clear E a; intro a E
        refine list_call E rfl rfl (by decide) rfl Tryd.func24 rfl (by kernel_rfl) rfl (readrp_ret D _ b hD hcap0 _ (show D ∈ _ from (by repeat (first | exact mm1 | assumption | apply List.Mem.tail))) (hG.sub (fun _ h => by repeat (first | exact h | apply List.Mem.tail))) _ S.hp) ?_
        rintro v92 w ⟨y, z, G, F, rfl, hGr, hF, hT⟩; clear E a; intro a E
        have S := S.all hT
        obtain ⟨R, hR⟩ : ∃ R, R = rpF (dataP 4096) b := ⟨_, rfl⟩
        have hRf := @rpF_forth b
        rw [← hR] at E hF hGr hRf
        obtain ⟨ady, cy, rfl⟩ := hF.slice
        obtain ⟨adz, cz, rfl⟩ := hGr.slice
        refine list_pure E rfl rfl (by decide) (rn_move E rfl rfl) ?_; clear E a; intro a E
        refine list_pure E rfl rfl (by decide) (rn_extract E rfl rfl rfl) ?_; clear E a; intro a E
        refine list_pure E rfl rfl (by decide) (rn_extract E rfl rfl rfl) ?_; clear E a; intro a E
        refine list_wp rfl (wp_alloc E S rfl rfl (by decide) rfl rfl rfl ?_); clear E S a; intro a w b22 E S
        refine list_wp rfl (wp_storeN E S rfl rfl rfl rfl (by simp [Value.oneCell']) rfl (by repeat (first | exact pk1 | apply pick_tail)) (by simp) ?_); clear E S a; intro a w E S; simp only [List.take_succ_cons, List.take_zero, List.drop_succ_cons, List.drop_zero, List.cons_append, List.nil_append, List.append_nil, List.length_cons, List.length_nil, Nat.zero_add, Nat.add_zero] at S
        refine list_pure E rfl rfl (by decide) (rn_assign E rfl rfl) ?_; clear E a; intro a E
        refine wpList_nil ?_
        refine then_k hK ?_; clear hK; clear K
        refine wp_seq_k ?_; intro K hK
        refine wp_seq_k ?_; intro K hK
        refine region_list ?_
        refine list_pure E rfl rfl (by decide) (rn_move E rfl rfl) ?_; clear E a; intro a E
        refine list_pure E rfl rfl (by decide) (by first | exact rn_eql E rfl rfl rfl | exact rn_eql_ptr_nil E rfl rfl rfl rfl | exact rn_eql_bool E rfl rfl rfl rfl | exact rn_eql_string E rfl rfl rfl) ?_; clear E a; intro a E
        refine wpList_nil ?_
        refine then_k hK ?_; clear hK; clear K
        refine wp_join (fun (a : Act) (w' : World) => ∃ (b3 b4 : Nat), St w0 As w' ([(b4, cel [.int .i64 r.ses, .int .i64 r.id, .int .i64 r.err, .int .i64 r.num, str r.text, .slice adl r.list.length cl, .slice adr r.data.length cr] 50)] :: [(b3, cel [.int .i64 q.ses, .int .i64 q.id, .int .i64 q.verb, str q.name, str q.item, str q.other, str q.path, .int .i64 q.at_, .int .i64 q.many, .slice adq q.data.length cq] 24)] :: As) ∧ Fr a 112 [(2, .slice adb b.length cb), (3, ptr b3), (4, ptr b4), (7, .bool true)]) ?_ ?_
        · skip
          refine if_bool E rfl (fun hb => ?_) (fun hb => ?_)
          · replace hb := Nrm.nrm hb
            obtain ⟨hm, hO2⟩ := hRf hb
            refine wp_seq_k ?_; intro K hK
            refine region_list ?_
            refine list_pure E rfl rfl (by decide) (rn_load_blk (vs := [_, _, _, _, _, _, _]) E rfl rfl rfl (S.get (by repeat (first | exact pk1 | apply pick_tail))) rfl rfl) ?_; clear E a; intro a E
            refine list_call E rfl rfl (by decide) rfl Tryd.func20 rfl (by kernel_rfl) rfl (rpencode_ret R.1 G F _ _ hGr.rd (Nat.le_trans hm.2.2.2.2.2.2.2.2.2.1 (by omega)) hF.rd _ (show G ∈ _ from (by repeat (first | exact mm1 | assumption | apply List.Mem.tail))) (show F ∈ _ from (by repeat (first | exact mm1 | assumption | apply List.Mem.tail))) (hG.sub (fun _ h => by repeat (first | exact h | apply List.Mem.tail))) _ S.hp) ?_
            rintro v99 w ⟨x, C, rfl, hC, hT⟩; clear E a; intro a E
            have S := S.all hT; rw [rpE_yes hm] at E; rw [hO2] at hC
            obtain ⟨adx, cx, rfl⟩ := hC.slice
            refine list_pure E rfl rfl (by decide) (rn_move E rfl rfl) ?_; clear E a; intro a E
            refine list_pure E rfl rfl (by decide) (rn_extract E rfl rfl rfl) ?_; clear E a; intro a E
            refine list_pure E rfl rfl (by decide) (rn_extract E rfl rfl rfl) ?_; clear E a; intro a E
            refine list_pure E rfl rfl (by decide) (rn_assign E rfl rfl) ?_; clear E a; intro a E
            refine list_pure E rfl rfl (by decide) (rn_assign E rfl rfl) ?_; clear E a; intro a E
            refine wpList_nil ?_
            refine then_k hK ?_; clear hK; clear K
            refine wp_seq_k ?_; intro K hK
            refine region_list ?_
            refine list_pure E rfl rfl (by decide) (rn_move E rfl rfl) ?_; clear E a; intro a E
            refine list_pure E rfl rfl (by decide) (by first | exact rn_neq E rfl rfl rfl | exact rn_neq_ptr_nil E rfl rfl rfl rfl | exact rn_neq_bool E rfl rfl rfl rfl | exact rn_neq_string E rfl rfl rfl) ?_; clear E a; intro a E
            refine list_pure E rfl rfl (by decide) (rn_move E rfl rfl) ?_; clear E a; intro a E
            refine guard_false E (t := 104) rfl (rfl) (fun hb104 => ?_)
            refine list_guard_yes E rfl rfl rfl rfl hb104 rfl (by decide) (rn_move E rfl rfl) ?_; clear E a; intro a E
            refine list_guard_yes E rfl rfl rfl rfl hb104 rfl (by decide) (rn_string E rfl rfl rfl rfl rfl (bs := b) hC.rd (S.stab.at (by repeat (first | exact mm1 | assumption | apply List.Mem.tail)))) ?_; clear E a; intro a E
            refine list_guard_yes E rfl rfl rfl rfl hb104 rfl (by decide) (rn_move E rfl rfl) ?_; clear E a; intro a E
            refine list_guard_yes E rfl rfl rfl rfl hb104 rfl (by decide) (rn_string E rfl rfl rfl rfl rfl (bs := b) hD (S.stab.at (by repeat (first | exact mm1 | assumption | apply List.Mem.tail)))) ?_; clear E a; intro a E
            refine list_guard_yes E rfl rfl rfl rfl hb104 rfl (by decide) (by first | exact rn_neq E rfl rfl rfl | exact rn_neq_ptr_nil E rfl rfl rfl rfl | exact rn_neq_bool E rfl rfl rfl rfl | exact rn_neq_string E rfl rfl rfl) ?_; clear E a; intro a E
            refine list_pure E rfl rfl (by decide) (rn_pick_no' E rfl rfl hb104 rfl) ?_; clear E a; intro a E
            refine wpList_nil ?_
            refine then_k hK ?_; clear hK; clear K
            refine if_false' E rfl ((by simp)) ?_
            refine wp_skip ?_
            refine joined_here ?_
            exact ⟨b3, b4, (((S.del (A := C) (by repeat (first | exact pk1 | apply pick_tail))).del (A := F) (by repeat (first | exact pk1 | apply pick_tail))).del (A := G) (by repeat (first | exact pk1 | apply pick_tail))).del (A := [(b22, _)]) (by repeat (first | exact pk1 | apply pick_tail)), E.keep (keep_cons rfl (keep_cons rfl (keep_cons rfl (keep_cons rfl keep_nil))))⟩
          · replace hb := Nrm.nrm hb
            skip
            refine wp_skip ?_
            refine joined_here ?_
            exact ⟨b3, b4, ((S.del (A := F) (by repeat (first | exact pk1 | apply pick_tail))).del (A := G) (by repeat (first | exact pk1 | apply pick_tail))).del (A := [(b22, _)]) (by repeat (first | exact pk1 | apply pick_tail)), E.keep (keep_cons rfl (keep_cons rfl (keep_cons rfl (keep_cons rfl keep_nil))))⟩
        · clear S E a; intro a w J; obtain ⟨b3, b4, S, E⟩ := J
          refine then_k hK ?_; clear hK; clear K
          refine wp_seq_k ?_; intro K hK
          refine region_list ?_
          refine list_pure E rfl rfl (by decide) (rn_move E rfl rfl) ?_; clear E a; intro a E
          refine list_pure E rfl rfl (by decide) (rn_assign E rfl rfl) ?_; clear E a; intro a E
          refine wpList_nil ?_
          refine then_k hK ?_; clear hK; clear K
          refine wp_ret ?_
          refine ret1 E rfl rfl ?_
          exact ⟨_, rfl, rfl, S.tail2.tr⟩

theorem back_walk (O : Chunk) (hG : Tab [O] 2 shaK) (q : Value × Rq) (hq : RqG O q.1 q.2) (a : (Value × Value) × Rp) (ha : RpG O a.1.1 a.1.2 a.2) (v : Value) (b : List UInt8) (hD : Rd O 1 v b.length (byt b)) (hbl : b.length ≤ 140737488351232) (hcap : ∃ ad c, v = .slice ad b.length c ∧ b.length ≤ c) (w0 : World) (H : Hp w0 [O]) :
    Ret Tryd.prog 8 #[rqagg q.2 q.1, rpagg a.2 a.1.1 a.1.2, v] w0 fun u w' => u = .bool true ∧ Trs w0 w' [O] [O] :=
  backLaw_ret q.2 O q.1 hq.1 a.2 O O a.1.1 a.1.2 ha.1 (Nat.le_trans ha.2.1 (by omega)) ha.2.2.1 O v b hD hcap [O] (List.Mem.head _) (List.Mem.head _) (List.Mem.head _) (List.Mem.head _) hG w0 H
end Go.Proofs.YtjhmjdgdgpgcdaaDoor
