/-
  FrameAsks.
-/
import Derived.Test.YtjhmjdgdgpgcdaaDoorFrameY
import Derived.Test.YtjhmjdgdgpgcdaaDoorLaid
namespace Go.Proofs.YtjhmjdgdgpgcdaaDoor
open Go.Sl
set_option maxRecDepth 10000

theorem asksLaw_ret (r : Rq) (O : Chunk) (v : Value) (hO : Rd O 1 v r.data.length (byt r.data)) (hl : r.data.length ≤ 140737488355328) (As : List Chunk) (hOA : O ∈ As)
    (hG : Tab As 2 shaK) (hG0 : Tab As 0 sha0.l) (hG1 : Tab As 1 shaK) (w0 : World) (H : Hp w0 As) :
    Ret Tryd.prog 3 #[rqagg r v] w0 fun u w' => u = .bool true ∧ Trs w0 w' As As := by
  have S := St.begin H
  have hO0 := hO
  obtain ⟨ad, c, rfl⟩ := hO.slice
  have hsm := rqO_small r
  refine enter1 56 Tryd.func3 rfl rfl (by decide) ?_; intro a E
  refine wp_seq_k ?_; intro K hK
  refine region_list ?_
  refine list_wp rfl (wp_box E S rfl rfl (by decide) rfl rfl ?_); clear E S a; intro a w b1 E S
  refine list_pure E rfl rfl (by decide) (rn_assign E rfl rfl) ?_; clear E a; intro a E
  refine wpList_nil ?_
  refine then_k hK ?_; clear hK; clear K
  refine wp_seq_k ?_; intro K hK
  refine region_list ?_
  refine list_call E rfl rfl (by decide) rfl Tryd.func9 rfl (by kernel_rfl) rfl (awake_ret _ hG.tail _ S.hp) ?_
  rintro v11 w ⟨rfl, hT⟩; clear E a; intro a E
  have S := S.all hT
  refine list_pure E rfl rfl (by decide) (rn_assign E rfl rfl) ?_; clear E a; intro a E
  refine wpList_nil ?_
  refine then_k hK ?_; clear hK; clear K
  refine wp_seq_k ?_; intro K hK
  refine region_list ?_
  refine list_pure E rfl rfl (by decide) (rn_assign E rfl rfl) ?_; clear E a; intro a E
  refine wpList_nil ?_
  refine then_k hK ?_; clear hK; clear K
  refine wp_seq_k ?_; intro K hK
  refine region_list ?_
  refine list_pure E rfl rfl (by decide) (rn_load_blk (vs := [_, _, _, _, _, _, _, _, _, _]) E rfl rfl rfl (S.get (by repeat (first | exact pk1 | apply pick_tail))) rfl rfl) ?_; clear E a; intro a E
  refine list_wp rfl (wp_alloc E S rfl rfl (by decide) rfl rfl rfl ?_); clear E S a; intro a w b5 E S
  refine list_wp rfl (wp_storeN E S rfl rfl rfl rfl (by simp [Value.oneCell']) rfl (by repeat (first | exact pk1 | apply pick_tail)) (by simp) ?_); clear E S a; intro a w E S; simp only [List.take_succ_cons, List.take_zero, List.drop_succ_cons, List.drop_zero, List.cons_append, List.nil_append, List.append_nil, List.length_cons, List.length_nil, Nat.zero_add, Nat.add_zero] at S
  refine wpList_nil ?_
  refine then_k hK ?_; clear hK; clear K
  refine wp_seq_k ?_; intro K hK
  refine region_list ?_
  have S := S.addNil
  refine list_pure E rfl rfl (by decide) (rn_move E rfl rfl) ?_; clear E a; intro a E
  refine list_pure E rfl rfl (by decide) (by first | exact rn_fieldAddr0 (q := 9) E rfl rfl rfl | exact rn_fieldAddr (q := 9) E rfl rfl rfl) ?_; clear E a; intro a E
  refine list_pure E rfl rfl (by decide) (by first | exact rn_load E rfl rfl rfl (S.get (by repeat (first | exact pk1 | apply pick_tail))) rfl | exact rn_loadc E rfl rfl rfl (by assumption)) ?_; clear E a; intro a E
  refine list_wp rfl (wp_append (by' := 1) E S rfl rfl (by decide) rfl rfl (Buf.nil 5 1) (by repeat (first | exact pk1 | apply pick_tail)) (hO.src (S.stab.at (by repeat (first | exact mm1 | assumption | apply List.Mem.tail))) rfl) rfl rfl rfl rfl rfl rfl (by simp only [maxLen]; omega) (by omega) ?_); clear E S a; intro a w v16 C16 E S hB16
  rw [Nat.zero_add, List.nil_append] at hB16
  obtain ⟨ad16, c16, rfl⟩ := hB16.slice
  refine list_pure E rfl rfl (by decide) (by first | exact rn_fieldAddr0 (q := 9) E rfl rfl rfl | exact rn_fieldAddr (q := 9) E rfl rfl rfl) ?_; clear E a; intro a E
  refine list_wp rfl (wp_store1 E S rfl rfl rfl rfl rfl rfl (by repeat (first | exact pk1 | apply pick_tail)) (by first | exact Nat.le_of_ble_eq_true rfl | (simp; done) | (simp; omega)) ?_); clear E S a; intro a w E S; try dsimp only [List.set] at S
  refine wpList_nil ?_
  refine then_k hK ?_; clear hK; clear K
  refine wp_seq_k ?_; intro K hK
  refine region_list ?_
  refine list_pure E rfl rfl (by decide) (rn_load_blk (vs := [_, _, _, _, _, _, _, _, _, _]) E rfl rfl rfl (S.get (by repeat (first | exact pk1 | apply pick_tail))) rfl rfl) ?_; clear E a; intro a E
  refine list_call E rfl rfl (by decide) rfl Tryd.func10 rfl (by kernel_rfl) rfl (rqencode_ret r C16 _ hB16.rd _ (show C16 ∈ _ from (by repeat (first | exact mm1 | assumption | apply List.Mem.tail))) (hG.sub (fun _ h => by repeat (first | exact h | apply List.Mem.tail))) _ S.hp) ?_
  rintro v20 w ⟨x, C, rfl, hC, hT⟩; clear E a; intro a E
  have S := S.all hT; obtain ⟨adx, cx, rfl⟩ := hC.slice
  refine list_pure E rfl rfl (by decide) (rn_move E rfl rfl) ?_; clear E a; intro a E
  refine list_pure E rfl rfl (by decide) (rn_extract E rfl rfl rfl) ?_; clear E a; intro a E
  refine list_pure E rfl rfl (by decide) (rn_extract E rfl rfl rfl) ?_; clear E a; intro a E
  refine list_pure E rfl rfl (by decide) (rn_assign E rfl rfl) ?_; clear E a; intro a E
  refine list_pure E rfl rfl (by decide) (rn_assign E rfl rfl) ?_; clear E a; intro a E
  refine wpList_nil ?_
  refine then_k hK ?_; clear hK; clear K
  refine wp_seq_k ?_; intro K hK
  refine region_list ?_
  refine list_pure E rfl rfl (by decide) (by first | exact rn_fieldAddr0 (q := 9) E rfl rfl rfl | exact rn_fieldAddr (q := 9) E rfl rfl rfl) ?_; clear E a; intro a E
  refine list_pure E rfl rfl (by decide) (by first | exact rn_load E rfl rfl rfl (S.get (by repeat (first | exact pk1 | apply pick_tail))) rfl | exact rn_loadc E rfl rfl rfl (by assumption)) ?_; clear E a; intro a E
  refine list_pure E rfl rfl (by decide) (rn_string E rfl rfl rfl rfl rfl (bs := r.data) hB16.rd (S.stab.at (by repeat (first | exact mm1 | assumption | apply List.Mem.tail)))) ?_; clear E a; intro a E
  refine list_pure E rfl rfl (by decide) (by first | exact rn_fieldAddr0 (q := 9) E rfl rfl rfl | exact rn_fieldAddr (q := 9) E rfl rfl rfl) ?_; clear E a; intro a E
  refine list_pure E rfl rfl (by decide) (by first | exact rn_load E rfl rfl rfl (S.get (by repeat (first | exact pk1 | apply pick_tail))) rfl | exact rn_loadc E rfl rfl rfl (by assumption)) ?_; clear E a; intro a E
  refine list_pure E rfl rfl (by decide) (rn_string E rfl rfl rfl rfl rfl (bs := r.data) hO (S.stab.at (by repeat (first | exact mm1 | assumption | apply List.Mem.tail)))) ?_; clear E a; intro a E
  refine list_pure E rfl rfl (by decide) (by first | exact rn_eql E rfl rfl rfl | exact rn_eql_ptr_nil E rfl rfl rfl rfl | exact rn_eql_bool E rfl rfl rfl rfl | exact rn_eql_string E rfl rfl rfl) ?_; clear E a; intro a E
  refine list_pure E rfl rfl (by decide) (rn_assign E rfl rfl) ?_; clear E a; intro a E
  refine wpList_nil ?_
  refine then_k hK ?_; clear hK; clear K
  refine wp_seq_k ?_; intro K hK
  replace E := E.keep (e' := [(1, _), (2, _), (3, _), (6, _), (7, _), (8, _)]) (keep_cons rfl (keep_cons rfl (keep_cons rfl (keep_cons rfl (keep_cons rfl (keep_cons rfl (keep_nil)))))))
  refine region_list ?_
  refine list_pure E rfl rfl (by decide) (rn_load_blk (vs := [_, _, _, _, _, _, _, _, _, _]) E rfl rfl rfl (S.get (by repeat (first | exact pk1 | apply pick_tail))) rfl rfl) ?_; clear E a; intro a E
  refine list_call E rfl rfl (by decide) rfl Tryd.func11 rfl (by kernel_rfl) rfl (drqencode_ret r O _ hO0 _ (show O ∈ _ from (by repeat (first | exact mm1 | assumption | apply List.Mem.tail))) (hG0.sub (fun _ h => by repeat (first | exact h | apply List.Mem.tail))) (hG1.sub (fun _ h => by repeat (first | exact h | apply List.Mem.tail))) _ S.hp) ?_
  rintro v32 w ⟨y, D, rfl, hD, hT⟩; clear E a; intro a E
  have S := S.all hT; obtain ⟨ady, cy, rfl⟩ := hD.slice
  refine list_pure E rfl rfl (by decide) (rn_move E rfl rfl) ?_; clear E a; intro a E
  refine list_pure E rfl rfl (by decide) (rn_extract E rfl rfl rfl) ?_; clear E a; intro a E
  refine list_pure E rfl rfl (by decide) (rn_extract E rfl rfl rfl) ?_; clear E a; intro a E
  refine list_pure E rfl rfl (by decide) (rn_assign E rfl rfl) ?_; clear E a; intro a E
  refine list_pure E rfl rfl (by decide) (rn_assign E rfl rfl) ?_; clear E a; intro a E
  refine wpList_nil ?_
  refine then_k hK ?_; clear hK; clear K
  refine wp_seq_k ?_; intro K hK
  refine region_list ?_
  refine list_pure E rfl rfl (by decide) (rn_move E rfl rfl) ?_; clear E a; intro a E
  refine list_pure E rfl rfl (by decide) (rn_move E rfl rfl) ?_; clear E a; intro a E
  refine guard_true E (t := 36) rfl (rfl) (fun hb36 => ?_)
  refine list_guard_yes E rfl rfl rfl rfl hb36 rfl (by decide) (rn_move E rfl rfl) ?_; clear E a; intro a E
  refine list_guard_yes E rfl rfl rfl rfl hb36 rfl (by decide) (rn_string E rfl rfl rfl rfl rfl (bs := rqO r) hC.rd (S.stab.at (by repeat (first | exact mm1 | assumption | apply List.Mem.tail)))) ?_; clear E a; intro a E
  refine list_guard_yes E rfl rfl rfl rfl hb36 rfl (by decide) (rn_move E rfl rfl) ?_; clear E a; intro a E
  refine list_guard_yes E rfl rfl rfl rfl hb36 rfl (by decide) (rn_string E rfl rfl rfl rfl rfl (bs := rqO r) hD.rd (S.stab.at (by repeat (first | exact mm1 | assumption | apply List.Mem.tail)))) ?_; clear E a; intro a E
  refine list_guard_yes E rfl rfl rfl rfl hb36 rfl (by decide) (by first | exact rn_eql E rfl rfl rfl | exact rn_eql_ptr_nil E rfl rfl rfl rfl | exact rn_eql_bool E rfl rfl rfl rfl | exact rn_eql_string E rfl rfl rfl) ?_; clear E a; intro a E
  refine list_pure E rfl rfl (by decide) (rn_pick_yes' E rfl rfl hb36 rfl) ?_; clear E a; intro a E
  refine list_pure E rfl rfl (by decide) (rn_move E rfl rfl) ?_; clear E a; intro a E
  refine guard_true E (t := 43) rfl ((decide_eq_true rfl)) (fun hb43 => ?_)
  refine list_guard_yes E rfl rfl rfl rfl hb43 rfl (by decide) (rn_move E rfl rfl) ?_; clear E a; intro a E
  refine list_guard_yes E rfl rfl rfl rfl hb43 rfl (by decide) (rn_move E rfl rfl) ?_; clear E a; intro a E
  refine list_guard_yes E rfl rfl rfl rfl hb43 rfl (by decide) (by first | exact rn_eql E rfl rfl rfl | exact rn_eql_ptr_nil E rfl rfl rfl rfl | exact rn_eql_bool E rfl rfl rfl rfl | exact rn_eql_string E rfl rfl rfl) ?_; clear E a; intro a E
  refine list_pure E rfl rfl (by decide) (rn_pick_yes' E rfl rfl hb43 rfl) ?_; clear E a; intro a E
  refine list_pure E rfl rfl (by decide) (rn_move E rfl rfl) ?_; clear E a; intro a E
  refine guard_true E (t := 48) rfl ((by simp)) (fun hb48 => ?_)
  refine list_guard_yes E rfl rfl rfl rfl hb48 rfl (by decide) (rn_move E rfl rfl) ?_; clear E a; intro a E
  refine list_pure E rfl rfl (by decide) (rn_pick_yes' E rfl rfl hb48 rfl) ?_; clear E a; intro a E
  refine list_pure E rfl rfl (by decide) (rn_move E rfl rfl) ?_; clear E a; intro a E
  refine guard_true E (t := 51) rfl ((decide_eq_true rfl)) (fun hb51 => ?_)
  refine list_guard_yes E rfl rfl rfl rfl hb51 rfl (by decide) (rn_move E rfl rfl) ?_; clear E a; intro a E
  refine list_guard_yes E rfl rfl rfl rfl hb51 rfl (by decide) (by first | exact rn_len E rfl rfl rfl | exact rn_len_str E rfl rfl rfl | exact rn_len_string E rfl rfl rfl) ?_; clear E a; intro a E
  refine list_guard_yes E rfl rfl rfl rfl hb51 rfl (by decide) (rn_leq E rfl rfl rfl) ?_; clear E a; intro a E
  refine list_pure E rfl rfl (by decide) (rn_pick_yes' E rfl rfl hb51 rfl) ?_; clear E a; intro a E
  refine list_pure E rfl rfl (by decide) (rn_assign E rfl rfl) ?_; clear E a; intro a E
  refine wpList_nil ?_
  refine then_k hK ?_; clear hK; clear K
  refine wp_ret ?_
  refine ret1 E rfl rfl ?_
  exact ⟨_, rfl, by congr 1; exact decide_eq_true (by omega), (by repeat (first | exact S.tr | replace S := S.tail))⟩

/-- What an argument's request says. -/
def RqG (O : Chunk) (v : Value) (r : Rq) : Prop := Rd O 1 v r.data.length (byt r.data) ∧ r.data.length ≤ 140737488351232 ∧ (∃ ad c, v = .slice ad r.data.length c ∧ r.data.length ≤ c)
theorem dec_rq {H : Type} {enc : TypeId × Value → H} {w : World} : Dec enc Tryd.prog w 24 10 (fun x : Value × Rq => [.int .i64 x.2.ses, .int .i64 x.2.id, .int .i64 x.2.verb, str x.2.name, str x.2.item, str x.2.other, str x.2.path, .int .i64 x.2.at_, .int .i64 x.2.many, x.1]) (fun x => RqG (old w) x.1 x.2) := fun n cs x h hlen hw => by
  match cs, hlen with
  | [c0, c1, c2, c3, c4, c5, c6, c7, c8, c9], _ =>
  have ki : Tryd.prog.cellsOf 3 = 1 := by kernel_rfl
  have ks : Tryd.prog.cellsOf 9 = 1 := by kernel_rfl
  have kb : Tryd.prog.cellsOf 22 = 1 := by kernel_rfl
  have ht := Tryd.underlying24
  obtain ⟨a0, e0, h0⟩ := dec_field 0 0 ht h hw rfl ki (dec_i64 (enc := enc) Tryd.underlying3) (by simp)
  obtain ⟨a1, e1, h1⟩ := dec_field 1 1 ht h hw rfl ki (dec_i64 (enc := enc) Tryd.underlying3) (by simp)
  obtain ⟨a2, e2, h2⟩ := dec_field 2 2 ht h hw rfl ki (dec_i64 (enc := enc) Tryd.underlying3) (by simp)
  obtain ⟨a3, e3, h3⟩ := dec_field 3 3 ht h hw rfl ks (dec_string (enc := enc) Tryd.underlying9) (by simp)
  obtain ⟨a4, e4, h4⟩ := dec_field 4 4 ht h hw rfl ks (dec_string (enc := enc) Tryd.underlying9) (by simp)
  obtain ⟨a5, e5, h5⟩ := dec_field 5 5 ht h hw rfl ks (dec_string (enc := enc) Tryd.underlying9) (by simp)
  obtain ⟨a6, e6, h6⟩ := dec_field 6 6 ht h hw rfl ks (dec_string (enc := enc) Tryd.underlying9) (by simp)
  obtain ⟨a7, e7, h7⟩ := dec_field 7 7 ht h hw rfl ki (dec_i64 (enc := enc) Tryd.underlying3) (by simp)
  obtain ⟨a8, e8, h8⟩ := dec_field 8 8 ht h hw rfl ki (dec_i64 (enc := enc) Tryd.underlying3) (by simp)
  obtain ⟨⟨v, bs⟩, e9, ad, c, f1, f2, f3, f4, f5⟩ := dec_field 9 9 ht h hw rfl kb (dec_slice (enc := enc) (s := 1) (sz := 1) Tryd.underlying22 (by kernel_rfl) (by decide) (by kernel_rfl) (dec_u8 Tryd.underlying5) (fun _ _ u hu => by rw [List.mem_singleton.1 hu]; rfl)) (by simp)
  simp only [List.drop_succ_cons, List.drop_zero, List.take_succ_cons, List.take_zero, List.cons.injEq, and_true] at e0 e1 e2 e3 e4 e5 e6 e7 e8 e9
  subst e0 e1 e2 e3 e4 e5 e6 e7 e8 e9
  simp only at f1 f2 f3 f4 f5
  rw [flat_byt] at f4
  exact ⟨(c9, ⟨a0, a1, a2, a3, a4, a5, a6, a7, a8, bs⟩), rfl, f4, by show bs.length ≤ _; omega, ad, c, f1, f2⟩

theorem asks_walk (O : Chunk) (hL : Lay3 O) (a : Value × Rq) (hg : RqG O a.1 a.2) (w0 : World) (H : Hp w0 [O]) :
    Ret Tryd.prog 3 #[rqagg a.2 a.1] w0 fun u w' => u = .bool true ∧ Trs w0 w' [O] [O] :=
  asksLaw_ret a.2 O a.1 hg.1 (Nat.le_trans hg.2.1 (by omega)) [O] (List.Mem.head _) hL.1 hL.2.1 hL.2.2 w0 H
end Go.Proofs.YtjhmjdgdgpgcdaaDoor
