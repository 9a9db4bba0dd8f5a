/-
  Uberblocks: the program's functions and the document's.
-/
import Derived.Test.YtmghbcaookahaaaDoorSumS
import Derived.Test.YtmghbcaookahaaaDoorLabQ
import Derived.Test.YtmghbcaookahaaaDoorMore5
namespace Go.Sl
theorem four_fs (s : Fs) : four [s.a, s.b, s.c, s.d] = fsB s := by simp [four, fsB]
theorem ubE_iff (u : Ub) : ubE u = 0 ↔ 1 ≤ u.txg ∧ u.txg ≤ 281474976710656 ∧ ptE u.root = 0 ∧ u.root.birth ≤ u.txg := by
  unfold ubE; split
  · simp_all
  · rename_i h; exact ⟨fun q => (by cases q), fun q => absurd q h⟩
theorem ubE_no {u : Ub} (h : ubE u ≠ 0) : ubE u = 44 := by
  unfold ubE at *; split
  · rename_i c; rw [if_pos c] at h; exact absurd rfl h
  · rfl
/-- The 96 bytes ahead of the sum. -/
def ubP (u : Ub) : List UInt8 := if ubE u = 0 then pad96 (ubB u) else []
theorem ubP_ok {u : Ub} (h : ubE u = 0) : ubP u = pad96 (ubB u) := by simp [ubP, h]
theorem ubP_no {u : Ub} (h : ubE u ≠ 0) : ubP u = [] := by simp [ubP, h]
theorem ubO_ok {u : Ub} (h : ubE u = 0) : ubO u = whole (ubB u) := by simp [ubO, h]
theorem ubO_no {u : Ub} (h : ubE u ≠ 0) : ubO u = [] := by simp [ubO, h]
/-- What 96 bytes are read as. -/
def ubtE (x : List UInt8) : Int := if x.drop 76 ≠ List.replicate 20 0 then 45 else ubE (ubAt x)
def ubt (x : List UInt8) : Ub := if ubtE x = 0 then ubAt x else ubZero
theorem ubdecE_open {b : List UInt8} (h : openB b uLet = true) : ubdecE b = ubtE (b.take 96) := by unfold ubdecE ubtE; rw [if_neg (by rw [h]; decide)]
theorem ubdecE_shut {b : List UInt8} (h : openB b uLet = false) : ubdecE b = 45 := by unfold ubdecE; rw [if_pos h]
theorem ubdec_open {b : List UInt8} (h : openB b uLet = true) : ubdec b = ubt (b.take 96) := by unfold ubdec ubt; rw [ubdecE_open h]
theorem ubdec_shut {b : List UInt8} (h : openB b uLet = false) : ubdec b = ubZero := by unfold ubdec; rw [ubdecE_shut h]; rfl
theorem openB_iff (b L : List UInt8) : openB b L = true ↔ b.length = 128 ∧ b.take 4 = L ∧ fsAt b 96 = fletch (b.take 96) := by unfold openB; rw [decide_eq_true_eq]
theorem openB_no {b L : List UInt8} (h : ¬ (b.length = 128 ∧ b.take 4 = L ∧ fsAt b 96 = fletch (b.take 96))) : openB b L = false := by unfold openB; exact decide_eq_false h
theorem fsAt_drop (b : List UInt8) (q : Nat) : fsAt (b.drop q) 0 = fsAt b q := by simp [fsAt, nm, List.drop_drop]
theorem sl_of (O : Chunk) {v : Value} {b : List UInt8} (h : Rd O 1 v b.length (byt b)) {m : Nat} {c : List UInt8} (hc : c = b) (hm : m = c.length) : Rd O 1 v m (byt c) := by subst hc hm; exact h
end Go.Sl
namespace Go.Proofs.YtmghbcaookahaaaDoor
open Go.Sl
set_option maxRecDepth 10000

theorem wholeno_ret (v : Value) (e : Int) (he : e ≠ 0) (w0 : World) :
    Ret Tryd.prog 35 #[v, .int .i64 e] w0 fun u w' => u = .tuple #[.slice none 0 0, .int .i64 e] ∧ Trs w0 w' [] [] := by
  have S := St.begin (hp_nil w0)
  refine enter2 30 Tryd.func35 rfl rfl (by decide) ?_; intro a E
  refine wp_seq_k ?_; intro K hK
  refine region_list ?_
  refine list_pure E rfl rfl (by decide) (rn_assign E rfl rfl) ?_; clear E a; intro a E
  refine list_pure E rfl rfl (by decide) (rn_assign E rfl rfl) ?_; clear E a; intro a E
  refine wpList_nil ?_
  refine then_k hK ?_; clear hK; clear K
  refine wp_seq_k ?_; intro K hK
  refine wp_seq_k ?_; intro K hK
  refine region_list ?_
  refine list_pure E rfl rfl (by decide) (rn_move E rfl rfl) ?_; clear E a; intro a E
  refine list_pure E rfl rfl (by decide) (by first | exact rn_neq E rfl rfl rfl | exact rn_neq_ptr_nil E rfl rfl rfl rfl | exact rn_neq_bool E rfl rfl rfl rfl | exact rn_neq_string E rfl rfl rfl) ?_; clear E a; intro a E
  refine wpList_nil ?_
  refine then_k hK ?_; clear hK; clear K
  refine if_true' E rfl ((by simp [he])) ?_
  refine wp_seq_k ?_; intro K hK
  refine region_list ?_
  refine list_pure E rfl rfl (by decide) (rn_move E rfl rfl) ?_; clear E a; intro a E
  refine list_pure E rfl rfl (by decide) (rn_assign E rfl rfl) ?_; clear E a; intro a E
  refine list_pure E rfl rfl (by decide) (rn_assign E rfl rfl) ?_; clear E a; intro a E
  refine wpList_nil ?_
  refine then_k hK ?_; clear hK; clear K
  refine wp_ret ?_
  refine then_ret ?_; clear hK; clear K
  refine ret2 E rfl rfl rfl ?_
  exact ⟨_, rfl, rfl, (S.only (Bs := []) (sel_nil _)).tr⟩

theorem whole_ret (O : Chunk) (v : Value) (b : List UInt8) (hO : Rd O 1 v b.length (byt b)) (hl : b.length = 96) (w0 : World) (H : Hp w0 [O]) :
    Ret Tryd.prog 35 #[v, .int .i64 0] w0 fun u w' => ∃ g, u = .tuple #[.slice (some ⟨g, 0, none⟩) 128 128, .int .i64 0] ∧ Trs w0 w' [O] [[(g, cel (byt (b ++ fsB (fletch b))) 5)], O] := by
  have S := St.begin H
  have hfl : (b ++ fsB (fletch b)).length = 128 := by rw [List.length_append, fsB_length, hl]
  refine enter2 30 Tryd.func35 rfl rfl (by decide) ?_; intro a E
  refine wp_seq_k ?_; intro K hK
  refine region_list ?_
  refine list_pure E rfl rfl (by decide) (rn_assign E rfl rfl) ?_; clear E a; intro a E
  refine list_pure E rfl rfl (by decide) (rn_assign E rfl rfl) ?_; clear E a; intro a E
  refine wpList_nil ?_
  refine then_k hK ?_; clear hK; clear K
  refine wp_seq_k ?_; intro K hK
  refine wp_seq_k ?_; intro K hK
  refine region_list ?_
  refine list_pure E rfl rfl (by decide) (rn_move E rfl rfl) ?_; clear E a; intro a E
  refine list_pure E rfl rfl (by decide) (by first | exact rn_neq E rfl rfl rfl | exact rn_neq_ptr_nil E rfl rfl rfl rfl | exact rn_neq_bool E rfl rfl rfl rfl | exact rn_neq_string E rfl rfl rfl) ?_; clear E a; intro a E
  refine wpList_nil ?_
  refine then_k hK ?_; clear hK; clear K
  refine if_false' E rfl (rfl) ?_
  refine wp_skip ?_
  refine then_k hK ?_; clear hK; clear K
  refine wp_seq_k ?_; intro K hK
  refine region_list ?_
  refine list_pure E rfl rfl (by decide) (rn_move E rfl rfl) ?_; clear E a; intro a E
  refine list_call E rfl rfl (by decide) rfl Tryd.func62 rfl (by kernel_rfl) rfl (sumof_ret O v b hO (by omega) _ (S.hp.sel (sel_cons (by repeat (first | exact pk1 | apply pick_tail)) (sel_nil _)))) ?_
  rintro v13 w ⟨rfl, hT⟩; clear E a; intro a E
  have S := S.call1 (sel_cons (by repeat (first | exact pk1 | apply pick_tail)) (sel_nil _)) hT
  refine list_pure E rfl rfl (by decide) (rn_move E rfl rfl) ?_; clear E a; intro a E
  refine list_pure E rfl rfl (by decide) (rn_extract E rfl rfl rfl) ?_; clear E a; intro a E
  refine list_pure E rfl rfl (by decide) (rn_extract E rfl rfl rfl) ?_; clear E a; intro a E
  refine list_wp rfl (wp_alloc E S rfl rfl (by decide) rfl rfl rfl ?_); clear E S a; intro a w b6 E S
  refine list_wp rfl (wp_storeN E S rfl rfl rfl rfl (by simp [Value.oneCell']) rfl (by repeat (first | exact pk1 | apply pick_tail)) (by simp) ?_); clear E S a; intro a w E S; simp only [List.take_succ_cons, List.take_zero, List.drop_succ_cons, List.drop_zero, List.cons_append, List.nil_append, List.append_nil, List.length_cons, List.length_nil, Nat.zero_add, Nat.add_zero] at S
  refine list_pure E rfl rfl (by decide) (rn_assign E rfl rfl) ?_; clear E a; intro a E
  refine wpList_nil ?_
  refine then_k hK ?_; clear hK; clear K
  refine wp_seq_k ?_; intro K hK
  refine wp_seq_k ?_; intro K hK
  refine region_list ?_
  refine list_pure E rfl rfl (by decide) (rn_move E rfl rfl) ?_; clear E a; intro a E
  refine list_pure E rfl rfl (by decide) (by first | exact rn_neq E rfl rfl rfl | exact rn_neq_ptr_nil E rfl rfl rfl rfl | exact rn_neq_bool E rfl rfl rfl rfl | exact rn_neq_string E rfl rfl rfl) ?_; clear E a; intro a E
  refine wpList_nil ?_
  refine then_k hK ?_; clear hK; clear K
  refine if_false' E rfl (rfl) ?_
  refine wp_skip ?_
  refine then_k hK ?_; clear hK; clear K
  refine wp_seq_k ?_; intro K hK
  refine region_list ?_
  refine list_call E rfl rfl (by decide) rfl Tryd.func56 rfl (by kernel_rfl) rfl (writer_ret 128 _) ?_
  rintro v19 w ⟨p, A, rfl, hA, hT⟩; clear E a; intro a E
  have S := S.fresh hT; have hA : WrC 104 p ⟨128, [], 0⟩ A := hA
  refine list_pure E rfl rfl (by decide) (rn_assign E rfl rfl) ?_; clear E a; intro a E
  refine wpList_nil ?_
  refine then_k hK ?_; clear hK; clear K
  refine wp_seq_k ?_; intro K hK
  refine region_list ?_
  refine list_pure E rfl rfl (by decide) (rn_move E rfl rfl) ?_; clear E a; intro a E
  refine list_pure E rfl rfl (by decide) (rn_move E rfl rfl) ?_; clear E a; intro a E
  refine list_call E rfl rfl (by decide) rfl Tryd.func63 rfl (by kernel_rfl) rfl (bytes_fit p 128 [] A O _ hA v b hO (S.hp.sel (sel_cons (by repeat (first | exact pk1 | apply pick_tail)) (sel_cons (by repeat (first | exact pk1 | apply pick_tail)) (sel_nil _)))) (by omega) (by simp only [List.length_nil]; omega)) ?_
  rintro v22 w ⟨A1, hA1, hT⟩; clear E a; intro a E
  have S := S.call2 (sel_cons (by repeat (first | exact pk1 | apply pick_tail)) (sel_cons (by repeat (first | exact pk1 | apply pick_tail)) (sel_nil _))) hT
  refine wpList_nil ?_
  refine then_k hK ?_; clear hK; clear K
  refine wp_seq_k ?_; intro K hK
  refine region_list ?_
  refine list_pure E rfl rfl (by decide) (rn_move E rfl rfl) ?_; clear E a; intro a E
  refine list_pure E rfl rfl (by decide) (rn_load_blk (vs := [_, _, _, _]) E rfl rfl rfl (S.get (by repeat (first | exact pk1 | apply pick_tail))) rfl rfl) ?_; clear E a; intro a E
  refine list_call E rfl rfl (by decide) rfl Tryd.func60 rfl (by kernel_rfl) rfl (laysum_ret p 128 _ A1 _ _ _ _ ⟨(fletch_ok b).a, (fletch_ok b).b, (fletch_ok b).c, (fletch_ok b).d⟩ _ hA1 (S.hp.sel (sel_cons (by repeat (first | exact pk1 | apply pick_tail)) (sel_nil _))) (by omega) (by simp only [List.nil_append]; omega)) ?_
  rintro v25 w ⟨A2, hA2, hT⟩; clear E a; intro a E
  have S := S.call1 (sel_cons (by repeat (first | exact pk1 | apply pick_tail)) (sel_nil _)) hT; rw [four_fs, List.nil_append] at hA2
  refine wpList_nil ?_
  refine then_k hK ?_; clear hK; clear K
  refine wp_seq_k ?_; intro K hK
  refine region_list ?_
  refine list_pure E rfl rfl (by decide) (rn_move E rfl rfl) ?_; clear E a; intro a E
  refine list_call E rfl rfl (by decide) rfl Tryd.func58 rfl (by kernel_rfl) rfl (done_fit p 128 _ A2 _ hA2 (S.hp.sel (sel_cons (by repeat (first | exact pk1 | apply pick_tail)) (sel_nil _))) (by omega)) ?_
  rintro v27 w ⟨g, rfl, hT⟩; clear E a; intro a E
  have S := S.call2 (sel_cons (by repeat (first | exact pk1 | apply pick_tail)) (sel_nil _)) hT; rw [hfl] at E
  refine list_pure E rfl rfl (by decide) (rn_extract E rfl rfl rfl) ?_; clear E a; intro a E
  refine list_pure E rfl rfl (by decide) (rn_extract E rfl rfl rfl) ?_; clear E a; intro a E
  refine list_pure E rfl rfl (by decide) (rn_assign E rfl rfl) ?_; clear E a; intro a E
  refine list_pure E rfl rfl (by decide) (rn_assign E rfl rfl) ?_; clear E a; intro a E
  refine wpList_nil ?_
  refine then_k hK ?_; clear hK; clear K
  refine wp_ret ?_
  refine ret2 E rfl rfl rfl ?_
  exact ⟨_, rfl, g, rfl, (S.only (Bs := [[(g, _)], O]) (sel_cons (by repeat (first | exact pk1 | apply pick_tail)) (sel_cons (by repeat (first | exact pk1 | apply pick_tail)) (sel_nil _)))).tr⟩

theorem ubcheck_ret (x : Ub) (w0 : World) : Ret Tryd.prog 22 #[x.agg] w0 fun u w' => u = .int .i64 (ubE x) ∧ Trs w0 w' [] [] := by
  have S := St.begin (hp_nil w0)
  refine enter1 25 Tryd.func22 rfl rfl (by decide) ?_; intro a E
  refine wp_seq_k ?_; intro K hK
  refine region_list ?_
  refine list_wp rfl (wp_box E S rfl rfl (by decide) rfl rfl ?_); clear E S a; intro a w b1 E S
  refine list_pure E rfl rfl (by decide) (rn_assign E rfl rfl) ?_; clear E a; intro a E
  refine wpList_nil ?_
  refine then_k hK ?_; clear hK; clear K
  refine wp_seq_k ?_; intro K hK
  refine wp_seq_k ?_; intro K hK
  refine wp_join (fun (a : Act) (w' : World) => ∃ bt : Bool, (bt = false ↔ ubE x = 0) ∧ (∃ Ls, St w0 [] w' Ls) ∧ Fr a 25 [(24, .bool bt)]) ?_ ?_
  · skip
    refine region_list ?_
    refine list_pure E rfl rfl (by decide) (by first | exact rn_fieldAddr0 (q := 1) E rfl rfl rfl | exact rn_fieldAddr (q := 1) E rfl rfl rfl) ?_; clear E a; intro a E
    refine list_pure E rfl rfl (by decide) (by first | exact rn_load E rfl rfl rfl (S.get (by repeat (first | exact pk1 | apply pick_tail))) rfl | exact rn_loadc E rfl rfl rfl (by assumption)) ?_; clear E a; intro a E
    refine list_pure E rfl rfl (by decide) (rn_lss E rfl rfl rfl) ?_; clear E a; intro a E
    refine list_pure E rfl rfl (by decide) (rn_move E rfl rfl) ?_; clear E a; intro a E
    refine guard_split E (t := 6) rfl (fun hb6 => ?_) (fun hb6 => ?_)
    · have hb6n := hb6; replace hb6n := Nrm.nrm hb6n
      refine list_guard_no E rfl rfl rfl rfl hb6 rfl (by decide) ?_; clear E a; intro a E
      refine list_guard_no E rfl rfl rfl rfl hb6 rfl (by decide) ?_; clear E a; intro a E
      refine list_guard_no E rfl rfl rfl rfl hb6 rfl (by decide) ?_; clear E a; intro a E
      refine list_pure E rfl rfl (by decide) (rn_pick_yes' E rfl rfl hb6 rfl) ?_; clear E a; intro a E
      refine list_pure E rfl rfl (by decide) (rn_move E rfl rfl) ?_; clear E a; intro a E
      refine list_guard_no E rfl rfl rfl rfl rfl rfl (by decide) ?_; clear E a; intro a E
      refine list_guard_no E rfl rfl rfl rfl rfl rfl (by decide) ?_; clear E a; intro a E
      refine list_guard_no E rfl rfl rfl rfl rfl rfl (by decide) ?_; clear E a; intro a E
      refine list_guard_no E rfl rfl rfl rfl rfl rfl (by decide) ?_; clear E a; intro a E
      refine list_pure E rfl rfl (by decide) (rn_pick_yes' E rfl rfl rfl rfl) ?_; clear E a; intro a E
      refine list_pure E rfl rfl (by decide) (rn_move E rfl rfl) ?_; clear E a; intro a E
      refine list_guard_no E rfl rfl rfl rfl rfl rfl (by decide) ?_; clear E a; intro a E
      refine list_guard_no E rfl rfl rfl rfl rfl rfl (by decide) ?_; clear E a; intro a E
      refine list_guard_no E rfl rfl rfl rfl rfl rfl (by decide) ?_; clear E a; intro a E
      refine list_guard_no E rfl rfl rfl rfl rfl rfl (by decide) ?_; clear E a; intro a E
      refine list_guard_no E rfl rfl rfl rfl rfl rfl (by decide) ?_; clear E a; intro a E
      refine list_guard_no E rfl rfl rfl rfl rfl rfl (by decide) ?_; clear E a; intro a E
      refine list_pure E rfl rfl (by decide) (rn_pick_yes' E rfl rfl rfl rfl) ?_; clear E a; intro a E
      refine wpList_nil ?_
      refine joined_here ?_
      exact ⟨_, by rw [ubE_iff]; simp; omega, ⟨_, S⟩, E.keep (keep_cons rfl keep_nil)⟩
    · have hb6n := hb6; replace hb6n := Nrm.nrm hb6n
      refine list_guard_yes E rfl rfl rfl rfl hb6 rfl (by decide) (by first | exact rn_fieldAddr0 (q := 1) E rfl rfl rfl | exact rn_fieldAddr (q := 1) E rfl rfl rfl) ?_; clear E a; intro a E
      refine list_guard_yes E rfl rfl rfl rfl hb6 rfl (by decide) (by first | exact rn_load E rfl rfl rfl (S.get (by repeat (first | exact pk1 | apply pick_tail))) rfl | exact rn_loadc E rfl rfl rfl (by assumption)) ?_; clear E a; intro a E
      refine list_guard_yes E rfl rfl rfl rfl hb6 rfl (by decide) (rn_gtr E rfl rfl rfl) ?_; clear E a; intro a E
      refine list_pure E rfl rfl (by decide) (rn_pick_no' E rfl rfl hb6 rfl) ?_; clear E a; intro a E
      refine list_pure E rfl rfl (by decide) (rn_move E rfl rfl) ?_; clear E a; intro a E
      refine guard_split E (t := 11) rfl (fun hb11 => ?_) (fun hb11 => ?_)
      · have hb11n := hb11; replace hb11n := Nrm.nrm hb11n
        refine list_guard_no E rfl rfl rfl rfl hb11 rfl (by decide) ?_; clear E a; intro a E
        refine list_guard_no E rfl rfl rfl rfl hb11 rfl (by decide) ?_; clear E a; intro a E
        refine list_guard_no E rfl rfl rfl rfl hb11 rfl (by decide) ?_; clear E a; intro a E
        refine list_guard_no E rfl rfl rfl rfl hb11 rfl (by decide) ?_; clear E a; intro a E
        refine list_pure E rfl rfl (by decide) (rn_pick_yes' E rfl rfl hb11 rfl) ?_; clear E a; intro a E
        refine list_pure E rfl rfl (by decide) (rn_move E rfl rfl) ?_; clear E a; intro a E
        refine list_guard_no E rfl rfl rfl rfl rfl rfl (by decide) ?_; clear E a; intro a E
        refine list_guard_no E rfl rfl rfl rfl rfl rfl (by decide) ?_; clear E a; intro a E
        refine list_guard_no E rfl rfl rfl rfl rfl rfl (by decide) ?_; clear E a; intro a E
        refine list_guard_no E rfl rfl rfl rfl rfl rfl (by decide) ?_; clear E a; intro a E
        refine list_guard_no E rfl rfl rfl rfl rfl rfl (by decide) ?_; clear E a; intro a E
        refine list_guard_no E rfl rfl rfl rfl rfl rfl (by decide) ?_; clear E a; intro a E
        refine list_pure E rfl rfl (by decide) (rn_pick_yes' E rfl rfl rfl rfl) ?_; clear E a; intro a E
        refine wpList_nil ?_
        refine joined_here ?_
        exact ⟨_, by rw [ubE_iff]; simp; omega, ⟨_, S⟩, E.keep (keep_cons rfl keep_nil)⟩
      · have hb11n := hb11; replace hb11n := Nrm.nrm hb11n
        refine list_guard_yes E rfl rfl rfl rfl hb11 rfl (by decide) (by first | exact rn_fieldAddr0 (q := 3) E rfl rfl rfl | exact rn_fieldAddr (q := 3) E rfl rfl rfl) ?_; clear E a; intro a E
        refine list_guard_yes E rfl rfl rfl rfl hb11 rfl (by decide) (rn_load_blk (vs := [_, _, _, _, _, _, _, _, _]) E rfl rfl rfl (S.get (by repeat (first | exact pk1 | apply pick_tail))) rfl rfl) ?_; clear E a; intro a E
        refine list_guard_wp E rfl rfl rfl rfl hb11 ?_; refine wp_call' E rfl (by decide) rfl Tryd.func13 rfl (by kernel_rfl) rfl (ptcheck_ret x.root _) ?_
        rintro v14 w ⟨rfl, hT⟩; clear E a; intro a E
        have S := S.quiet hT
        refine list_guard_yes E rfl rfl rfl rfl hb11 rfl (by decide) (by first | exact rn_neq E rfl rfl rfl | exact rn_neq_ptr_nil E rfl rfl rfl rfl | exact rn_neq_bool E rfl rfl rfl rfl | exact rn_neq_string E rfl rfl rfl) ?_; clear E a; intro a E
        refine list_pure E rfl rfl (by decide) (rn_pick_no' E rfl rfl hb11 rfl) ?_; clear E a; intro a E
        refine list_pure E rfl rfl (by decide) (rn_move E rfl rfl) ?_; clear E a; intro a E
        refine guard_split E (t := 17) rfl (fun hb17 => ?_) (fun hb17 => ?_)
        · have hb17n := hb17; replace hb17n := Nrm.nrm hb17n
          refine list_guard_no E rfl rfl rfl rfl hb17 rfl (by decide) ?_; clear E a; intro a E
          refine list_guard_no E rfl rfl rfl rfl hb17 rfl (by decide) ?_; clear E a; intro a E
          refine list_guard_no E rfl rfl rfl rfl hb17 rfl (by decide) ?_; clear E a; intro a E
          refine list_guard_no E rfl rfl rfl rfl hb17 rfl (by decide) ?_; clear E a; intro a E
          refine list_guard_no E rfl rfl rfl rfl hb17 rfl (by decide) ?_; clear E a; intro a E
          refine list_guard_no E rfl rfl rfl rfl hb17 rfl (by decide) ?_; clear E a; intro a E
          refine list_pure E rfl rfl (by decide) (rn_pick_yes' E rfl rfl hb17 rfl) ?_; clear E a; intro a E
          refine wpList_nil ?_
          refine joined_here ?_
          exact ⟨_, by rw [ubE_iff]; simp; omega, ⟨_, S⟩, E.keep (keep_cons rfl keep_nil)⟩
        · have hb17n := hb17; replace hb17n := Nrm.nrm hb17n
          refine list_guard_yes E rfl rfl rfl rfl hb17 rfl (by decide) (by first | exact rn_fieldAddr0 (q := 3) E rfl rfl rfl | exact rn_fieldAddr (q := 3) E rfl rfl rfl) ?_; clear E a; intro a E
          refine list_guard_yes E rfl rfl rfl rfl hb17 rfl (by decide) (by first | exact rn_fieldAddr0 (q := 3) E rfl rfl rfl | exact rn_fieldAddr (q := 3) E rfl rfl rfl) ?_; clear E a; intro a E
          refine list_guard_yes E rfl rfl rfl rfl hb17 rfl (by decide) (by first | exact rn_load E rfl rfl rfl (S.get (by repeat (first | exact pk1 | apply pick_tail))) rfl | exact rn_loadc E rfl rfl rfl (by assumption)) ?_; clear E a; intro a E
          refine list_guard_yes E rfl rfl rfl rfl hb17 rfl (by decide) (by first | exact rn_fieldAddr0 (q := 1) E rfl rfl rfl | exact rn_fieldAddr (q := 1) E rfl rfl rfl) ?_; clear E a; intro a E
          refine list_guard_yes E rfl rfl rfl rfl hb17 rfl (by decide) (by first | exact rn_load E rfl rfl rfl (S.get (by repeat (first | exact pk1 | apply pick_tail))) rfl | exact rn_loadc E rfl rfl rfl (by assumption)) ?_; clear E a; intro a E
          refine list_guard_yes E rfl rfl rfl rfl hb17 rfl (by decide) (rn_gtr E rfl rfl rfl) ?_; clear E a; intro a E
          refine list_pure E rfl rfl (by decide) (rn_pick_no' E rfl rfl hb17 rfl) ?_; clear E a; intro a E
          refine wpList_nil ?_
          refine joined_here ?_
          exact ⟨_, by rw [ubE_iff]; simp; omega, ⟨_, S⟩, E.keep (keep_cons rfl keep_nil)⟩
  · clear E S a; intro a w J; obtain ⟨bt, hbt, ⟨Ls, S⟩, E⟩ := J
    refine then_k hK ?_; clear hK; clear K
    refine if_bool E rfl (fun hb => ?_) (fun hb => ?_)
    · replace hb := Nrm.nrm hb
      have hg : ubE x ≠ 0 := (fun q => by rw [hbt.2 q] at hb; cases hb)
      refine wp_seq_k ?_; intro K hK
      refine region_list ?_
      refine list_pure E rfl rfl (by decide) (rn_assign E rfl rfl) ?_; clear E a; intro a E
      refine wpList_nil ?_
      refine then_k hK ?_; clear hK; clear K
      refine wp_ret ?_
      refine then_ret ?_; clear hK; clear K
      refine ret1 E rfl rfl ?_
      exact ⟨_, rfl, by rw [ubE_no hg], (S.only (Bs := []) (sel_nil _)).tr⟩
    · replace hb := Nrm.nrm hb
      have hg : ubE x = 0 := hbt.1 hb
      refine wp_skip ?_
      refine then_k hK ?_; clear hK; clear K
      refine wp_seq_k ?_; intro K hK
      refine region_list ?_
      refine list_pure E rfl rfl (by decide) (rn_assign E rfl rfl) ?_; clear E a; intro a E
      refine wpList_nil ?_
      refine then_k hK ?_; clear hK; clear K
      refine wp_ret ?_
      refine ret1 E rfl rfl ?_
      exact ⟨_, rfl, by rw [hg], (S.only (Bs := []) (sel_nil _)).tr⟩

theorem dubcheck_ret (x : Ub) (w0 : World) : Ret Tryd.prog 23 #[x.agg] w0 fun u w' => u = .int .i64 (ubE x) ∧ Trs w0 w' [] [] := by
  have S := St.begin (hp_nil w0)
  refine enter1 27 Tryd.func23 rfl rfl (by decide) ?_; intro a E
  refine wp_seq_k ?_; intro K hK
  refine region_list ?_
  refine list_wp rfl (wp_box E S rfl rfl (by decide) rfl rfl ?_); clear E S a; intro a w b1 E S
  refine list_pure E rfl rfl (by decide) (rn_assign E rfl rfl) ?_; clear E a; intro a E
  refine wpList_nil ?_
  refine then_k hK ?_; clear hK; clear K
  refine wp_seq_k ?_; intro K hK
  refine region_list ?_
  refine list_pure E rfl rfl (by decide) (by first | exact rn_fieldAddr0 (q := 3) E rfl rfl rfl | exact rn_fieldAddr (q := 3) E rfl rfl rfl) ?_; clear E a; intro a E
  refine list_pure E rfl rfl (by decide) (rn_load_blk (vs := [_, _, _, _, _, _, _, _, _]) E rfl rfl rfl (S.get (by repeat (first | exact pk1 | apply pick_tail))) rfl rfl) ?_; clear E a; intro a E
  refine list_call E rfl rfl (by decide) rfl Tryd.func14 rfl (by kernel_rfl) rfl (dptcheck_ret x.root _) ?_
  rintro v6 w ⟨rfl, hT⟩; clear E a; intro a E
  have S := S.quiet hT
  refine list_pure E rfl rfl (by decide) (rn_assign E rfl rfl) ?_; clear E a; intro a E
  refine wpList_nil ?_
  refine then_k hK ?_; clear hK; clear K
  refine wp_seq_k ?_; intro K hK
  refine wp_seq_k ?_; intro K hK
  refine wp_join (fun (a : Act) (w' : World) => ∃ bt : Bool, (bt = false ↔ ubE x = 0) ∧ (∃ Ls, St w0 [] w' Ls) ∧ Fr a 27 [(26, .bool bt)]) ?_ ?_
  · skip
    refine region_list ?_
    refine list_pure E rfl rfl (by decide) (by first | exact rn_fieldAddr0 (q := 1) E rfl rfl rfl | exact rn_fieldAddr (q := 1) E rfl rfl rfl) ?_; clear E a; intro a E
    refine list_pure E rfl rfl (by decide) (by first | exact rn_load E rfl rfl rfl (S.get (by repeat (first | exact pk1 | apply pick_tail))) rfl | exact rn_loadc E rfl rfl rfl (by assumption)) ?_; clear E a; intro a E
    refine list_pure E rfl rfl (by decide) (rn_lss E rfl rfl rfl) ?_; clear E a; intro a E
    refine list_pure E rfl rfl (by decide) (rn_move E rfl rfl) ?_; clear E a; intro a E
    refine guard_split E (t := 10) rfl (fun hb10 => ?_) (fun hb10 => ?_)
    · have hb10n := hb10; replace hb10n := Nrm.nrm hb10n
      refine list_guard_no E rfl rfl rfl rfl hb10 rfl (by decide) ?_; clear E a; intro a E
      refine list_guard_no E rfl rfl rfl rfl hb10 rfl (by decide) ?_; clear E a; intro a E
      refine list_guard_no E rfl rfl rfl rfl hb10 rfl (by decide) ?_; clear E a; intro a E
      refine list_pure E rfl rfl (by decide) (rn_pick_yes' E rfl rfl hb10 rfl) ?_; clear E a; intro a E
      refine list_pure E rfl rfl (by decide) (rn_move E rfl rfl) ?_; clear E a; intro a E
      refine list_guard_no E rfl rfl rfl rfl rfl rfl (by decide) ?_; clear E a; intro a E
      refine list_guard_no E rfl rfl rfl rfl rfl rfl (by decide) ?_; clear E a; intro a E
      refine list_pure E rfl rfl (by decide) (rn_pick_yes' E rfl rfl rfl rfl) ?_; clear E a; intro a E
      refine list_pure E rfl rfl (by decide) (rn_move E rfl rfl) ?_; clear E a; intro a E
      refine list_guard_no E rfl rfl rfl rfl rfl rfl (by decide) ?_; clear E a; intro a E
      refine list_guard_no E rfl rfl rfl rfl rfl rfl (by decide) ?_; clear E a; intro a E
      refine list_guard_no E rfl rfl rfl rfl rfl rfl (by decide) ?_; clear E a; intro a E
      refine list_guard_no E rfl rfl rfl rfl rfl rfl (by decide) ?_; clear E a; intro a E
      refine list_guard_no E rfl rfl rfl rfl rfl rfl (by decide) ?_; clear E a; intro a E
      refine list_guard_no E rfl rfl rfl rfl rfl rfl (by decide) ?_; clear E a; intro a E
      refine list_pure E rfl rfl (by decide) (rn_pick_yes' E rfl rfl rfl rfl) ?_; clear E a; intro a E
      refine wpList_nil ?_
      refine joined_here ?_
      exact ⟨_, by rw [ubE_iff]; simp; omega, ⟨_, S⟩, E.keep (keep_cons rfl keep_nil)⟩
    · have hb10n := hb10; replace hb10n := Nrm.nrm hb10n
      refine list_guard_yes E rfl rfl rfl rfl hb10 rfl (by decide) (by first | exact rn_fieldAddr0 (q := 1) E rfl rfl rfl | exact rn_fieldAddr (q := 1) E rfl rfl rfl) ?_; clear E a; intro a E
      refine list_guard_yes E rfl rfl rfl rfl hb10 rfl (by decide) (by first | exact rn_load E rfl rfl rfl (S.get (by repeat (first | exact pk1 | apply pick_tail))) rfl | exact rn_loadc E rfl rfl rfl (by assumption)) ?_; clear E a; intro a E
      refine list_guard_yes E rfl rfl rfl rfl hb10 rfl (by decide) (rn_gtr E rfl rfl rfl) ?_; clear E a; intro a E
      refine list_pure E rfl rfl (by decide) (rn_pick_no' E rfl rfl hb10 rfl) ?_; clear E a; intro a E
      refine list_pure E rfl rfl (by decide) (rn_move E rfl rfl) ?_; clear E a; intro a E
      refine guard_split E (t := 15) rfl (fun hb15 => ?_) (fun hb15 => ?_)
      · have hb15n := hb15; replace hb15n := Nrm.nrm hb15n
        refine list_guard_no E rfl rfl rfl rfl hb15 rfl (by decide) ?_; clear E a; intro a E
        refine list_guard_no E rfl rfl rfl rfl hb15 rfl (by decide) ?_; clear E a; intro a E
        refine list_pure E rfl rfl (by decide) (rn_pick_yes' E rfl rfl hb15 rfl) ?_; clear E a; intro a E
        refine list_pure E rfl rfl (by decide) (rn_move E rfl rfl) ?_; clear E a; intro a E
        refine list_guard_no E rfl rfl rfl rfl rfl rfl (by decide) ?_; clear E a; intro a E
        refine list_guard_no E rfl rfl rfl rfl rfl rfl (by decide) ?_; clear E a; intro a E
        refine list_guard_no E rfl rfl rfl rfl rfl rfl (by decide) ?_; clear E a; intro a E
        refine list_guard_no E rfl rfl rfl rfl rfl rfl (by decide) ?_; clear E a; intro a E
        refine list_guard_no E rfl rfl rfl rfl rfl rfl (by decide) ?_; clear E a; intro a E
        refine list_guard_no E rfl rfl rfl rfl rfl rfl (by decide) ?_; clear E a; intro a E
        refine list_pure E rfl rfl (by decide) (rn_pick_yes' E rfl rfl rfl rfl) ?_; clear E a; intro a E
        refine wpList_nil ?_
        refine joined_here ?_
        exact ⟨_, by rw [ubE_iff]; simp; omega, ⟨_, S⟩, E.keep (keep_cons rfl keep_nil)⟩
      · have hb15n := hb15; replace hb15n := Nrm.nrm hb15n
        refine list_guard_yes E rfl rfl rfl rfl hb15 rfl (by decide) (rn_move E rfl rfl) ?_; clear E a; intro a E
        refine list_guard_yes E rfl rfl rfl rfl hb15 rfl (by decide) (by first | exact rn_neq E rfl rfl rfl | exact rn_neq_ptr_nil E rfl rfl rfl rfl | exact rn_neq_bool E rfl rfl rfl rfl | exact rn_neq_string E rfl rfl rfl) ?_; clear E a; intro a E
        refine list_pure E rfl rfl (by decide) (rn_pick_no' E rfl rfl hb15 rfl) ?_; clear E a; intro a E
        refine list_pure E rfl rfl (by decide) (rn_move E rfl rfl) ?_; clear E a; intro a E
        refine guard_split E (t := 19) rfl (fun hb19 => ?_) (fun hb19 => ?_)
        · have hb19n := hb19; replace hb19n := Nrm.nrm hb19n
          refine list_guard_no E rfl rfl rfl rfl hb19 rfl (by decide) ?_; clear E a; intro a E
          refine list_guard_no E rfl rfl rfl rfl hb19 rfl (by decide) ?_; clear E a; intro a E
          refine list_guard_no E rfl rfl rfl rfl hb19 rfl (by decide) ?_; clear E a; intro a E
          refine list_guard_no E rfl rfl rfl rfl hb19 rfl (by decide) ?_; clear E a; intro a E
          refine list_guard_no E rfl rfl rfl rfl hb19 rfl (by decide) ?_; clear E a; intro a E
          refine list_guard_no E rfl rfl rfl rfl hb19 rfl (by decide) ?_; clear E a; intro a E
          refine list_pure E rfl rfl (by decide) (rn_pick_yes' E rfl rfl hb19 rfl) ?_; clear E a; intro a E
          refine wpList_nil ?_
          refine joined_here ?_
          exact ⟨_, by rw [ubE_iff]; simp; omega, ⟨_, S⟩, E.keep (keep_cons rfl keep_nil)⟩
        · have hb19n := hb19; replace hb19n := Nrm.nrm hb19n
          refine list_guard_yes E rfl rfl rfl rfl hb19 rfl (by decide) (by first | exact rn_fieldAddr0 (q := 3) E rfl rfl rfl | exact rn_fieldAddr (q := 3) E rfl rfl rfl) ?_; clear E a; intro a E
          refine list_guard_yes E rfl rfl rfl rfl hb19 rfl (by decide) (by first | exact rn_fieldAddr0 (q := 3) E rfl rfl rfl | exact rn_fieldAddr (q := 3) E rfl rfl rfl) ?_; clear E a; intro a E
          refine list_guard_yes E rfl rfl rfl rfl hb19 rfl (by decide) (by first | exact rn_load E rfl rfl rfl (S.get (by repeat (first | exact pk1 | apply pick_tail))) rfl | exact rn_loadc E rfl rfl rfl (by assumption)) ?_; clear E a; intro a E
          refine list_guard_yes E rfl rfl rfl rfl hb19 rfl (by decide) (by first | exact rn_fieldAddr0 (q := 1) E rfl rfl rfl | exact rn_fieldAddr (q := 1) E rfl rfl rfl) ?_; clear E a; intro a E
          refine list_guard_yes E rfl rfl rfl rfl hb19 rfl (by decide) (by first | exact rn_load E rfl rfl rfl (S.get (by repeat (first | exact pk1 | apply pick_tail))) rfl | exact rn_loadc E rfl rfl rfl (by assumption)) ?_; clear E a; intro a E
          refine list_guard_yes E rfl rfl rfl rfl hb19 rfl (by decide) (rn_gtr E rfl rfl rfl) ?_; clear E a; intro a E
          refine list_pure E rfl rfl (by decide) (rn_pick_no' E rfl rfl hb19 rfl) ?_; clear E a; intro a E
          refine wpList_nil ?_
          refine joined_here ?_
          exact ⟨_, by rw [ubE_iff]; simp; omega, ⟨_, S⟩, E.keep (keep_cons rfl keep_nil)⟩
  · clear E S a; intro a w J; obtain ⟨bt, hbt, ⟨Ls, S⟩, E⟩ := J
    refine then_k hK ?_; clear hK; clear K
    refine if_bool E rfl (fun hb => ?_) (fun hb => ?_)
    · replace hb := Nrm.nrm hb
      have hg : ubE x ≠ 0 := (fun q => by rw [hbt.2 q] at hb; cases hb)
      refine wp_seq_k ?_; intro K hK
      refine region_list ?_
      refine list_pure E rfl rfl (by decide) (rn_assign E rfl rfl) ?_; clear E a; intro a E
      refine wpList_nil ?_
      refine then_k hK ?_; clear hK; clear K
      refine wp_ret ?_
      refine then_ret ?_; clear hK; clear K
      refine ret1 E rfl rfl ?_
      exact ⟨_, rfl, by rw [ubE_no hg], (S.only (Bs := []) (sel_nil _)).tr⟩
    · replace hb := Nrm.nrm hb
      have hg : ubE x = 0 := hbt.1 hb
      refine wp_skip ?_
      refine then_k hK ?_; clear hK; clear K
      refine wp_seq_k ?_; intro K hK
      refine region_list ?_
      refine list_pure E rfl rfl (by decide) (rn_assign E rfl rfl) ?_; clear E a; intro a E
      refine wpList_nil ?_
      refine then_k hK ?_; clear hK; clear K
      refine wp_ret ?_
      refine ret1 E rfl rfl ?_
      exact ⟨_, rfl, by rw [hg], (S.only (Bs := []) (sel_nil _)).tr⟩

theorem layub_ret (p room : Nat) (A : Chunk) (x : Ub) (ho : x.Ok) (hm : ubE x = 0) (w0 : World) (hA : WrC 104 p ⟨room, [], 0⟩ A) (H : Hp w0 [A]) (hr : room ≤ 140737488355328) (hl : 76 ≤ room) :
    Ret Tryd.prog 44 #[ptr p, x.agg] w0 fun _ w' => ∃ A', WrC 104 p ⟨room, ubB x, 0⟩ A' ∧ Trs w0 w' [A] [A'] := by
  have S := St.begin H
  have e8 := p8
  have o1 := ho.pool
  have o2 := ho.txg
  have o3 := ho.note
  have hl4 : uLet.length = 4 := rfl
  obtain ⟨m1, m2, m3, m4⟩ := (ubE_iff x).1 hm
  refine enter2 24 Tryd.func44 rfl rfl (by decide) ?_; intro a E
  refine wp_seq_k ?_; intro K hK
  refine region_list ?_
  refine list_wp rfl (wp_box E S rfl rfl (by decide) rfl rfl ?_); clear E S a; intro a w b3 E S
  refine wpList_nil ?_
  refine then_k hK ?_; clear hK; clear K
  refine wp_seq_k ?_; intro K hK
  refine region_list ?_
  refine list_pure E rfl rfl (by decide) (rn_move E rfl rfl) ?_; clear E a; intro a E
  refine list_wp rfl (wp_bslice (cells := [_, _, _, _]) E S rfl rfl (by decide) rfl rfl rfl rfl rfl (by decide) rfl ?_); clear E S a; intro a w b5 E S
  refine list_wp rfl (wp_mark E S rfl rfl rfl (by decide) rfl rfl rfl (by repeat (first | exact pk1 | apply pick_tail)) ?_); clear E S a; intro a w E S
  refine list_call E rfl rfl (by decide) rfl Tryd.func63 rfl (by kernel_rfl) rfl (bytes_fit p room [] A _ _ hA _ uLet (rd_mark (g := b5) uLet (by omega)) (S.hp.sel (sel_cons pk3 (sel_cons pk1 (sel_nil _)))) hr (by simp only [List.length_nil]; omega)) ?_
  rintro v7 w ⟨A1, hA1, hT⟩; clear E a; intro a E
  have S := S.call2 (sel_cons pk3 (sel_cons pk1 (sel_nil _))) hT; rw [List.nil_append] at hA1
  refine wpList_nil ?_
  refine then_k hK ?_; clear hK; clear K
  refine wp_seq_k ?_; intro K hK
  refine region_list ?_
  refine list_pure E rfl rfl (by decide) (rn_move E rfl rfl) ?_; clear E a; intro a E
  refine list_pure E rfl rfl (by decide) (by first | exact rn_fieldAddr0 (q := 0) E rfl rfl rfl | exact rn_fieldAddr (q := 0) E rfl rfl rfl) ?_; clear E a; intro a E
  refine list_pure E rfl rfl (by decide) (by first | exact rn_load E rfl rfl rfl (S.get (by repeat (first | exact pk1 | apply pick_tail))) rfl | exact rn_loadc E rfl rfl rfl (by assumption)) ?_; clear E a; intro a E
  refine list_call E rfl rfl (by decide) rfl Tryd.func59 rfl (by kernel_rfl) rfl (num_fit p room _ A1 _ hA1 x.pool 8 (S.hp.sel (sel_cons (by repeat (first | exact pk1 | apply pick_tail)) (sel_nil _))) hr (by omega) (by omega) (by omega) (by omega)) ?_
  rintro v11 w ⟨A2, hA2, hT⟩; clear E a; intro a E
  have S := S.call1 (sel_cons (by repeat (first | exact pk1 | apply pick_tail)) (sel_nil _)) hT
  refine wpList_nil ?_
  refine then_k hK ?_; clear hK; clear K
  refine wp_seq_k ?_; intro K hK
  refine region_list ?_
  refine list_pure E rfl rfl (by decide) (rn_move E rfl rfl) ?_; clear E a; intro a E
  refine list_pure E rfl rfl (by decide) (by first | exact rn_fieldAddr0 (q := 1) E rfl rfl rfl | exact rn_fieldAddr (q := 1) E rfl rfl rfl) ?_; clear E a; intro a E
  refine list_pure E rfl rfl (by decide) (by first | exact rn_load E rfl rfl rfl (S.get (by repeat (first | exact pk1 | apply pick_tail))) rfl | exact rn_loadc E rfl rfl rfl (by assumption)) ?_; clear E a; intro a E
  refine list_call E rfl rfl (by decide) rfl Tryd.func59 rfl (by kernel_rfl) rfl (num_fit p room _ A2 _ hA2 x.txg 8 (S.hp.sel (sel_cons (by repeat (first | exact pk1 | apply pick_tail)) (sel_nil _))) hr (by omega) (by omega) (by omega) (by simp only [List.length_append, formOf_length]; omega)) ?_
  rintro v15 w ⟨A3, hA3, hT⟩; clear E a; intro a E
  have S := S.call1 (sel_cons (by repeat (first | exact pk1 | apply pick_tail)) (sel_nil _)) hT
  refine wpList_nil ?_
  refine then_k hK ?_; clear hK; clear K
  refine wp_seq_k ?_; intro K hK
  refine region_list ?_
  refine list_pure E rfl rfl (by decide) (rn_move E rfl rfl) ?_; clear E a; intro a E
  refine list_pure E rfl rfl (by decide) (by first | exact rn_fieldAddr0 (q := 2) E rfl rfl rfl | exact rn_fieldAddr (q := 2) E rfl rfl rfl) ?_; clear E a; intro a E
  refine list_pure E rfl rfl (by decide) (by first | exact rn_load E rfl rfl rfl (S.get (by repeat (first | exact pk1 | apply pick_tail))) rfl | exact rn_loadc E rfl rfl rfl (by assumption)) ?_; clear E a; intro a E
  refine list_call E rfl rfl (by decide) rfl Tryd.func59 rfl (by kernel_rfl) rfl (num_fit p room _ A3 _ hA3 x.note 8 (S.hp.sel (sel_cons (by repeat (first | exact pk1 | apply pick_tail)) (sel_nil _))) hr (by omega) (by omega) (by omega) (by simp only [List.length_append, formOf_length]; omega)) ?_
  rintro v19 w ⟨A4, hA4, hT⟩; clear E a; intro a E
  have S := S.call1 (sel_cons (by repeat (first | exact pk1 | apply pick_tail)) (sel_nil _)) hT
  refine wpList_nil ?_
  refine then_k hK ?_; clear hK; clear K
  refine region_list ?_
  refine list_pure E rfl rfl (by decide) (rn_move E rfl rfl) ?_; clear E a; intro a E
  refine list_pure E rfl rfl (by decide) (by first | exact rn_fieldAddr0 (q := 3) E rfl rfl rfl | exact rn_fieldAddr (q := 3) E rfl rfl rfl) ?_; clear E a; intro a E
  refine list_pure E rfl rfl (by decide) (rn_load_blk (vs := [_, _, _, _, _, _, _, _, _]) E rfl rfl rfl (S.get (by repeat (first | exact pk1 | apply pick_tail))) rfl rfl) ?_; clear E a; intro a E
  refine list_call E rfl rfl (by decide) rfl Tryd.func31 rfl (by kernel_rfl) rfl (layptr_ret p room _ A4 x.root (ptE_may m3) ho.root _ hA4 (S.hp.sel (sel_cons (by repeat (first | exact pk1 | apply pick_tail)) (sel_nil _))) hr (by simp only [List.length_append, formOf_length]; omega)) ?_
  rintro v23 w ⟨A5, hA5, hT⟩; clear E a; intro a E
  have S := S.call1 (sel_cons (by repeat (first | exact pk1 | apply pick_tail)) (sel_nil _)) hT
  refine wpList_nil ?_
  refine end0 E rfl ?_
  exact ⟨_, rfl, A5, by rw [ubB]; simpa using hA5, (S.only (Bs := [A5]) (sel_cons (by repeat (first | exact pk1 | apply pick_tail)) (sel_nil _))).tr⟩

theorem laidub_ret (x : Ub) (ho : x.Ok) (w0 : World) :
    Ret Tryd.prog 43 #[x.agg, .func (.func 22) #[] #[], .int .i64 96, .func (.func 44) #[] #[]] w0 fun u w' => ∃ v C, u = .tuple #[v, .int .i64 (ubE x)] ∧ Buf C 5 1 v (ubP x).length (byt (ubP x)) ∧ Trs w0 w' [] [C] := by
  have S := St.begin (hp_nil w0)
  refine enter4 31 Tryd.func43 rfl rfl (by decide) ?_; intro a E
  refine wp_seq_k ?_; intro K hK
  refine region_list ?_
  refine list_wp rfl (wp_box E S rfl rfl (by decide) rfl rfl ?_); clear E S a; intro a w b4 E S
  refine list_pure E rfl rfl (by decide) (rn_assign E rfl rfl) ?_; clear E a; intro a E
  refine list_pure E rfl rfl (by decide) (rn_assign E rfl rfl) ?_; clear E a; intro a E
  refine wpList_nil ?_
  refine then_k hK ?_; clear hK; clear K
  refine wp_seq_k ?_; intro K hK
  refine wp_seq_k ?_; intro K hK
  refine region_list ?_
  refine list_pure E rfl rfl (by decide) (rn_move E rfl rfl) ?_; clear E a; intro a E
  refine list_pure E rfl rfl (by decide) (rn_load_blk (vs := [_, _, _, _, _, _, _, _, _, _, _, _]) E rfl rfl rfl (S.get (by repeat (first | exact pk1 | apply pick_tail))) rfl rfl) ?_; clear E a; intro a E
  refine list_callc E rfl rfl (by decide) rfl rfl Tryd.func22 rfl (by kernel_rfl) rfl (ubcheck_ret x _) ?_
  rintro v14 w ⟨rfl, hT⟩; clear E a; intro a E
  have S := S.quiet hT
  refine list_pure E rfl rfl (by decide) (rn_assign E rfl rfl) ?_; clear E a; intro a E
  refine wpList_nil ?_
  refine then_k hK ?_; clear hK; clear K
  refine wp_seq_k ?_; intro K hK
  refine region_list ?_
  refine list_pure E rfl rfl (by decide) (rn_move E rfl rfl) ?_; clear E a; intro a E
  refine list_pure E rfl rfl (by decide) (by first | exact rn_neq E rfl rfl rfl | exact rn_neq_ptr_nil E rfl rfl rfl rfl | exact rn_neq_bool E rfl rfl rfl rfl | exact rn_neq_string E rfl rfl rfl) ?_; clear E a; intro a E
  refine wpList_nil ?_
  refine then_k hK ?_; clear hK; clear K
  refine if_bool E rfl (fun hb => ?_) (fun hb => ?_)
  · replace hb := Nrm.nrm hb
    refine wp_seq_k ?_; intro K hK
    refine region_list ?_
    refine list_pure E rfl rfl (by decide) (rn_move E rfl rfl) ?_; clear E a; intro a E
    refine list_pure E rfl rfl (by decide) (rn_assign E rfl rfl) ?_; clear E a; intro a E
    refine list_pure E rfl rfl (by decide) (rn_assign E rfl rfl) ?_; clear E a; intro a E
    refine wpList_nil ?_
    refine then_k hK ?_; clear hK; clear K
    refine wp_ret ?_
    refine then_ret ?_; clear hK; clear K
    refine ret2 E rfl rfl rfl ?_
    exact ⟨_, rfl, _, [], rfl, by rw [ubP_no hb]; exact Buf.nil _ _, by have h := (S.addNil.only (Bs := [[]]) (sel_cons (by repeat (first | exact pk1 | apply pick_tail)) (sel_nil _))).tr; exact h⟩
  · replace hb := Nrm.nrm hb
    refine wp_skip ?_
    refine then_k hK ?_; clear hK; clear K
    refine wp_seq_k ?_; intro K hK
    have hpe := hb
    refine region_list ?_
    refine list_pure E rfl rfl (by decide) (rn_move E rfl rfl) ?_; clear E a; intro a E
    refine list_call E rfl rfl (by decide) rfl Tryd.func56 rfl (by kernel_rfl) rfl (writer_ret 96 _) ?_
    rintro v19 w ⟨p, A, rfl, hA, hT⟩; clear E a; intro a E
    have S := S.fresh hT; have hA : WrC 104 p ⟨96, [], 0⟩ A := hA
    refine list_pure E rfl rfl (by decide) (rn_assign E rfl rfl) ?_; clear E a; intro a E
    refine wpList_nil ?_
    refine then_k hK ?_; clear hK; clear K
    refine wp_seq_k ?_; intro K hK
    refine region_list ?_
    refine list_pure E rfl rfl (by decide) (rn_move E rfl rfl) ?_; clear E a; intro a E
    refine list_pure E rfl rfl (by decide) (rn_move E rfl rfl) ?_; clear E a; intro a E
    refine list_pure E rfl rfl (by decide) (rn_load_blk (vs := [_, _, _, _, _, _, _, _, _, _, _, _]) E rfl rfl rfl (S.get (by repeat (first | exact pk1 | apply pick_tail))) rfl rfl) ?_; clear E a; intro a E
    refine list_callc E rfl rfl (by decide) rfl rfl Tryd.func44 rfl (by kernel_rfl) rfl (layub_ret p 96 A x ho hpe _ hA (S.hp.sel (sel_cons (by repeat (first | exact pk1 | apply pick_tail)) (sel_nil _))) (by omega) (by omega)) ?_
    rintro v23 w ⟨A1, hA1, hT⟩; clear E a; intro a E
    have S := S.call1 (sel_cons (by repeat (first | exact pk1 | apply pick_tail)) (sel_nil _)) hT
    refine wpList_nil ?_
    refine then_k hK ?_; clear hK; clear K
    refine wp_seq_k ?_; intro K hK
    refine region_list ?_
    refine list_pure E rfl rfl (by decide) (rn_move E rfl rfl) ?_; clear E a; intro a E
    refine list_pure E rfl rfl (by decide) (rn_move E rfl rfl) ?_; clear E a; intro a E
    refine list_call E rfl rfl (by decide) rfl Tryd.func57 rfl (by kernel_rfl) rfl (pad_fit p 96 _ A1 _ hA1 96 (S.hp.sel (sel_cons (by repeat (first | exact pk1 | apply pick_tail)) (sel_nil _))) (by omega) (by rw [ubB_length]; omega) (by omega)) ?_
    rintro v26 w ⟨A2, hA2, hT⟩; clear E a; intro a E
    have S := S.call1 (sel_cons (by repeat (first | exact pk1 | apply pick_tail)) (sel_nil _)) hT; have hA2 : WrC 104 p ⟨96, pad96 (ubB x), 0⟩ A2 := hA2
    refine wpList_nil ?_
    refine then_k hK ?_; clear hK; clear K
    refine wp_seq_k ?_; intro K hK
    refine region_list ?_
    refine list_pure E rfl rfl (by decide) (rn_move E rfl rfl) ?_; clear E a; intro a E
    refine list_call E rfl rfl (by decide) rfl Tryd.func58 rfl (by kernel_rfl) rfl (done_fit p 96 _ A2 _ hA2 (S.hp.sel (sel_cons (by repeat (first | exact pk1 | apply pick_tail)) (sel_nil _))) (by rw [pad96_length (by rw [ubB_length]; omega)]; omega)) ?_
    rintro v28 w ⟨g, rfl, hT⟩; clear E a; intro a E
    have S := S.call2 (sel_cons (by repeat (first | exact pk1 | apply pick_tail)) (sel_nil _)) hT
    refine list_pure E rfl rfl (by decide) (rn_extract E rfl rfl rfl) ?_; clear E a; intro a E
    refine list_pure E rfl rfl (by decide) (rn_extract E rfl rfl rfl) ?_; clear E a; intro a E
    refine list_pure E rfl rfl (by decide) (rn_assign E rfl rfl) ?_; clear E a; intro a E
    refine list_pure E rfl rfl (by decide) (rn_assign E rfl rfl) ?_; clear E a; intro a E
    refine wpList_nil ?_
    refine then_k hK ?_; clear hK; clear K
    refine wp_ret ?_
    refine ret2 E rfl rfl rfl ?_
    exact ⟨_, rfl, _, _, by rw [hpe], by rw [ubP_ok hpe]; exact buf_bytes g (pad96 (ubB x)) _ (by rw [pad96_length (by rw [ubB_length]; omega)]; omega), (S.only (Bs := [_]) (sel_cons pk1 (sel_nil _))).tr⟩

theorem ubencode_ret (x : Ub) (ho : x.Ok) (w0 : World) :
    Ret Tryd.prog 20 #[x.agg] w0 fun u w' => ∃ v C, u = .tuple #[v, .int .i64 (ubE x)] ∧ Buf C 5 1 v (ubO x).length (byt (ubO x)) ∧ Trs w0 w' [] [C] := by
  have S := St.begin (hp_nil w0)
  refine enter1 11 Tryd.func20 rfl rfl (by decide) ?_; intro a E
  refine wp_seq_k ?_; intro K hK
  refine region_list ?_
  refine list_wp rfl (wp_box E S rfl rfl (by decide) rfl rfl ?_); clear E S a; intro a w b1 E S
  refine list_pure E rfl rfl (by decide) (rn_assign E rfl rfl) ?_; clear E a; intro a E
  refine list_pure E rfl rfl (by decide) (rn_assign E rfl rfl) ?_; clear E a; intro a E
  refine wpList_nil ?_
  refine then_k hK ?_; clear hK; clear K
  refine wp_seq_k ?_; intro K hK
  refine region_list ?_
  refine list_pure E rfl rfl (by decide) (rn_load_blk (vs := [_, _, _, _, _, _, _, _, _, _, _, _]) E rfl rfl rfl (S.get (by repeat (first | exact pk1 | apply pick_tail))) rfl rfl) ?_; clear E a; intro a E
  refine list_call E rfl rfl (by decide) rfl Tryd.func43 rfl (by kernel_rfl) rfl (laidub_ret x ho _) ?_
  rintro v5 w ⟨v, C, rfl, hC, hT⟩; clear E a; intro a E
  have S := S.fresh hT
  refine list_pure E rfl rfl (by decide) (rn_extract E rfl rfl rfl) ?_; clear E a; intro a E
  refine list_pure E rfl rfl (by decide) (rn_extract E rfl rfl rfl) ?_; clear E a; intro a E
  by_cases hz : ubE x = 0
  · skip
    rw [hz] at E
    have hpl : (pad96 (ubB x)).length = 96 := pad96_length (by rw [ubB_length]; omega)
    rw [ubP_ok hz] at hC
    refine list_call E rfl rfl (by decide) rfl Tryd.func35 rfl (by kernel_rfl) rfl (whole_ret C v (pad96 (ubB x)) hC.rd hpl _ (S.hp.sel (sel_cons (by repeat (first | exact pk1 | apply pick_tail)) (sel_nil _)))) ?_
    rintro v8 w ⟨g, rfl, hT⟩; clear E a; intro a E
    have S := S.call2 (sel_cons (by repeat (first | exact pk1 | apply pick_tail)) (sel_nil _)) hT
    refine list_pure E rfl rfl (by decide) (rn_extract E rfl rfl rfl) ?_; clear E a; intro a E
    refine list_pure E rfl rfl (by decide) (rn_extract E rfl rfl rfl) ?_; clear E a; intro a E
    refine list_pure E rfl rfl (by decide) (rn_assign E rfl rfl) ?_; clear E a; intro a E
    refine list_pure E rfl rfl (by decide) (rn_assign E rfl rfl) ?_; clear E a; intro a E
    refine wpList_nil ?_
    refine then_k hK ?_; clear hK; clear K
    refine wp_ret ?_
    refine ret2 E rfl rfl rfl ?_
    have hwl : (whole (ubB x)).length = 128 := whole_length (by rw [ubB_length]; omega)
    have hB := buf_bytes g (whole (ubB x)) 5 (by omega)
    rw [hwl] at hB
    exact ⟨_, rfl, _, _, by rw [hz], by rw [ubO_ok hz, hwl]; exact hB, (S.only (Bs := [_]) (sel_cons pk1 (sel_nil _))).tr⟩
  · skip
    refine list_call E rfl rfl (by decide) rfl Tryd.func35 rfl (by kernel_rfl) rfl (wholeno_ret v _ hz _) ?_
    rintro v8 w ⟨rfl, hT⟩; clear E a; intro a E
    have S := S.quiet hT
    refine list_pure E rfl rfl (by decide) (rn_extract E rfl rfl rfl) ?_; clear E a; intro a E
    refine list_pure E rfl rfl (by decide) (rn_extract E rfl rfl rfl) ?_; clear E a; intro a E
    refine list_pure E rfl rfl (by decide) (rn_assign E rfl rfl) ?_; clear E a; intro a E
    refine list_pure E rfl rfl (by decide) (rn_assign E rfl rfl) ?_; clear E a; intro a E
    refine wpList_nil ?_
    refine then_k hK ?_; clear hK; clear K
    refine wp_ret ?_
    refine ret2 E rfl rfl rfl ?_
    exact ⟨_, rfl, _, [], rfl, by rw [ubO_no hz]; exact Buf.nil _ _, (S.addNil.only (Bs := [[]]) (sel_cons (by repeat (first | exact pk1 | apply pick_tail)) (sel_nil _))).tr⟩
end Go.Proofs.YtmghbcaookahaaaDoor
