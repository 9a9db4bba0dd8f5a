/-
  AllocAgain, the walk: an allocator that is made of what another one has taken gives out just what that one would.
-/
import Derived.Test.YtenhebjhoicpjaaAllT
import Derived.Test.YtenhebjhoicpjaaOld
namespace Go.Sl
theorem start_some {l : List Int} {y : Al} (h : Al.start l [] = some y) : Al.badSizes l = false ∧ y = Al.new l := by
  cases hb : Al.badSizes l with
  | true => unfold Al.start at h; rw [if_pos hb] at h; cases h
  | false => rw [start_nil hb] at h; cases h; exact ⟨rfl, rfl⟩
theorem take_sizes {a : Al} (h : a.Ok) (need : List Int) : (a.take need).1.sizes = a.sizes := by
  rcases take_cases h need with ⟨-, e⟩ | ⟨-, -, e⟩ | ⟨hb, t, c, h1, h2, h3, e⟩ <;> rw [e] <;> rfl
theorem taken_len {y : Al} (h : y.Ok) : y.taken.length ≤ 16384 := by
  have h1 := takenTo_len (y := y) (fun t => (size_le h t).2) y.sizes.length
  have h2 := h.n4
  exact Nat.le_trans h1 (by omega)
theorem flat_fst {α : Type} : ∀ (l : List (Value × α)), (l.flatMap fun x => [x.1]) = l.map (·.1)
  | [] => rfl
  | x :: r => by rw [List.flatMap_cons, flat_fst r]; rfl
/-- A list of lists of numbers, read off this chunk. -/
def PcI (O : Chunk) (v : Value) (l : List (Value × List Int)) : Prop :=
  Rd O 1 v l.length (l.map (·.1)) ∧ l.length ≤ 140737488355328 ∧ ∀ x ∈ l, Rd O 1 x.1 x.2.length (x.2.map iv) ∧ x.2.length ≤ 140737488355328 ∧ ∀ z ∈ x.2, z ≤ 9223372036854775807
theorem PcI.at {O : Chunk} {v : Value} {l : List (Value × List Int)} (h : PcI O v l) {i : Nat} (hi : i < l.length) :
    ∃ (pv : Value) (pc : List Int), (l.map (·.1))[i]? = some pv ∧ Rd O 1 pv pc.length (pc.map iv) ∧ pc.length ≤ 140737488355328 ∧ ∀ z ∈ pc, z ≤ 9223372036854775807 := by
  obtain ⟨h1, h2, h3⟩ := h.2.2 l[i] (List.getElem_mem hi)
  exact ⟨l[i].1, l[i].2, by simp [hi], h1, h2, h3⟩
end Go.Sl
namespace Go.Proofs.Ytenhebjhoicpjaa
open Go.Sl
set_option maxRecDepth 10000

theorem again_walk (O : Chunk) (v0 : Value) (sz : List Int) (hO0 : Rd O 1 v0 sz.length (sz.map iv)) (hsl : sz.length ≤ 140737488355328) (v1 : Value) (nd : List (Value × List Int)) (h1 : PcI O v1 nd)
    (v2 : Value) (mo : List (Value × List Int)) (h2 : PcI O v2 mo) (w0 : World) (H : Hp w0 [O]) :
    Ret Try.prog 5 #[v0, v1, v2] w0 fun u w' => u = .bool true ∧ Trs w0 w' [O] [O] := by
  have S := St.begin H
  have hO1 := h1.1
  have hO2 := h2.1
  have hl1 := h1.2.1
  have hl2 := h2.2.1
  obtain ⟨ad0, c0, rfl⟩ := hO0.slice
  obtain ⟨ad1, c1, rfl⟩ := hO1.slice
  obtain ⟨ad2, c2, rfl⟩ := hO2.slice
  refine enter3 126 Try.func5 rfl rfl (by decide) ?_; intro a E
  refine wp_seq_k ?_; intro K hK
  refine region_list ?_
  refine list_pure E rfl rfl (by decide) (rn_assign E rfl rfl) ?_; clear E a; intro a E
  refine wpList_nil ?_
  refine then_k hK ?_; clear hK; clear K
  refine wp_seq_k ?_; intro K hK
  refine region_list ?_
  refine list_call E rfl rfl (by decide) rfl Try.func6 rfl (by kernel_rfl) rfl (awake_ret _) ?_
  rintro v23 w ⟨rfl, hT⟩; clear E a; intro a E
  have S := S.quiet hT
  refine list_pure E rfl rfl (by decide) (rn_assign E rfl rfl) ?_; clear E a; intro a E
  refine wpList_nil ?_
  refine then_k hK ?_; clear hK; clear K
  refine wp_seq_k ?_; intro K hK
  have S := S.addNil
  refine region_list ?_
  refine list_pure E rfl rfl (by decide) (rn_move E rfl rfl) ?_; clear E a; intro a E
  refine list_call E rfl rfl (by decide) rfl Try.func7 rfl (by kernel_rfl) rfl (anew_ret sz O _ hO0 (by omega) [] [] _ (Rd.nil [] 3) (by simp) _ (S.hp.sel (sel_cons (by repeat (first | exact pk1 | apply pick_tail)) (sel_cons (by repeat (first | exact pk1 | apply pick_tail)) (sel_nil _))))) ?_
  rintro v26 w hN; clear E a; intro a E
  rcases hN with ⟨hst, rfl, hT⟩ | ⟨y, p, A, hst, rfl, hA, hT⟩
  · skip
    have S := S.call2 (sel_cons (by repeat (first | exact pk1 | apply pick_tail)) (sel_cons (by repeat (first | exact pk1 | apply pick_tail)) (sel_nil _))) hT
    refine list_pure E rfl rfl (by decide) (rn_move E rfl rfl) ?_; clear E a; intro a E
    refine list_pure E rfl rfl (by decide) (rn_extract E rfl rfl rfl) ?_; clear E a; intro a E
    refine list_pure E rfl rfl (by decide) (rn_extract E rfl rfl rfl) ?_; clear E a; intro a E
    refine list_pure E rfl rfl (by decide) (rn_assign E rfl rfl) ?_; clear E a; intro a E
    refine list_pure E rfl rfl (by decide) (rn_assign E rfl rfl) ?_; clear E a; intro a E
    refine wpList_nil ?_
    refine then_k hK ?_; clear hK; clear K
    refine wp_seq_k ?_; intro K hK
    refine wp_seq_k ?_; intro K hK
    refine region_list ?_
    refine list_pure E rfl rfl (by decide) (rn_move E rfl rfl) ?_; clear E a; intro a E
    refine list_pure E rfl rfl (by decide) (by first | exact rn_neq E rfl rfl rfl | exact rn_neq_ptr_nil E rfl rfl rfl rfl | exact rn_neq_bool E rfl rfl rfl rfl | exact rn_neq_string E rfl rfl rfl) ?_; clear E a; intro a E
    refine wpList_nil ?_
    refine then_k hK ?_; clear hK; clear K
    refine if_true' E rfl (rfl) ?_
    refine wp_seq_k ?_; intro K hK
    refine region_list ?_
    refine list_pure E rfl rfl (by decide) (rn_move E rfl rfl) ?_; clear E a; intro a E
    refine list_pure E rfl rfl (by decide) (rn_assign E rfl rfl) ?_; clear E a; intro a E
    refine wpList_nil ?_
    refine then_k hK ?_; clear hK; clear K
    refine wp_ret ?_
    refine then_ret ?_; clear hK; clear K
    refine ret1 E rfl rfl ?_
    exact ⟨_, rfl, rfl, (S.only (Bs := [O]) (sel_cons (by repeat (first | exact pk1 | apply pick_tail)) (sel_nil _))).tr⟩
  · skip
    have S := S.call (sel_cons (by repeat (first | exact pk1 | apply pick_tail)) (sel_cons (by repeat (first | exact pk1 | apply pick_tail)) (sel_nil _))) hT; obtain ⟨hbad, rfl⟩ := start_some hst
    refine list_pure E rfl rfl (by decide) (rn_move E rfl rfl) ?_; clear E a; intro a E
    refine list_pure E rfl rfl (by decide) (rn_extract E rfl rfl rfl) ?_; clear E a; intro a E
    refine list_pure E rfl rfl (by decide) (rn_extract E rfl rfl rfl) ?_; clear E a; intro a E
    refine list_pure E rfl rfl (by decide) (rn_assign E rfl rfl) ?_; clear E a; intro a E
    refine list_pure E rfl rfl (by decide) (rn_assign E rfl rfl) ?_; clear E a; intro a E
    refine wpList_nil ?_
    refine then_k hK ?_; clear hK; clear K
    refine wp_seq_k ?_; intro K hK
    refine wp_seq_k ?_; intro K hK
    refine region_list ?_
    refine list_pure E rfl rfl (by decide) (rn_move E rfl rfl) ?_; clear E a; intro a E
    refine list_pure E rfl rfl (by decide) (by first | exact rn_neq E rfl rfl rfl | exact rn_neq_ptr_nil E rfl rfl rfl rfl | exact rn_neq_bool E rfl rfl rfl rfl | exact rn_neq_string E rfl rfl rfl) ?_; clear E a; intro a E
    refine wpList_nil ?_
    refine then_k hK ?_; clear hK; clear K
    refine if_false' E rfl (rfl) ?_
    refine wp_skip ?_
    refine then_k hK ?_; clear hK; clear K
    refine wp_seq_k ?_; intro K hK
    refine wp_seq_k ?_; intro K hK
    refine region_list ?_
    refine list_pure E rfl rfl (by decide) (rn_assign E rfl rfl) ?_; clear E a; intro a E
    refine wpList_nil ?_
    refine then_k hK ?_; clear hK; clear K
    refine wp_block ?_
    refine wp_loop_ghost (fun (m : Nat) (a : Act) (w' : World) => ∃ (i : Nat) (y : Al) (A : Chunk) (ks : List Int), m = nd.length - i ∧ i ≤ nd.length ∧ Sf y ks ∧ y.sizes = sz ∧ AlC p y A ∧ (∃ Xs, St w0 [O] w' (A :: O :: Xs)) ∧ Fr a 126 [(0, .slice ad0 sz.length c0), (1, .slice ad1 nd.length c1), (2, .slice ad2 mo.length c2), (7, .bool true), (8, ptr p), (10, .int .i64 i)]) (nd.length - 0) ?_ ?_
    · exact ⟨0, _, A, _, rfl, by omega, Sf.new hbad, rfl, hA, ⟨_, S⟩, E.keep (keep_cons rfl (keep_cons rfl (keep_cons rfl (keep_cons rfl (keep_cons rfl (keep_cons rfl keep_nil))))))⟩
    clear E; clear a; (try clear S); rintro m a w ⟨i, y, A, ks, rfl, hi, hS, hys, hA, ⟨Xs, S⟩, E⟩
    refine wp_seq_k ?_; intro K hK
    refine wp_seq_k ?_; intro K hK
    refine region_list ?_
    refine list_pure E rfl rfl (by decide) (rn_move E rfl rfl) ?_; clear E a; intro a E
    refine list_pure E rfl rfl (by decide) (rn_move E rfl rfl) ?_; clear E a; intro a E
    refine list_pure E rfl rfl (by decide) (by first | exact rn_len E rfl rfl rfl | exact rn_len_str E rfl rfl rfl | exact rn_len_string E rfl rfl rfl) ?_; clear E a; intro a E
    refine list_pure E rfl rfl (by decide) (rn_lss E rfl rfl rfl) ?_; clear E a; intro a E
    refine wpList_nil ?_
    refine then_k hK ?_; clear hK; clear K
    refine if_bool E rfl (fun hb => ?_) (fun hb => ?_)
    · replace hb := Nrm.nrm hb
      refine wp_skip ?_
      refine then_k hK ?_; clear hK; clear K
      refine wp_seq_k ?_; intro K hK
      refine wp_block ?_
      refine wp_seq_k ?_; intro K hK
      have hil : i < nd.length := by omega
      obtain ⟨pv, pc, hcell, hpr, hpl, hpm⟩ := h1.at hil
      obtain ⟨g, off, rfl⟩ := hO1.addr (by omega)
      obtain ⟨⟨ks1, hS1⟩, hun⟩ := hS.take pc
      have hsz1 := (take_sizes hS.ok pc).trans hys
      obtain ⟨y1, q, er, htk⟩ : ∃ y1 q er, y.take pc = (y1, q, er) := ⟨_, _, _, rfl⟩
      rw [htk] at hS1 hun hsz1
      dsimp only at hS1 hun hsz1
      refine region_list ?_
      refine list_pure E rfl rfl (by decide) (rn_move E rfl rfl) ?_; clear E a; intro a E
      refine list_pure E rfl rfl (by decide) (rn_move E rfl rfl) ?_; clear E a; intro a E
      refine list_pure E rfl rfl (by decide) (rn_move E rfl rfl) ?_; clear E a; intro a E
      refine list_pure E rfl rfl (by decide) (by first | exact rn_indexAddr1 E rfl rfl rfl rfl rfl rfl (by omega) | exact rn_indexAddr E rfl rfl rfl rfl rfl rfl (by omega) | exact rn_indexAddr_array E rfl rfl rfl rfl rfl rfl (by omega)) ?_; clear E a; intro a E
      refine list_pure E rfl rfl (by decide) (rn_loadc E rfl rfl rfl (hO1.cells (S.stab.at (by repeat (first | exact mm1 | assumption | apply List.Mem.tail))) rfl i _ hcell)) ?_; clear E a; intro a E
      refine list_call E rfl rfl (by decide) rfl Try.func8 rfl (by kernel_rfl) rfl (take_ret p y A hA O _ pc hpl hpm hpr _ (S.hp.sel (sel_cons (by repeat (first | exact pk1 | apply pick_tail)) (sel_cons (by repeat (first | exact pk1 | apply pick_tail)) (sel_nil _))))) ?_
      rintro v44 w ⟨rfl, A1, hA1, hT⟩; clear E a; intro a E
      have S := S.call2 (sel_cons (by repeat (first | exact pk1 | apply pick_tail)) (sel_cons (by repeat (first | exact pk1 | apply pick_tail)) (sel_nil _))) hT; rw [htk] at hA1 E; dsimp only at hA1 E
      refine list_pure E rfl rfl (by decide) (rn_move E rfl rfl) ?_; clear E a; intro a E
      refine list_pure E rfl rfl (by decide) (rn_extract E rfl rfl rfl) ?_; clear E a; intro a E
      refine list_pure E rfl rfl (by decide) (rn_extract E rfl rfl rfl) ?_; clear E a; intro a E
      refine list_wp rfl (wp_alloc E S rfl rfl (by decide) rfl rfl rfl ?_); clear E S a; intro a w b11 E S
      refine list_wp rfl (wp_storeN E S rfl rfl rfl rfl (by simp [Value.oneCell']) rfl (by repeat (first | exact pk1 | apply pick_tail)) (by simp) ?_); clear E S a; intro a w E S; simp only [List.take_succ_cons, List.take_zero, List.drop_succ_cons, List.drop_zero, List.cons_append, List.nil_append, List.append_nil, List.length_cons, List.length_nil, Nat.zero_add, Nat.add_zero] at S
      refine list_pure E rfl rfl (by decide) (rn_assign E rfl rfl) ?_; clear E a; intro a E
      refine wpList_nil ?_
      refine then_k hK ?_; clear hK; clear K
      refine wp_seq_k ?_; intro K hK
      refine wp_join (fun (a : Act) (w' : World) => ∃ bb : Bool, (bb = true → er = 0) ∧ (∃ Xs, St w0 [O] w' (A1 :: [(b11, cel [.int .i64 q.top, .int .i64 q.sp.at_, .int .i64 q.sp.many] 33)] :: O :: Xs)) ∧ Fr a 126 [(0, .slice ad0 sz.length c0), (1, .slice (some ⟨g, off, none⟩) nd.length c1), (2, .slice ad2 mo.length c2), (7, .bool true), (8, ptr p), (10, .int .i64 i), (11, ptr b11), (53, .bool bb)]) ?_ ?_
      · skip
        refine region_list ?_
        refine list_pure E rfl rfl (by decide) (rn_move E rfl rfl) ?_; clear E a; intro a E
        refine list_pure E rfl rfl (by decide) (by first | exact rn_eql E rfl rfl rfl | exact rn_eql_ptr_nil E rfl rfl rfl rfl | exact rn_eql_bool E rfl rfl rfl rfl | exact rn_eql_string E rfl rfl rfl) ?_; clear E a; intro a E
        refine list_pure E rfl rfl (by decide) (rn_move E rfl rfl) ?_; clear E a; intro a E
        refine guard_split E (t := 49) rfl (fun hb49 => ?_) (fun hb49 => ?_)
        · have hb49n := hb49; replace hb49n := Nrm.nrm hb49n
          refine list_guard_yes E rfl rfl rfl rfl hb49 rfl (by decide) (rn_move E rfl rfl) ?_; clear E a; intro a E
          refine list_guard_yes E rfl rfl rfl rfl hb49 rfl (by decide) (rn_rem E rfl rfl rfl (by decide) (by first | exact wr_lit (y := 3) | exact rfl)) ?_; clear E a; intro a E
          refine list_guard_yes E rfl rfl rfl rfl hb49 rfl (by decide) (by first | exact rn_eql E rfl rfl rfl | exact rn_eql_ptr_nil E rfl rfl rfl rfl | exact rn_eql_bool E rfl rfl rfl rfl | exact rn_eql_string E rfl rfl rfl) ?_; clear E a; intro a E
          refine list_pure E rfl rfl (by decide) (rn_pick_yes' E rfl rfl hb49 rfl) ?_; clear E a; intro a E
          refine wpList_nil ?_
          refine joined_here ?_
          exact ⟨_, fun _ => by simpa using hb49, ⟨_, S.front3 (A := A1) (B := [(b11, _)]) (C := O) (by repeat (first | exact pk1 | apply pick_tail)) (by repeat (first | exact pk1 | apply pick_tail)) (by repeat (first | exact pk1 | apply pick_tail))⟩, E.keep (keep_cons rfl (keep_cons rfl (keep_cons rfl (keep_cons rfl (keep_cons rfl (keep_cons rfl (keep_cons rfl (keep_cons rfl keep_nil))))))))⟩
        · have hb49n := hb49; replace hb49n := Nrm.nrm hb49n
          refine list_guard_no E rfl rfl rfl rfl hb49 rfl (by decide) ?_; clear E a; intro a E
          refine list_guard_no E rfl rfl rfl rfl hb49 rfl (by decide) ?_; clear E a; intro a E
          refine list_guard_no E rfl rfl rfl rfl hb49 rfl (by decide) ?_; clear E a; intro a E
          refine list_pure E rfl rfl (by decide) (rn_pick_no' E rfl rfl hb49 rfl) ?_; clear E a; intro a E
          refine wpList_nil ?_
          refine joined_here ?_
          exact ⟨_, fun h => by simp at h, ⟨_, S.front3 (A := A1) (B := [(b11, _)]) (C := O) (by repeat (first | exact pk1 | apply pick_tail)) (by repeat (first | exact pk1 | apply pick_tail)) (by repeat (first | exact pk1 | apply pick_tail))⟩, E.keep (keep_cons rfl (keep_cons rfl (keep_cons rfl (keep_cons rfl (keep_cons rfl (keep_cons rfl (keep_cons rfl (keep_cons rfl keep_nil))))))))⟩
      · clear E S a; intro a w J; obtain ⟨bb, hbb, ⟨Xs, S⟩, E⟩ := J
        refine then_k hK ?_; clear hK; clear K
        refine wp_join (fun (a : Act) (w' : World) => ∃ (y2 : Al) (A2 : Chunk) (ks2 : List Int), Sf y2 ks2 ∧ y2.sizes = sz ∧ AlC p y2 A2 ∧ (∃ Xs, St w0 [O] w' (A2 :: O :: Xs)) ∧ Fr a 126 [(0, .slice ad0 sz.length c0), (1, .slice (some ⟨g, off, none⟩) nd.length c1), (2, .slice ad2 mo.length c2), (7, .bool true), (8, ptr p), (10, .int .i64 i)]) ?_ ?_
        · skip
          refine if_bool E rfl (fun hb => ?_) (fun hb => ?_)
          · replace hb := Nrm.nrm hb
            refine wp_seq_k ?_; intro K hK
            refine region_list ?_
            refine list_pure E rfl rfl (by decide) (rn_move E rfl rfl) ?_; clear E a; intro a E
            refine list_pure E rfl rfl (by decide) (rn_load_blk (vs := [_, _, _]) E rfl rfl rfl (S.get (by repeat (first | exact pk1 | apply pick_tail))) rfl rfl) ?_; clear E a; intro a E
            refine list_call E rfl rfl (by decide) rfl Try.func15 rfl (by kernel_rfl) rfl (aundo_ret p y1 q A1 hA1 _ (S.hp.sel (sel_cons (by repeat (first | exact pk1 | apply pick_tail)) (sel_nil _)))) ?_
            rintro v56 w ⟨rfl, A2, hA2, hT⟩; clear E a; intro a E
            have S := S.call1 (sel_cons (by repeat (first | exact pk1 | apply pick_tail)) (sel_nil _)) hT; rw [hun (hbb hb)] at hA2 E; dsimp only at hA2 E
            refine list_pure E rfl rfl (by decide) (rn_assign E rfl rfl) ?_; clear E a; intro a E
            refine wpList_nil ?_
            refine then_k hK ?_; clear hK; clear K
            refine wp_seq_k ?_; intro K hK
            refine region_list ?_
            refine list_pure E rfl rfl (by decide) (rn_move E rfl rfl) ?_; clear E a; intro a E
            refine list_pure E rfl rfl (by decide) (by first | exact rn_neq E rfl rfl rfl | exact rn_neq_ptr_nil E rfl rfl rfl rfl | exact rn_neq_bool E rfl rfl rfl rfl | exact rn_neq_string E rfl rfl rfl) ?_; clear E a; intro a E
            refine wpList_nil ?_
            refine then_k hK ?_; clear hK; clear K
            refine if_false' E rfl (rfl) ?_
            refine wp_skip ?_
            refine joined_here ?_
            exact ⟨y, A2, ks, hS, hys, hA2, ⟨_, S.front2 (A := A2) (B := O) (by repeat (first | exact pk1 | apply pick_tail)) (by repeat (first | exact pk1 | apply pick_tail))⟩, E.keep (keep_cons rfl (keep_cons rfl (keep_cons rfl (keep_cons rfl (keep_cons rfl (keep_cons rfl keep_nil))))))⟩
          · replace hb := Nrm.nrm hb
            refine wp_skip ?_
            refine joined_here ?_
            exact ⟨y1, A1, ks1, hS1, hsz1, hA1, ⟨_, S.front2 (A := A1) (B := O) (by repeat (first | exact pk1 | apply pick_tail)) (by repeat (first | exact pk1 | apply pick_tail))⟩, E.keep (keep_cons rfl (keep_cons rfl (keep_cons rfl (keep_cons rfl (keep_cons rfl (keep_cons rfl keep_nil))))))⟩
        · clear S E a; intro a w J; obtain ⟨y2, A2, ks2, hS2, hys2, hA2, ⟨Xs, S⟩, E⟩ := J
          refine in_normal ?_
          refine then_k hK ?_; clear hK; clear K
          refine region_list ?_
          refine list_pure E rfl rfl (by decide) (rn_move E rfl rfl) ?_; clear E a; intro a E
          refine list_pure E rfl rfl (by decide) (rn_add E rfl rfl rfl (by first | exact wa_lit (y := 1) (by omega) | exact w_in (by omega) | exact w_inu (by omega) | exact rfl)) ?_; clear E a; intro a E
          refine list_pure E rfl rfl (by decide) (rn_assign E rfl rfl) ?_; clear E a; intro a E
          refine wpList_nil ?_
          refine then_normal ?_
          exact ⟨_, by omega, i + 1, y2, A2, ks2, rfl, by omega, hS2, hys2, hA2, ⟨_, S⟩, E.keep (keep_cons rfl (keep_cons rfl (keep_cons rfl (keep_cons rfl (keep_cons rfl (keep_cons rfl keep_nil))))))⟩
    · replace hb := Nrm.nrm hb
      refine wp_exit ?_
      refine then_exit ?_; clear hK; clear K
      refine then_exit ?_
      refine in_exit ?_
      refine then_k hK ?_; clear hK; clear K
      refine wp_seq_k ?_; intro K hK
      have hst := hS.again
      rw [hys] at hst
      refine region_list ?_
      refine list_pure E rfl rfl (by decide) (rn_move E rfl rfl) ?_; clear E a; intro a E
      refine list_pure E rfl rfl (by decide) (rn_move E rfl rfl) ?_; clear E a; intro a E
      refine list_call E rfl rfl (by decide) rfl Try.func14 rfl (by kernel_rfl) rfl (ataken_ret p y A hA _ (S.hp.sel (sel_cons (by repeat (first | exact pk1 | apply pick_tail)) (sel_nil _)))) ?_
      rintro v62 w ⟨D, hD, hT⟩; clear E a; intro a E
      have S := S.call2 (sel_cons (by repeat (first | exact pk1 | apply pick_tail)) (sel_nil _)) hT
      refine list_call E rfl rfl (by decide) rfl Try.func7 rfl (by kernel_rfl) rfl (anew_ret sz O _ hO0 (by omega) y.taken D _ hD.rd (by have := taken_len hS.ok; omega) _ (S.hp.sel (sel_cons (by repeat (first | exact pk1 | apply pick_tail)) (sel_cons (by repeat (first | exact pk1 | apply pick_tail)) (sel_nil _))))) ?_
      rintro v63 w hN; clear E a; intro a E
      obtain ⟨y', p2, B, h, rfl, hB, hT⟩ := hN.resolve_left (fun z => by rw [hst] at z; cases z.1); rw [hst] at h; cases h; have S := S.call (sel_cons (by repeat (first | exact pk1 | apply pick_tail)) (sel_cons (by repeat (first | exact pk1 | apply pick_tail)) (sel_nil _))) hT
      refine list_pure E rfl rfl (by decide) (rn_move E rfl rfl) ?_; clear E a; intro a E
      refine list_pure E rfl rfl (by decide) (rn_extract E rfl rfl rfl) ?_; clear E a; intro a E
      refine list_pure E rfl rfl (by decide) (rn_extract E rfl rfl rfl) ?_; clear E a; intro a E
      refine list_pure E rfl rfl (by decide) (rn_assign E rfl rfl) ?_; clear E a; intro a E
      refine list_pure E rfl rfl (by decide) (rn_assign E rfl rfl) ?_; clear E a; intro a E
      refine wpList_nil ?_
      refine then_k hK ?_; clear hK; clear K
      refine wp_seq_k ?_; intro K hK
      refine wp_seq_k ?_; intro K hK
      refine region_list ?_
      refine list_pure E rfl rfl (by decide) (rn_move E rfl rfl) ?_; clear E a; intro a E
      refine list_pure E rfl rfl (by decide) (by first | exact rn_neq E rfl rfl rfl | exact rn_neq_ptr_nil E rfl rfl rfl rfl | exact rn_neq_bool E rfl rfl rfl rfl | exact rn_neq_string E rfl rfl rfl) ?_; clear E a; intro a E
      refine list_pure E rfl rfl (by decide) (rn_move E rfl rfl) ?_; clear E a; intro a E
      refine guard_false E (t := 68) rfl (rfl) (fun hb68 => ?_)
      refine list_guard_yes E rfl rfl rfl rfl hb68 rfl (by decide) (rn_move E rfl rfl) ?_; clear E a; intro a E
      refine list_guard_yes E rfl rfl rfl rfl hb68 rfl (by decide) (by first | exact rn_eql E rfl rfl rfl | exact rn_eql_ptr_nil E rfl rfl rfl rfl | exact rn_eql_bool E rfl rfl rfl rfl | exact rn_eql_string E rfl rfl rfl) ?_; clear E a; intro a E
      refine list_pure E rfl rfl (by decide) (rn_pick_no' E rfl rfl hb68 rfl) ?_; clear E a; intro a E
      refine wpList_nil ?_
      refine then_k hK ?_; clear hK; clear K
      refine if_false' E rfl (rfl) ?_
      refine wp_skip ?_
      refine then_k hK ?_; clear hK; clear K
      refine wp_seq_k ?_; intro K hK
      refine wp_seq_k ?_; intro K hK
      replace E := E.keep (e' := [(0, _), (2, _), (7, _), (8, _), (14, _)]) (keep_cons rfl (keep_cons rfl (keep_cons rfl (keep_cons rfl (keep_cons rfl (keep_nil))))))
      refine region_list ?_
      refine list_pure E rfl rfl (by decide) (rn_assign E rfl rfl) ?_; clear E a; intro a E
      refine wpList_nil ?_
      refine then_k hK ?_; clear hK; clear K
      refine wp_block ?_
      refine wp_loop_ghost (fun (m : Nat) (a : Act) (w' : World) => ∃ (i : Nat) (y : Al) (A B : Chunk) (ks : List Int), m = mo.length - i ∧ i ≤ mo.length ∧ Sf y ks ∧ y.sizes = sz ∧ AlC p y A ∧ AlC p2 y B ∧ (∃ Xs, St w0 [O] w' (A :: B :: O :: Xs)) ∧ Fr a 126 [(0, .slice ad0 sz.length c0), (2, .slice ad2 mo.length c2), (7, .bool true), (8, ptr p), (14, ptr p2), (16, .int .i64 i)]) (mo.length - 0) ?_ ?_
      · exact ⟨0, y, A, B, ks, rfl, by omega, hS, hys, hA, hB, ⟨_, S.front3 (A := A) (B := B) (C := O) (by repeat (first | exact pk1 | apply pick_tail)) (by repeat (first | exact pk1 | apply pick_tail)) (by repeat (first | exact pk1 | apply pick_tail))⟩, E.keep (keep_cons rfl (keep_cons rfl (keep_cons rfl (keep_cons rfl (keep_cons rfl (keep_cons rfl keep_nil))))))⟩
      clear E; clear a; (try clear S); rintro m a w ⟨i, y, A, B, ks, rfl, hi, hS, hys, hA, hB, ⟨Xs, S⟩, E⟩
      refine wp_seq_k ?_; intro K hK
      refine wp_seq_k ?_; intro K hK
      refine region_list ?_
      refine list_pure E rfl rfl (by decide) (rn_move E rfl rfl) ?_; clear E a; intro a E
      refine list_pure E rfl rfl (by decide) (rn_move E rfl rfl) ?_; clear E a; intro a E
      refine list_pure E rfl rfl (by decide) (by first | exact rn_len E rfl rfl rfl | exact rn_len_str E rfl rfl rfl | exact rn_len_string E rfl rfl rfl) ?_; clear E a; intro a E
      refine list_pure E rfl rfl (by decide) (rn_lss E rfl rfl rfl) ?_; clear E a; intro a E
      refine wpList_nil ?_
      refine then_k hK ?_; clear hK; clear K
      refine if_bool E rfl (fun hb => ?_) (fun hb => ?_)
      · replace hb := Nrm.nrm hb
        refine wp_skip ?_
        refine then_k hK ?_; clear hK; clear K
        refine wp_seq_k ?_; intro K hK
        refine wp_block ?_
        refine wp_seq_k ?_; intro K hK
        have hil : i < mo.length := by omega
        obtain ⟨pv, pc, hcell, hpr, hpl, hpm⟩ := h2.at hil
        obtain ⟨g, off, rfl⟩ := hO2.addr (by omega)
        obtain ⟨⟨ks1, hS1⟩, hun⟩ := hS.take pc
        have hsz1 := (take_sizes hS.ok pc).trans hys
        obtain ⟨y1, q, er, htk⟩ : ∃ y1 q er, y.take pc = (y1, q, er) := ⟨_, _, _, rfl⟩
        rw [htk] at hS1 hun hsz1
        dsimp only at hS1 hun hsz1
        refine region_list ?_
        refine list_pure E rfl rfl (by decide) (rn_move E rfl rfl) ?_; clear E a; intro a E
        refine list_pure E rfl rfl (by decide) (rn_move E rfl rfl) ?_; clear E a; intro a E
        refine list_pure E rfl rfl (by decide) (rn_move E rfl rfl) ?_; clear E a; intro a E
        refine list_pure E rfl rfl (by decide) (by first | exact rn_indexAddr1 E rfl rfl rfl rfl rfl rfl (by omega) | exact rn_indexAddr E rfl rfl rfl rfl rfl rfl (by omega) | exact rn_indexAddr_array E rfl rfl rfl rfl rfl rfl (by omega)) ?_; clear E a; intro a E
        refine list_pure E rfl rfl (by decide) (rn_loadc E rfl rfl rfl (hO2.cells (S.stab.at (by repeat (first | exact mm1 | assumption | apply List.Mem.tail))) rfl i _ hcell)) ?_; clear E a; intro a E
        refine list_call E rfl rfl (by decide) rfl Try.func8 rfl (by kernel_rfl) rfl (take_ret p y A hA O _ pc hpl hpm hpr _ (S.hp.sel (sel_cons (by repeat (first | exact pk1 | apply pick_tail)) (sel_cons (by repeat (first | exact pk1 | apply pick_tail)) (sel_nil _))))) ?_
        rintro v84 w ⟨rfl, A1, hA1, hT⟩; clear E a; intro a E
        have S := S.call2 (sel_cons (by repeat (first | exact pk1 | apply pick_tail)) (sel_cons (by repeat (first | exact pk1 | apply pick_tail)) (sel_nil _))) hT; rw [htk] at hA1 E; dsimp only at hA1 E
        refine list_pure E rfl rfl (by decide) (rn_move E rfl rfl) ?_; clear E a; intro a E
        refine list_pure E rfl rfl (by decide) (rn_extract E rfl rfl rfl) ?_; clear E a; intro a E
        refine list_pure E rfl rfl (by decide) (rn_extract E rfl rfl rfl) ?_; clear E a; intro a E
        refine list_wp rfl (wp_alloc E S rfl rfl (by decide) rfl rfl rfl ?_); clear E S a; intro a w b17 E S
        refine list_wp rfl (wp_storeN E S rfl rfl rfl rfl (by simp [Value.oneCell']) rfl (by repeat (first | exact pk1 | apply pick_tail)) (by simp) ?_); clear E S a; intro a w E S; simp only [List.take_succ_cons, List.take_zero, List.drop_succ_cons, List.drop_zero, List.cons_append, List.nil_append, List.append_nil, List.length_cons, List.length_nil, Nat.zero_add, Nat.add_zero] at S
        refine list_pure E rfl rfl (by decide) (rn_assign E rfl rfl) ?_; clear E a; intro a E
        refine wpList_nil ?_
        refine then_k hK ?_; clear hK; clear K
        refine wp_seq_k ?_; intro K hK
        refine region_list ?_
        refine list_pure E rfl rfl (by decide) (rn_move E rfl rfl) ?_; clear E a; intro a E
        refine list_pure E rfl rfl (by decide) (rn_move E rfl rfl) ?_; clear E a; intro a E
        refine list_pure E rfl rfl (by decide) (rn_move E rfl rfl) ?_; clear E a; intro a E
        refine list_pure E rfl rfl (by decide) (by first | exact rn_indexAddr1 E rfl rfl rfl rfl rfl rfl (by omega) | exact rn_indexAddr E rfl rfl rfl rfl rfl rfl (by omega) | exact rn_indexAddr_array E rfl rfl rfl rfl rfl rfl (by omega)) ?_; clear E a; intro a E
        refine list_pure E rfl rfl (by decide) (rn_loadc E rfl rfl rfl (hO2.cells (S.stab.at (by repeat (first | exact mm1 | assumption | apply List.Mem.tail))) rfl i _ hcell)) ?_; clear E a; intro a E
        refine list_call E rfl rfl (by decide) rfl Try.func8 rfl (by kernel_rfl) rfl (take_ret p2 y B hB O _ pc hpl hpm hpr _ (S.hp.sel (sel_cons (by repeat (first | exact pk1 | apply pick_tail)) (sel_cons (by repeat (first | exact pk1 | apply pick_tail)) (sel_nil _))))) ?_
        rintro v93 w ⟨rfl, B1, hB1, hT⟩; clear E a; intro a E
        have S := S.call2 (sel_cons (by repeat (first | exact pk1 | apply pick_tail)) (sel_cons (by repeat (first | exact pk1 | apply pick_tail)) (sel_nil _))) hT; rw [htk] at hB1 E; dsimp only at hB1 E
        refine list_pure E rfl rfl (by decide) (rn_move E rfl rfl) ?_; clear E a; intro a E
        refine list_pure E rfl rfl (by decide) (rn_extract E rfl rfl rfl) ?_; clear E a; intro a E
        refine list_pure E rfl rfl (by decide) (rn_extract E rfl rfl rfl) ?_; clear E a; intro a E
        refine list_wp rfl (wp_alloc E S rfl rfl (by decide) rfl rfl rfl ?_); clear E S a; intro a w b19 E S
        refine list_wp rfl (wp_storeN E S rfl rfl rfl rfl (by simp [Value.oneCell']) rfl (by repeat (first | exact pk1 | apply pick_tail)) (by simp) ?_); clear E S a; intro a w E S; simp only [List.take_succ_cons, List.take_zero, List.drop_succ_cons, List.drop_zero, List.cons_append, List.nil_append, List.append_nil, List.length_cons, List.length_nil, Nat.zero_add, Nat.add_zero] at S
        refine list_pure E rfl rfl (by decide) (rn_assign E rfl rfl) ?_; clear E a; intro a E
        refine wpList_nil ?_
        refine then_k hK ?_; clear hK; clear K
        refine wp_seq_k ?_; intro K hK
        refine region_list ?_
        refine list_pure E rfl rfl (by decide) (rn_load_blk (vs := [_, _, _]) E rfl rfl rfl (S.get (by repeat (first | exact pk1 | apply pick_tail))) rfl rfl) ?_; clear E a; intro a E
        refine list_pure E rfl rfl (by decide) (rn_load_blk (vs := [_, _, _]) E rfl rfl rfl (S.get (by repeat (first | exact pk1 | apply pick_tail))) rfl rfl) ?_; clear E a; intro a E
        refine list_pure E rfl rfl (by decide) (by first | exact rn_neq_pair E rfl rfl rfl rfl (by kernel_rfl) (by kernel_rfl) rfl rfl rfl | exact rn_neq_cells E rfl rfl rfl rfl (by kernel_rfl) (by kernel_rfl) rfl) ?_; clear E a; intro a E
        refine list_pure E rfl rfl (by decide) (rn_move E rfl rfl) ?_; clear E a; intro a E
        refine guard_false E (t := 99) rfl ((by simp)) (fun hb99 => ?_)
        refine list_guard_yes E rfl rfl rfl rfl hb99 rfl (by decide) (rn_move E rfl rfl) ?_; clear E a; intro a E
        refine list_guard_yes E rfl rfl rfl rfl hb99 rfl (by decide) (rn_move E rfl rfl) ?_; clear E a; intro a E
        refine list_guard_yes E rfl rfl rfl rfl hb99 rfl (by decide) (by first | exact rn_neq E rfl rfl rfl | exact rn_neq_ptr_nil E rfl rfl rfl rfl | exact rn_neq_bool E rfl rfl rfl rfl | exact rn_neq_string E rfl rfl rfl) ?_; clear E a; intro a E
        refine list_pure E rfl rfl (by decide) (rn_pick_no' E rfl rfl hb99 rfl) ?_; clear E a; intro a E
        refine wpList_nil ?_
        refine then_k hK ?_; clear hK; clear K
        refine if_false' E rfl ((by simp)) ?_
        refine wp_skip ?_
        refine in_normal ?_
        refine then_k hK ?_; clear hK; clear K
        refine region_list ?_
        refine list_pure E rfl rfl (by decide) (rn_move E rfl rfl) ?_; clear E a; intro a E
        refine list_pure E rfl rfl (by decide) (rn_add E rfl rfl rfl (by first | exact wa_lit (y := 1) (by omega) | exact w_in (by omega) | exact w_inu (by omega) | exact rfl)) ?_; clear E a; intro a E
        refine list_pure E rfl rfl (by decide) (rn_assign E rfl rfl) ?_; clear E a; intro a E
        refine wpList_nil ?_
        refine then_normal ?_
        exact ⟨_, by omega, i + 1, y1, A1, B1, ks1, rfl, by omega, hS1, hsz1, hA1, hB1, ⟨_, S.front3 (A := A1) (B := B1) (C := O) (by repeat (first | exact pk1 | apply pick_tail)) (by repeat (first | exact pk1 | apply pick_tail)) (by repeat (first | exact pk1 | apply pick_tail))⟩, E.keep (keep_cons rfl (keep_cons rfl (keep_cons rfl (keep_cons rfl (keep_cons rfl (keep_cons rfl keep_nil))))))⟩
      · replace hb := Nrm.nrm hb
        refine wp_exit ?_
        refine then_exit ?_; clear hK; clear K
        refine then_exit ?_
        refine in_exit ?_
        refine then_k hK ?_; clear hK; clear K
        refine wp_seq_k ?_; intro K hK
        refine wp_seq_k ?_; intro K hK
        refine region_list ?_
        refine list_pure E rfl rfl (by decide) (rn_assign E rfl rfl) ?_; clear E a; intro a E
        refine wpList_nil ?_
        refine then_k hK ?_; clear hK; clear K
        refine wp_block ?_
        refine wp_loop_ghost (fun (m : Nat) (a : Act) (w' : World) => ∃ i : Nat, m = sz.length - i ∧ i ≤ sz.length ∧ (∃ Xs, St w0 [O] w' (A :: B :: O :: Xs)) ∧ Fr a 126 [(0, .slice ad0 sz.length c0), (7, .bool true), (8, ptr p), (14, ptr p2), (21, .int .i64 i)]) (sz.length - 0) ?_ ?_
        · exact ⟨0, rfl, by omega, ⟨_, S⟩, E.keep (keep_cons rfl (keep_cons rfl (keep_cons rfl (keep_cons rfl (keep_cons rfl keep_nil)))))⟩
        clear E; clear a; (try clear S); rintro m a w ⟨i, rfl, hi, ⟨Xs, S⟩, E⟩
        refine wp_seq_k ?_; intro K hK
        refine wp_seq_k ?_; intro K hK
        refine region_list ?_
        refine list_pure E rfl rfl (by decide) (rn_move E rfl rfl) ?_; clear E a; intro a E
        refine list_pure E rfl rfl (by decide) (rn_move E rfl rfl) ?_; clear E a; intro a E
        refine list_pure E rfl rfl (by decide) (by first | exact rn_len E rfl rfl rfl | exact rn_len_str E rfl rfl rfl | exact rn_len_string E rfl rfl rfl) ?_; clear E a; intro a E
        refine list_pure E rfl rfl (by decide) (rn_lss E rfl rfl rfl) ?_; clear E a; intro a E
        refine wpList_nil ?_
        refine then_k hK ?_; clear hK; clear K
        refine if_bool E rfl (fun hb => ?_) (fun hb => ?_)
        · replace hb := Nrm.nrm hb
          refine wp_skip ?_
          refine then_k hK ?_; clear hK; clear K
          refine wp_seq_k ?_; intro K hK
          refine wp_block ?_
          refine wp_seq_k ?_; intro K hK
          refine region_list ?_
          refine list_pure E rfl rfl (by decide) (rn_move E rfl rfl) ?_; clear E a; intro a E
          refine list_pure E rfl rfl (by decide) (rn_move E rfl rfl) ?_; clear E a; intro a E
          refine list_call E rfl rfl (by decide) rfl Try.func13 rfl (by kernel_rfl) rfl (aroom_ret p y i (by omega) A hA _ (S.hp.sel (sel_cons (by repeat (first | exact pk1 | apply pick_tail)) (sel_nil _)))) ?_
          rintro v112 w ⟨rfl, hT⟩; clear E a; intro a E
          have S := S.call1 (sel_cons (by repeat (first | exact pk1 | apply pick_tail)) (sel_nil _)) hT
          refine list_pure E rfl rfl (by decide) (rn_move E rfl rfl) ?_; clear E a; intro a E
          refine list_pure E rfl rfl (by decide) (rn_move E rfl rfl) ?_; clear E a; intro a E
          refine list_call E rfl rfl (by decide) rfl Try.func13 rfl (by kernel_rfl) rfl (aroom_ret p2 y i (by omega) B hB _ (S.hp.sel (sel_cons (by repeat (first | exact pk1 | apply pick_tail)) (sel_nil _)))) ?_
          rintro v115 w ⟨rfl, hT⟩; clear E a; intro a E
          have S := S.call1 (sel_cons (by repeat (first | exact pk1 | apply pick_tail)) (sel_nil _)) hT
          refine list_pure E rfl rfl (by decide) (by first | exact rn_neq E rfl rfl rfl | exact rn_neq_ptr_nil E rfl rfl rfl rfl | exact rn_neq_bool E rfl rfl rfl rfl | exact rn_neq_string E rfl rfl rfl) ?_; clear E a; intro a E
          refine wpList_nil ?_
          refine then_k hK ?_; clear hK; clear K
          refine if_false' E rfl ((by simp)) ?_
          refine wp_skip ?_
          refine in_normal ?_
          refine then_k hK ?_; clear hK; clear K
          refine region_list ?_
          refine list_pure E rfl rfl (by decide) (rn_move E rfl rfl) ?_; clear E a; intro a E
          refine list_pure E rfl rfl (by decide) (rn_add E rfl rfl rfl (by first | exact wa_lit (y := 1) (by omega) | exact w_in (by omega) | exact w_inu (by omega) | exact rfl)) ?_; clear E a; intro a E
          refine list_pure E rfl rfl (by decide) (rn_assign E rfl rfl) ?_; clear E a; intro a E
          refine wpList_nil ?_
          refine then_normal ?_
          exact ⟨_, by omega, i + 1, rfl, by omega, ⟨_, S.front3 (A := A) (B := B) (C := O) (by repeat (first | exact pk1 | apply pick_tail)) (by repeat (first | exact pk1 | apply pick_tail)) (by repeat (first | exact pk1 | apply pick_tail))⟩, E.keep (keep_cons rfl (keep_cons rfl (keep_cons rfl (keep_cons rfl (keep_cons rfl keep_nil)))))⟩
        · replace hb := Nrm.nrm hb
          refine wp_exit ?_
          refine then_exit ?_; clear hK; clear K
          refine then_exit ?_
          refine in_exit ?_
          refine then_k hK ?_; clear hK; clear K
          refine wp_seq_k ?_; intro K hK
          refine region_list ?_
          refine list_pure E rfl rfl (by decide) (rn_move E rfl rfl) ?_; clear E a; intro a E
          refine list_call E rfl rfl (by decide) rfl Try.func14 rfl (by kernel_rfl) rfl (ataken_ret p y A hA _ (S.hp.sel (sel_cons (by repeat (first | exact pk1 | apply pick_tail)) (sel_nil _)))) ?_
          rintro v118 w ⟨D1, hD1, hT⟩; clear E a; intro a E
          have S := S.call2 (sel_cons (by repeat (first | exact pk1 | apply pick_tail)) (sel_nil _)) hT
          refine list_pure E rfl rfl (by decide) (rn_move E rfl rfl) ?_; clear E a; intro a E
          refine list_call E rfl rfl (by decide) rfl Try.func14 rfl (by kernel_rfl) rfl (ataken_ret p2 y B hB _ (S.hp.sel (sel_cons (by repeat (first | exact pk1 | apply pick_tail)) (sel_nil _)))) ?_
          rintro v120 w ⟨D2, hD2, hT⟩; clear E a; intro a E
          have S := S.call2 (sel_cons (by repeat (first | exact pk1 | apply pick_tail)) (sel_nil _)) hT
          refine list_call E rfl rfl (by decide) rfl Try.func16 rfl (by kernel_rfl) rfl (same_ret D1 D2 _ _ y.taken y.taken hD1.rd hD2.rd (by have := taken_len hS.ok; omega) (show D1 ∈ _ from (by repeat (first | exact mm1 | assumption | apply List.Mem.tail))) (show D2 ∈ _ from (by repeat (first | exact mm1 | assumption | apply List.Mem.tail))) rfl _ S.hp) ?_
          rintro v121 w ⟨rfl, hT⟩; clear E a; intro a E
          have S := S.all hT
          refine list_pure E rfl rfl (by decide) (rn_assign E rfl rfl) ?_; clear E a; intro a E
          refine wpList_nil ?_
          refine then_k hK ?_; clear hK; clear K
          refine wp_seq_k ?_; intro K hK
          refine region_list ?_
          refine list_pure E rfl rfl (by decide) (rn_move E rfl rfl) ?_; clear E a; intro a E
          refine list_pure E rfl rfl (by decide) (rn_move E rfl rfl) ?_; clear E a; intro a E
          refine guard_true E (t := 123) rfl (rfl) (fun hb123 => ?_)
          refine list_guard_yes E rfl rfl rfl rfl hb123 rfl (by decide) (rn_move E rfl rfl) ?_; clear E a; intro a E
          refine list_pure E rfl rfl (by decide) (rn_pick_yes' E rfl rfl hb123 rfl) ?_; clear E a; intro a E
          refine list_pure E rfl rfl (by decide) (rn_assign E rfl rfl) ?_; clear E a; intro a E
          refine wpList_nil ?_
          refine then_k hK ?_; clear hK; clear K
          refine wp_ret ?_
          refine ret1 E rfl rfl ?_
          exact ⟨_, rfl, rfl, (S.only (Bs := [O]) (sel_cons (by repeat (first | exact pk1 | apply pick_tail)) (sel_nil _))).tr⟩
theorem pcI_of {W : World} {X : Value × List (Value × List Int)} {n : Nat} (hn : n = X.2.length) (hl : n ≤ 140737488351232) (h : Rd (old W) 1 X.1 n (X.2.flatMap fun x => [x.1]))
    (g : ∀ x ∈ X.2, OldS W 1 8 (fun z => [Value.int .i64 z]) (fun z => -9223372036854775808 ≤ z ∧ z ≤ 9223372036854775807) x) : PcI (old W) X.1 X.2 := by
  subst hn
  rw [flat_fst] at h
  refine ⟨h, by omega, fun x hx => ?_⟩
  obtain ⟨ad, c, -, h2, h3, h4, h5⟩ := g x hx
  rw [flat_ints] at h4
  exact ⟨h4, by omega, fun z hz => (h5 z hz).2⟩
theorem olds_one {W : World} {s sz : Nat} {α : Type} {lay : α → List Value} {good : α → Prop} {x : Value × List α} (h : OldS W s sz lay good x) {u : Value} (hu : u ∈ [x.1]) : u.oneCell' = true := by
  obtain ⟨_, _, h1, _⟩ := h
  rw [List.mem_singleton.1 hu, h1]; rfl
abbrev GdI (z : Int) : Prop := -9223372036854775808 ≤ z ∧ z ≤ 9223372036854775807
abbrev LyI (z : Int) : List Value := [.int .i64 z]
theorem again_row (W : World) (v0 : Value) (sz : List Int) (hO0 : Rd (old W) 1 v0 sz.length (sz.flatMap fun z => [Value.int .i64 z])) (_hg : ∀ z ∈ sz, -9223372036854775808 ≤ z ∧ z ≤ 9223372036854775807) (hl : sz.length ≤ 140737488351232)
    (v1 : Value) (nd : List (Value × List Int)) (hO1 : Rd (old W) 1 v1 nd.length (nd.flatMap fun x => [x.1])) (hg1 : ∀ x ∈ nd, OldS W 1 8 LyI GdI x) (hl1 : nd.length ≤ 140737488351232)
    (v2 : Value) (mo : List (Value × List Int)) (hO2 : Rd (old W) 1 v2 mo.length (mo.flatMap fun x => [x.1])) (hg2 : ∀ x ∈ mo, OldS W 1 8 LyI GdI x) (hl2 : mo.length ≤ 140737488351232) (w0 : World) (H : Hp w0 [old W]) :
    Ret Try.prog 5 #[v0, v1, v2] w0 fun u w' => u = .bool true ∧ Trs w0 w' [old W] [old W] := by
  rw [flat_ints] at hO0
  exact again_walk (old W) v0 sz hO0 (by omega) v1 nd (pcI_of (X := (v1, nd)) rfl hl1 hO1 hg1) v2 mo (pcI_of (X := (v2, mo)) rfl hl2 hO2 hg2) w0 H
end Go.Proofs.Ytenhebjhoicpjaa
