/-
  Allocators: a new one.
-/
import Derived.Test.YtenhebjhoicpjaaAllI
import Derived.Test.YtenhebjhoicpjaaAllC
namespace Go.Sl
/-- A new one, half made. -/
def Al.mid (l : List Int) (i : Nat) : Al := ⟨l, (l.take i).map whole, (l.take i).map fun _ => [], []⟩
theorem Al.mid_all (l : List Int) : Al.mid l l.length = Al.new l := by simp [Al.mid, Al.new]
theorem cuts_step {y : Al} {l : List Int} {tk : List Pl} {k : Nat} (hk : k < tk.length) (h : (Al.new l).cuts (tk.take k) = some y) :
    (∀ z, y.cut1 tk[k] = some z → (Al.new l).cuts (tk.take (k + 1)) = some z) ∧ (y.cut1 tk[k] = none → (Al.new l).cuts tk = none) := by
  constructor
  · intro z hz
    rw [take_succ_at tk hk, Al.cuts_append, h]
    simp only [Option.bind_some, Al.cuts, hz]
  · intro hz
    conv => lhs; rw [← List.take_append_drop k tk, List.drop_eq_getElem_cons hk]
    rw [Al.cuts_append, h]
    simp only [Option.bind_some, Al.cuts, hz]
end Go.Sl
namespace Go.Proofs.Ytenhebjhoicpjaa
open Go.Sl
set_option maxRecDepth 10000
section
variable {V : Av} {p : Nat} {f : Sset} {w0 w : World} {As Ls : List Chunk}
theorem snocF (Ds : List Chunk) (S : St w0 As w (f.C :: (Ds ++ (V.chs p ++ Ls)))) : St w0 As w (Ds ++ (Av.chs { V with F := V.F ++ [f] } p ++ Ls)) := by
  refine unfocF (V := V) (FA := V.F) (FB := []) (f' := f) Ds ?_
  unfold Av.restF
  rw [List.append_nil]
  exact S
theorem snocW (Ds : List Chunk) (S : St w0 As w (f.C :: (Ds ++ (V.chs p ++ Ls)))) : St w0 As w (Ds ++ (Av.chs { V with W := V.W ++ [f] } p ++ Ls)) := by
  refine unfocW (V := V) (FA := V.W) (FB := []) (f' := f) Ds ?_
  unfold Av.restW
  rw [List.append_nil]
  exact S
end
theorem rd1p (g : Nat) (q : Nat) (T : TypeId) : Rd [(g, cel [ptr q] T)] 1 (.slice (some ⟨g, 0, none⟩) 1 1) 1 [ptr q] := rd_cells rfl (by simp [Value.oneCell']) (by omega) 1

theorem anew_ret (l : List Int) (O : Chunk) (v : Value) (hO : Rd O 1 v l.length (l.map iv)) (hl : l.length ≤ 4611686018427387904) (tk : List Pl) (O2 : Chunk) (v2 : Value) (hO2 : Rd O2 3 v2 tk.length (tk.flatMap Pl.lay)) (htk : tk.length ≤ 4611686018427387904) (w0 : World) (H : Hp w0 [O, O2]) :
    Ret Try.prog 7 #[v, v2] w0 fun u w' => (Al.start l tk = none ∧ u = .tuple #[.pointer none, .int .i64 1] ∧ Trs w0 w' [O, O2] [O, O2]) ∨
      ∃ y p A, Al.start l tk = some y ∧ u = .tuple #[ptr p, .int .i64 0] ∧ AlC p y A ∧ Trs w0 w' [O, O2] [A, O, O2] := by
  obtain ⟨ad, c, rfl⟩ := hO.slice
  obtain ⟨ad2, c2, rfl⟩ := hO2.slice
  have S := St.begin H
  refine enter2 85 Try.func7 rfl rfl (by decide) ?_; intro a E
  refine wp_seq_k ?_; intro K hK
  refine region_list ?_
  refine list_pure E rfl rfl (by decide) (rn_assign E rfl rfl) ?_; clear E a; intro a E
  refine list_pure E rfl rfl (by decide) (rn_assign E rfl rfl) ?_; clear E a; intro a E
  refine wpList_nil ?_
  refine then_k hK ?_; clear hK; clear K
  refine wp_seq_k ?_; intro K hK
  refine region_list ?_
  refine list_pure E rfl rfl (by decide) (rn_assign E rfl rfl) ?_; clear E a; intro a E
  refine wpList_nil ?_
  refine then_k hK ?_; clear hK; clear K
  refine wp_seq_k ?_; intro K hK
  refine wp_seq_k ?_; intro K hK
  refine region_list ?_
  refine list_pure E rfl rfl (by decide) (rn_move E rfl rfl) ?_; clear E a; intro a E
  refine list_pure E rfl rfl (by decide) (by first | exact rn_len E rfl rfl rfl | exact rn_len_str E rfl rfl rfl | exact rn_len_string E rfl rfl rfl) ?_; clear E a; intro a E
  refine list_pure E rfl rfl (by decide) (rn_lss E rfl rfl rfl) ?_; clear E a; intro a E
  refine list_pure E rfl rfl (by decide) (rn_move E rfl rfl) ?_; clear E a; intro a E
  refine guard_split E (t := 15) rfl (fun hb15 => ?_) (fun hb15 => ?_)
  · have hb15n := hb15; replace hb15n := Nrm.nrm hb15n
    have hbad : Al.badSizes l = true := (by rw [badSizes_any, decide_eq_true (by omega)]; rfl)
    refine list_guard_no E rfl rfl rfl rfl hb15 rfl (by decide) ?_; clear E a; intro a E
    refine list_guard_no E rfl rfl rfl rfl hb15 rfl (by decide) ?_; clear E a; intro a E
    refine list_guard_no E rfl rfl rfl rfl hb15 rfl (by decide) ?_; clear E a; intro a E
    refine list_pure E rfl rfl (by decide) (rn_pick_yes' E rfl rfl hb15 rfl) ?_; clear E a; intro a E
    refine list_pure E rfl rfl (by decide) (rn_move E rfl rfl) ?_; clear E a; intro a E
    refine list_guard_no E rfl rfl rfl rfl rfl rfl (by decide) ?_; clear E a; intro a E
    refine list_guard_no E rfl rfl rfl rfl rfl rfl (by decide) ?_; clear E a; intro a E
    refine list_guard_no E rfl rfl rfl rfl rfl rfl (by decide) ?_; clear E a; intro a E
    refine list_pure E rfl rfl (by decide) (rn_pick_yes' E rfl rfl rfl rfl) ?_; clear E a; intro a E
    refine wpList_nil ?_
    refine then_k hK ?_; clear hK; clear K
    refine if_true' E rfl rfl ?_
    refine wp_seq_k ?_; intro K hK
    refine region_list ?_
    refine list_pure E rfl rfl (by decide) (rn_assign E rfl rfl) ?_; clear E a; intro a E
    refine list_pure E rfl rfl (by decide) (rn_assign E rfl rfl) ?_; clear E a; intro a E
    refine wpList_nil ?_
    refine then_k hK ?_; clear hK; clear K
    refine wp_ret ?_
    refine then_ret ?_; clear hK; clear K
    refine ret2 E rfl rfl rfl ?_
    exact ⟨_, rfl, .inl ⟨by unfold Al.start; rw [if_pos hbad], rfl, S.tr⟩⟩
  · have hb15n := hb15; replace hb15n := Nrm.nrm hb15n
    skip
    refine list_guard_yes E rfl rfl rfl rfl hb15 rfl (by decide) (rn_move E rfl rfl) ?_; clear E a; intro a E
    refine list_guard_yes E rfl rfl rfl rfl hb15 rfl (by decide) (by first | exact rn_len E rfl rfl rfl | exact rn_len_str E rfl rfl rfl | exact rn_len_string E rfl rfl rfl) ?_; clear E a; intro a E
    refine list_guard_yes E rfl rfl rfl rfl hb15 rfl (by decide) (rn_gtr E rfl rfl rfl) ?_; clear E a; intro a E
    refine list_pure E rfl rfl (by decide) (rn_pick_no' E rfl rfl hb15 rfl) ?_; clear E a; intro a E
    refine list_pure E rfl rfl (by decide) (rn_move E rfl rfl) ?_; clear E a; intro a E
    refine guard_split E (t := 20) rfl (fun hb20 => ?_) (fun hb20 => ?_)
    · have hb20n := hb20; replace hb20n := Nrm.nrm hb20n
      have hbad : Al.badSizes l = true := (by rw [badSizes_any, decide_eq_true (p := 4 < l.length) (by omega)]; simp)
      refine list_guard_no E rfl rfl rfl rfl hb20 rfl (by decide) ?_; clear E a; intro a E
      refine list_guard_no E rfl rfl rfl rfl hb20 rfl (by decide) ?_; clear E a; intro a E
      refine list_guard_no E rfl rfl rfl rfl hb20 rfl (by decide) ?_; clear E a; intro a E
      refine list_pure E rfl rfl (by decide) (rn_pick_yes' E rfl rfl hb20 rfl) ?_; clear E a; intro a E
      refine wpList_nil ?_
      refine then_k hK ?_; clear hK; clear K
      refine if_true' E rfl rfl ?_
      refine wp_seq_k ?_; intro K hK
      refine region_list ?_
      refine list_pure E rfl rfl (by decide) (rn_assign E rfl rfl) ?_; clear E a; intro a E
      refine list_pure E rfl rfl (by decide) (rn_assign E rfl rfl) ?_; clear E a; intro a E
      refine wpList_nil ?_
      refine then_k hK ?_; clear hK; clear K
      refine wp_ret ?_
      refine then_ret ?_; clear hK; clear K
      refine ret2 E rfl rfl rfl ?_
      exact ⟨_, rfl, .inl ⟨by unfold Al.start; rw [if_pos hbad], rfl, S.tr⟩⟩
    · have hb20n := hb20; replace hb20n := Nrm.nrm hb20n
      skip
      refine list_guard_yes E rfl rfl rfl rfl hb20 rfl (by decide) (rn_move E rfl rfl) ?_; clear E a; intro a E
      refine list_guard_yes E rfl rfl rfl rfl hb20 rfl (by decide) (rn_move E rfl rfl) ?_; clear E a; intro a E
      refine list_guard_wp E rfl rfl rfl rfl hb20 ?_; refine wp_call' E rfl (by decide) rfl Try.func18 rfl (by kernel_rfl) rfl (cfn_ret (by omega) hO (by simp) _ S.hp) ?_
      rintro v23 w ⟨rfl, hT⟩; clear E a; intro a E
      have S := S.all hT
      refine list_pure E rfl rfl (by decide) (rn_pick_no' E rfl rfl hb20 rfl) ?_; clear E a; intro a E
      refine wpList_nil ?_
      refine then_k hK ?_; clear hK; clear K
      refine if_bool E rfl (fun hb => ?_) (fun hb => ?_)
      · replace hb := Nrm.nrm hb
        refine wp_seq_k ?_; intro K hK
        refine region_list ?_
        refine list_pure E rfl rfl (by decide) (rn_assign E rfl rfl) ?_; clear E a; intro a E
        refine list_pure E rfl rfl (by decide) (rn_assign E rfl rfl) ?_; clear E a; intro a E
        refine wpList_nil ?_
        refine then_k hK ?_; clear hK; clear K
        refine wp_ret ?_
        refine then_ret ?_; clear hK; clear K
        refine ret2 E rfl rfl rfl ?_
        have hbad : Al.badSizes l = true := by rw [badSizes_any, hb]; simp
        exact ⟨_, rfl, .inl ⟨by unfold Al.start; rw [if_pos hbad], rfl, S.tr⟩⟩
      · replace hb := Nrm.nrm hb
        refine wp_skip ?_
        refine then_k hK ?_; clear hK; clear K
        refine wp_seq_k ?_; intro K hK
        have hgood : Al.badSizes l = false := by
          rw [badSizes_any, decide_eq_false (by omega), decide_eq_false (p := 4 < l.length) (by omega), hb]; rfl
        have hl4 : l.length ≤ 4 := by omega
        refine region_list ?_
        refine list_pure E rfl rfl (by decide) (rn_move E rfl rfl) ?_; clear E a; intro a E
        refine list_call E rfl rfl (by decide) rfl Try.func19 rfl (by kernel_rfl) rfl (iclone_ret (l := l) (by omega) hO (by simp) _ S.hp) ?_
        rintro v26 w ⟨Cz, hCz, hT⟩; clear E a; intro a E
        have S := S.all hT; obtain ⟨z1, z2, rfl⟩ := hCz.slice
        refine list_wp rfl (wp_makeMap E S rfl rfl (by decide) ?_); clear E S a; intro a w b27 E S
        refine list_pure E rfl rfl (by decide) (rn_build (cells := [_, _, _, _]) E rfl rfl rfl) ?_; clear E a; intro a E
        refine list_wp rfl (wp_box E S rfl rfl (by decide) rfl rfl ?_); clear E S a; intro a w b29 E S
        refine list_pure E rfl rfl (by decide) (rn_assign E rfl rfl) ?_; clear E a; intro a E
        refine wpList_nil ?_
        refine then_k hK ?_; clear hK; clear K
        refine wp_seq_k ?_; intro K hK
        refine wp_seq_k ?_; intro K hK
        replace E := E.keep (e' := [(0, _), (1, _), (4, _), (5, _), (7, _)]) (keep_cons rfl (keep_cons rfl (keep_cons rfl (keep_cons rfl (keep_cons rfl (keep_nil))))))
        refine region_list ?_
        refine list_pure E rfl rfl (by decide) (rn_move E rfl rfl) ?_; clear E a; intro a E
        refine list_pure E rfl rfl (by decide) (by first | exact rn_len E rfl rfl rfl | exact rn_len_str E rfl rfl rfl | exact rn_len_string E rfl rfl rfl) ?_; clear E a; intro a E
        refine list_pure E rfl rfl (by decide) (rn_move E rfl rfl) ?_; clear E a; intro a E
        refine wpList_nil ?_
        refine then_k hK ?_; clear hK; clear K
        refine wp_block ?_
        refine wp_loop_ghost (fun (m : Nat) (a : Act) (w' : World) => ∃ (i : Nat) (vf vw : Value) (Cf Cw : Chunk) (F W : List Sset), m = l.length - i ∧ i ≤ l.length ∧ F.length = i ∧ W.length = i ∧ Av.Ok ⟨.slice z1 l.length z2, vf, vw, Cz, Cf, Cw, F, W, [], b27, 0⟩ (Al.mid l i) ∧ (∃ Xs, St w0 [O, O2] w' (O :: O2 :: (Av.chs ⟨.slice z1 l.length z2, vf, vw, Cz, Cf, Cw, F, W, [], b27, 0⟩ b29 ++ Xs))) ∧ Fr a 85 [(1, .slice ad2 tk.length c2), (4, .pointer none), (5, .int .i64 0), (7, ptr b29), (30, .slice ad l.length c), (31, .int .i64 l.length), (32, .int .i64 i)]) (l.length - 0) ?_ ?_
        · exact ⟨0, _, _, [], [], [], [], rfl, by omega, rfl, rfl, ⟨hCz, Buf.nil _ _, Buf.nil _ _, by simp, by simp, by simp, by simp [Al.mid], by simp [Al.mid], rfl, meOk_nil 0⟩, ⟨[], (S.addNil.addNil).front7 (A := O) (B := O2) (C := [(b29, _)]) (D := Cz) (F := []) (G := []) (I := [(b27, _)]) (by repeat (first | exact pk1 | apply pick_tail)) (by repeat (first | exact pk1 | apply pick_tail)) (by repeat (first | exact pk1 | apply pick_tail)) (by repeat (first | exact pk1 | apply pick_tail)) (by repeat (first | exact pk1 | apply pick_tail)) (by repeat (first | exact pk1 | apply pick_tail)) (by repeat (first | exact pk1 | apply pick_tail))⟩, E.keep (keep_cons rfl (keep_cons rfl (keep_cons rfl (keep_cons rfl (keep_cons rfl (keep_cons rfl (keep_cons rfl keep_nil)))))))⟩
        clear E; clear a; (try clear S); rintro m a w ⟨i, vf, vw, Cf, Cw, F, W, rfl, hi, hF, hW, hV, ⟨Xs, S⟩, E⟩
        refine wp_seq_k ?_; intro K hK
        refine region_list ?_
        refine list_pure E rfl rfl (by decide) (rn_lss E rfl rfl rfl) ?_; clear E a; intro a E
        refine wpList_nil ?_
        refine then_k hK ?_; clear hK; clear K
        refine wp_seq_k ?_; intro K hK
        refine if_bool E rfl (fun hb => ?_) (fun hb => ?_)
        · replace hb := Nrm.nrm hb
          refine wp_skip ?_
          refine then_k hK ?_; clear hK; clear K
          refine wp_seq_k ?_; intro K hK
          refine wp_block ?_
          refine wp_seq_k ?_; intro K hK
          have hil : i < l.length := by omega
          obtain ⟨ab, ao, rfl⟩ := hO.addr (by omega)
          have hle : l[i] ≤ 40960 := by
            have h1 := hgood
            simp only [Al.badSizes, Bool.or_eq_false_iff, List.any_eq_false, decide_eq_true_eq] at h1
            have h2 := h1.2 l[i] (List.getElem_mem hil)
            omega
          have hf : Buf Cf 55 1 vf F.length (F.map fun f => ptr f.p) := hV.f
          have hw : Buf Cw 55 1 vw W.length (W.map fun f => ptr f.p) := hV.w
          refine region_list ?_
          refine list_pure E rfl rfl (by decide) (by first | exact rn_indexAddr1 E rfl rfl rfl rfl rfl rfl (by omega) | exact rn_indexAddr E rfl rfl rfl rfl rfl rfl (by omega) | exact rn_indexAddr_array E rfl rfl rfl rfl rfl rfl (by omega)) ?_; clear E a; intro a E
          refine list_pure E rfl rfl (by decide) (rn_loadc E rfl rfl rfl (hO.at1 (S.stab.at (by simp)) hil)) ?_; clear E a; intro a E
          refine list_pure E rfl rfl (by decide) (rn_assign E rfl rfl) ?_; clear E a; intro a E
          refine wpList_nil ?_
          refine then_k hK ?_; clear hK; clear K
          refine wp_seq_k ?_; intro K hK
          refine region_mix S (.ofL [(0, 0), (1, 0), (2, 0), (3, 0), (4, 0), (5, 0), (6, 1), (7, 1), (8, 1), (9, 0), (10, 0), (11, 3)]) [hdc b29 (.slice z1 l.length z2) vf vw b27] (fun h => h.sub (by first | (simp; done) | (simp +contextual; done) | (simp [*]; done))) (by kernel_rfl) (by kernel_rfl) ?_
          clear S; intro w S
          refine mix_pure E rfl rfl rfl (by decide) (fun w h => rn_move E rfl rfl) ?_; clear E a; intro a E
          refine mix_pure E rfl rfl rfl (by decide) (fun w h => rn_move E rfl rfl) ?_; clear E a; intro a E
          refine mix_pure E rfl rfl rfl (by decide) (fun w h => rn_nilCheck E rfl rfl) ?_; clear E a; intro a E
          refine mix_pure E rfl rfl rfl (by decide) (fun w h => by first | exact rn_fieldAddr0 (q := 1) E rfl rfl rfl | exact rn_fieldAddr (q := 1) E rfl rfl rfl) ?_; clear E a; intro a E
          refine mix_pure E rfl rfl rfl (by decide) (fun w h => by first | exact rn_load E rfl rfl rfl (h.one (by repeat (first | exact mm1 | assumption | apply List.Mem.tail))) rfl | exact rn_loadc E rfl rfl rfl (by assumption)) ?_; clear E a; intro a E
          refine mix_pure E rfl rfl rfl (by decide) (fun w h => rn_move E rfl rfl) ?_; clear E a; intro a E
          refine mix_call E rfl rfl rfl (by decide) rfl Try.func20 rfl (by kernel_rfl) rfl (whole_ret l[i] hle _) ?_
          rintro v42 w ⟨wp, A, rfl, hA, hT⟩; clear E a; intro a E
          have S := S.fresh hT
          refine ⟨S.stab.sub (by first | (simp; done) | (simp +contextual; done) | (simp [*]; done)), ?_⟩
          refine mix_act rfl rfl (wp_bslice (cells := [_]) E S rfl rfl (by decide) rfl rfl rfl rfl rfl (by decide) rfl ?_); clear E S a; intro a w b43 E S; refine ⟨S.stab.sub (by first | (simp; done) | (simp +contextual; done) | (simp [*]; done)), ?_⟩
          refine mix_act rfl rfl (wp_append (by' := 8) E S rfl rfl (by decide) rfl rfl hf (by repeat (first | exact pk1 | apply pick_tail)) ((rd1p _ _ _).src (S.stab.at (by repeat (first | exact mm1 | assumption | apply List.Mem.tail))) rfl) rfl rfl rfl rfl rfl rfl (by simp only [maxLen]; omega) (by omega) ?_); clear E S a; intro a w v44 C44 E S hB44; refine ⟨S.stab.sub (by first | (simp; done) | (simp +contextual; done) | (simp [*]; done)), ?_⟩
          obtain ⟨g1, g2, rfl⟩ := hB44.slice
          refine mix_pure E rfl rfl rfl (by decide) (fun w h => rn_nilCheck E rfl rfl) ?_; clear E a; intro a E
          refine mix_pure E rfl rfl rfl (by decide) (fun w h => by first | exact rn_fieldAddr0 (q := 1) E rfl rfl rfl | exact rn_fieldAddr (q := 1) E rfl rfl rfl) ?_; clear E a; intro a E
          refine mix_last rfl rfl (wp_store1 E S rfl rfl rfl rfl rfl rfl (by repeat (first | exact pk1 | apply pick_tail)) (by first | exact Nat.le_of_ble_eq_true rfl | (simp; done) | (simp; omega)) ?_); clear E S a; intro a w E S; try dsimp only [List.set] at S
          refine mix_nil ?_
          refine then_k hK ?_; clear hK; clear K
          have S := snocF (V := ⟨.slice z1 l.length z2, .slice g1 (F.length + 1) g2, vw, Cz, C44, Cw, F, W, [], b27, 0⟩) (p := b29) (f := ⟨wp, whole l[i], A⟩) [_, _] ((S.front5 (A := [(b29, _)]) (B := Cz) (C := C44) (D := Cw) (F := [(b27, _)]) (by repeat (first | exact pk1 | apply pick_tail)) (by repeat (first | exact pk1 | apply pick_tail)) (by repeat (first | exact pk1 | apply pick_tail)) (by repeat (first | exact pk1 | apply pick_tail)) (by repeat (first | exact pk1 | apply pick_tail))).front4 (A := [(b43, _)]) (B := A) (C := O) (D := O2) (by repeat (first | exact pk1 | apply pick_tail)) (by repeat (first | exact pk1 | apply pick_tail)) (by repeat (first | exact pk1 | apply pick_tail)) (by repeat (first | exact pk1 | apply pick_tail))).tail
          refine region_mix S (.ofL [(0, 0), (1, 0), (2, 0), (3, 0), (4, 0), (5, 1), (6, 1), (7, 1), (8, 0), (9, 0), (10, 3)]) [hdc b29 (.slice z1 l.length z2) (.slice g1 (F.length + 1) g2) vw b27] (fun h => h.sub (by first | (simp; done) | (simp +contextual; done) | (simp [*]; done))) (by kernel_rfl) (by kernel_rfl) ?_
          clear S; intro w S
          refine mix_pure E rfl rfl rfl (by decide) (fun w h => rn_move E rfl rfl) ?_; clear E a; intro a E
          refine mix_pure E rfl rfl rfl (by decide) (fun w h => rn_move E rfl rfl) ?_; clear E a; intro a E
          refine mix_pure E rfl rfl rfl (by decide) (fun w h => rn_nilCheck E rfl rfl) ?_; clear E a; intro a E
          refine mix_pure E rfl rfl rfl (by decide) (fun w h => by first | exact rn_fieldAddr0 (q := 2) E rfl rfl rfl | exact rn_fieldAddr (q := 2) E rfl rfl rfl) ?_; clear E a; intro a E
          refine mix_pure E rfl rfl rfl (by decide) (fun w h => by first | exact rn_load E rfl rfl rfl (h.one (by repeat (first | exact mm1 | assumption | apply List.Mem.tail))) rfl | exact rn_loadc E rfl rfl rfl (by assumption)) ?_; clear E a; intro a E
          refine mix_call E rfl rfl rfl (by decide) rfl Try.func21 rfl (by kernel_rfl) rfl (new_ret _) ?_
          rintro v52 w ⟨np, B, rfl, hB, hT⟩; clear E a; intro a E
          have S := S.fresh hT
          refine ⟨S.stab.sub (by first | (simp; done) | (simp +contextual; done) | (simp [*]; done)), ?_⟩
          refine mix_act rfl rfl (wp_bslice (cells := [_]) E S rfl rfl (by decide) rfl rfl rfl rfl rfl (by decide) rfl ?_); clear E S a; intro a w b53 E S; refine ⟨S.stab.sub (by first | (simp; done) | (simp +contextual; done) | (simp [*]; done)), ?_⟩
          refine mix_act rfl rfl (wp_append (by' := 8) E S rfl rfl (by decide) rfl rfl hw (by repeat (first | exact pk1 | apply pick_tail)) ((rd1p _ _ _).src (S.stab.at (by repeat (first | exact mm1 | assumption | apply List.Mem.tail))) rfl) rfl rfl rfl rfl rfl rfl (by simp only [maxLen]; omega) (by omega) ?_); clear E S a; intro a w v54 C54 E S hB54; refine ⟨S.stab.sub (by first | (simp; done) | (simp +contextual; done) | (simp [*]; done)), ?_⟩
          obtain ⟨h1, h2, rfl⟩ := hB54.slice
          refine mix_pure E rfl rfl rfl (by decide) (fun w h => rn_nilCheck E rfl rfl) ?_; clear E a; intro a E
          refine mix_pure E rfl rfl rfl (by decide) (fun w h => by first | exact rn_fieldAddr0 (q := 2) E rfl rfl rfl | exact rn_fieldAddr (q := 2) E rfl rfl rfl) ?_; clear E a; intro a E
          refine mix_last rfl rfl (wp_store1 E S rfl rfl rfl rfl rfl rfl (by repeat (first | exact pk1 | apply pick_tail)) (by first | exact Nat.le_of_ble_eq_true rfl | (simp; done) | (simp; omega)) ?_); clear E S a; intro a w E S; try dsimp only [List.set] at S
          refine mix_nil ?_
          refine in_normal ?_
          refine then_k hK ?_; clear hK; clear K
          refine region_list ?_
          refine list_pure E rfl rfl (by decide) (rn_add E rfl rfl rfl (by first | exact wa_lit (y := 1) (by omega) | exact w_in (by omega) | exact w_inu (by omega) | exact rfl)) ?_; clear E a; intro a E
          refine list_pure E rfl rfl (by decide) (rn_move E rfl rfl) ?_; clear E a; intro a E
          refine wpList_nil ?_
          refine then_normal ?_
          have S := snocW (V := ⟨.slice z1 l.length z2, .slice g1 (F.length + 1) g2, .slice h1 (W.length + 1) h2, Cz, C44, C54, F ++ [⟨wp, whole l[i], A⟩], W, [], b27, 0⟩) (p := b29) (f := ⟨np, [], B⟩) [_, _] ((S.front5 (A := [(b29, _)]) (B := Cz) (C := C44) (D := C54) (F := [(b27, _)]) (by repeat (first | exact pk1 | apply pick_tail)) (by repeat (first | exact pk1 | apply pick_tail)) (by repeat (first | exact pk1 | apply pick_tail)) (by repeat (first | exact pk1 | apply pick_tail)) (by repeat (first | exact pk1 | apply pick_tail))).front4 (A := [(b53, _)]) (B := B) (C := O) (D := O2) (by repeat (first | exact pk1 | apply pick_tail)) (by repeat (first | exact pk1 | apply pick_tail)) (by repeat (first | exact pk1 | apply pick_tail)) (by repeat (first | exact pk1 | apply pick_tail))).tail
          refine ⟨_, by omega, i + 1, .slice g1 (F.length + 1) g2, .slice h1 (W.length + 1) h2, C44, C54, F ++ [(⟨wp, whole l[i], A⟩ : Sset)], W ++ [(⟨np, [], B⟩ : Sset)], rfl, by omega, by simp [hF], by simp [hW], ⟨hCz, by simpa using hB44, by simpa using hB54, ?_, ?_, hV.gs, ?_, ?_, rfl, hV.me⟩, ⟨_, S⟩, E.keep (keep_cons rfl (keep_cons rfl (keep_cons rfl (keep_cons rfl (keep_cons rfl (keep_cons rfl (keep_cons rfl keep_nil)))))))⟩
          · intro s hs
            rcases List.mem_append.1 hs with hs | hs
            · exact hV.fs s hs
            · rw [List.mem_singleton.1 hs]; exact hA
          · intro s hs
            rcases List.mem_append.1 hs with hs | hs
            · exact hV.ws s hs
            · rw [List.mem_singleton.1 hs]; exact hB
          · have h9 := hV.ef
            simp only [Al.mid] at h9 ⊢
            rw [take_succ_at l hil, List.map_append, h9]; simp
          · have h9 := hV.ew
            simp only [Al.mid] at h9 ⊢
            rw [take_succ_at l hil, List.map_append, h9]; simp
        · replace hb := Nrm.nrm hb
          refine wp_exit ?_
          refine then_exit ?_; clear hK; clear K
          refine then_exit ?_
          refine in_exit ?_
          refine then_k hK ?_; clear hK; clear K
          refine wp_seq_k ?_; intro K hK
          refine wp_seq_k ?_; intro K hK
          obtain rfl : i = l.length := by omega
          have hok : (Al.new l).Ok := Al.new_ok hgood
          rw [Al.mid_all] at hV
          have hA0 : AlC b29 (Al.new l) _ := ⟨hok, _, hV, rfl⟩
          have S := St.cls [_, _] (Ms := Av.chs ⟨.slice z1 l.length z2, vf, vw, Cz, Cf, Cw, F, W, [], b27, 0⟩ b29) S
          refine region_list ?_
          refine list_pure E rfl rfl (by decide) (rn_move E rfl rfl) ?_; clear E a; intro a E
          refine list_pure E rfl rfl (by decide) (by first | exact rn_len E rfl rfl rfl | exact rn_len_str E rfl rfl rfl | exact rn_len_string E rfl rfl rfl) ?_; clear E a; intro a E
          refine list_pure E rfl rfl (by decide) (rn_move E rfl rfl) ?_; clear E a; intro a E
          refine wpList_nil ?_
          refine then_k hK ?_; clear hK; clear K
          refine wp_block ?_
          refine wp_loop_ghost (fun (m : Nat) (a : Act) (w' : World) => ∃ (k : Nat) (y : Al) (A : Chunk), m = tk.length - k ∧ k ≤ tk.length ∧ (Al.new l).cuts (tk.take k) = some y ∧ AlC b29 y A ∧ (∃ Xs, St w0 [O, O2] w' (O :: O2 :: A :: Xs)) ∧ Fr a 85 [(4, .pointer none), (5, .int .i64 0), (7, ptr b29), (58, .slice ad2 tk.length c2), (59, .int .i64 tk.length), (60, .int .i64 k)]) (tk.length - 0) ?_ ?_
          · exact ⟨0, _, _, rfl, by omega, rfl, hA0, ⟨_, S⟩, E.keep (keep_cons rfl (keep_cons rfl (keep_cons rfl (keep_cons rfl (keep_cons rfl (keep_cons rfl keep_nil))))))⟩
          clear E; clear a; (try clear S); rintro m a w ⟨k, y, A, rfl, hk, hcu, hA, ⟨Xs, S⟩, E⟩
          refine wp_seq_k ?_; intro K hK
          refine region_list ?_
          refine list_pure E rfl rfl (by decide) (rn_lss E rfl rfl rfl) ?_; clear E a; intro a E
          refine wpList_nil ?_
          refine then_k hK ?_; clear hK; clear K
          refine wp_seq_k ?_; intro K hK
          refine if_bool E rfl (fun hb => ?_) (fun hb => ?_)
          · replace hb := Nrm.nrm hb
            refine wp_skip ?_
            refine then_k hK ?_; clear hK; clear K
            refine wp_seq_k ?_; intro K hK
            refine wp_block ?_
            refine wp_seq_k ?_; intro K hK
            have hkl : k < tk.length := by omega
            obtain ⟨ab, ao, rfl⟩ := hO2.addr (by omega)
            obtain ⟨hcu1, hcu2⟩ := cuts_step hkl hcu
            refine region_list ?_
            refine list_pure E rfl rfl (by decide) (by first | exact rn_indexAddr1 E rfl rfl rfl rfl rfl rfl (by omega) | exact rn_indexAddr E rfl rfl rfl rfl rfl rfl (by omega) | exact rn_indexAddr_array E rfl rfl rfl rfl rfl rfl (by omega)) ?_; clear E a; intro a E
            refine list_pure E rfl rfl (by decide) (rn_load_aggc (vs := [_, _, _]) E rfl rfl rfl rfl (hO2.elem (lay := Pl.lay) Pl.lay_len (S.stab.at (by repeat (first | exact mm1 | assumption | apply List.Mem.tail))) hkl)) ?_; clear E a; intro a E
            refine list_wp rfl (wp_alloc E S rfl rfl (by decide) rfl rfl rfl ?_); clear E S a; intro a w b11 E S
            refine list_wp rfl (wp_storeN E S rfl rfl rfl rfl (by simp [Value.oneCell']) rfl (by repeat (first | exact pk1 | apply pick_tail)) (by simp) ?_); clear E S a; intro a w E S; simp only [List.take_succ_cons, List.take_zero, List.drop_succ_cons, List.drop_zero, List.cons_append, List.nil_append, List.append_nil, List.length_cons, List.length_nil, Nat.zero_add, Nat.add_zero] at S
            refine wpList_nil ?_
            refine then_k hK ?_; clear hK; clear K
            refine wp_seq_k ?_; intro K hK
            obtain ⟨top, sp, hq⟩ : ∃ u z, tk[k] = ⟨u, z⟩ := ⟨_, _, rfl⟩
            obtain ⟨ho, V, hV, rfl⟩ := hA
            rw [hq] at S hcu1 hcu2
            dsimp only at S
            obtain ⟨f1, f2, evf⟩ := hV.f.slice
            obtain ⟨q1, q2, evz⟩ := hV.vs_is
            have hVf := hV.f
            rw [evf] at hVf
            have hlF := hV.lenF ho
            have S := St.opn [_, _, _] S
            refine region_mix S (.ofL [(0, 0), (1, 0), (2, 0), (3, 1), (4, 0), (5, 0), (6, 0), (7, 0), (8, 0), (9, 0), (10, 0), (11, 0), (12, 0), (13, 0), (14, 0), (15, 0), (16, 3), (17, 2), (18, 2)]) [hdc b29 V.vs V.vf V.vw V.r, V.Cf, [(b11, cel [.int .i64 top, .int .i64 sp.at_, .int .i64 sp.many] 33)]] (fun h => h.sub (by first | (simp; done) | (simp +contextual; done) | (simp [*]; done))) (by kernel_rfl) (by kernel_rfl) ?_
            clear S; intro w S
            refine mix_pure E rfl rfl rfl (by decide) (fun w h => rn_move E rfl rfl) ?_; clear E a; intro a E
            refine mix_pure E rfl rfl rfl (by decide) (fun w h => by first | exact rn_fieldAddr0 (q := 0) E rfl rfl rfl | exact rn_fieldAddr (q := 0) E rfl rfl rfl) ?_; clear E a; intro a E
            refine mix_pure E rfl rfl rfl (by decide) (fun w h => by first | exact rn_load E rfl rfl rfl (h.one (by repeat (first | exact mm1 | assumption | apply List.Mem.tail))) rfl | exact rn_loadc E rfl rfl rfl (by assumption)) ?_; clear E a; intro a E
            refine mix_call E rfl rfl rfl (by decide) rfl Try.func22 rfl (by kernel_rfl) rfl (ahas_ret top (vf := V.vf) (vw := V.vw) (g := .map (some V.r)) (by rw [← evz]; simp) _ S.hp) ?_
            rintro v67 w ⟨rfl, hT⟩; clear E a; intro a E
            have S := S.all hT
            refine ⟨S.stab.sub (by first | (simp; done) | (simp +contextual; done) | (simp [*]; done)), ?_⟩
            refine mix_pure E rfl rfl rfl (by decide) (fun w h => rn_not E rfl rfl) ?_; clear E a; intro a E
            refine mix_pure E rfl rfl rfl (by decide) (fun w h => rn_move E rfl rfl) ?_; clear E a; intro a E
            refine guard_split E (t := 69) rfl (fun hb69 => ?_) (fun hb69 => ?_)
            · have hb69n := hb69; replace hb69n := Nrm.nrm hb69n
              have hh : y.has top = false := (by simpa using hb69)
              refine mix_guard_no E rfl rfl rfl rfl rfl hb69 rfl (by decide) ?_; clear E a; intro a E
              refine mix_guard_no E rfl rfl rfl rfl rfl hb69 rfl (by decide) ?_; clear E a; intro a E
              refine mix_guard_no E rfl rfl rfl rfl rfl hb69 rfl (by decide) ?_; clear E a; intro a E
              refine mix_guard_no E rfl rfl rfl rfl rfl hb69 rfl (by decide) ?_; clear E a; intro a E
              refine mix_guard_no E rfl rfl rfl rfl rfl hb69 rfl (by decide) ?_; clear E a; intro a E
              refine mix_guard_no E rfl rfl rfl rfl rfl hb69 rfl (by decide) ?_; clear E a; intro a E
              refine mix_guard_no E rfl rfl rfl rfl rfl hb69 rfl (by decide) ?_; clear E a; intro a E
              refine mix_guard_no E rfl rfl rfl rfl rfl hb69 rfl (by decide) ?_; clear E a; intro a E
              refine mix_guard_no E rfl rfl rfl rfl rfl hb69 rfl (by decide) ?_; clear E a; intro a E
              refine mix_guard_no E rfl rfl rfl rfl rfl hb69 rfl (by decide) ?_; clear E a; intro a E
              refine mix_guard_no_last E rfl rfl rfl rfl rfl hb69 rfl (by decide) ?_; clear E a; intro a E
              refine mix_guard_no2 E rfl rfl rfl rfl rfl hb69 rfl (by decide) ?_; clear E a; intro a E
              refine mix_free E rfl rfl rfl (by decide) (fun w => rn_pick_yes' E rfl rfl hb69 rfl) ?_; clear E a; intro a E
              refine mix_nil ?_
              refine then_k hK ?_; clear hK; clear K
              refine if_true' E rfl rfl ?_
              refine wp_seq_k ?_; intro K hK
              refine region_list ?_
              refine list_pure E rfl rfl (by decide) (rn_assign E rfl rfl) ?_; clear E a; intro a E
              refine list_pure E rfl rfl (by decide) (rn_assign E rfl rfl) ?_; clear E a; intro a E
              refine wpList_nil ?_
              refine then_k hK ?_; clear hK; clear K
              refine wp_ret ?_
              refine in_ret ?_
              refine then_ret ?_; clear hK; clear K
              refine then_ret ?_
              refine in_ret ?_
              refine then_ret ?_; clear hK; clear K
              refine ret2 E rfl rfl rfl ?_
              have hn : y.cut1 ⟨top, sp⟩ = none := by unfold Al.cut1; rw [if_neg (by rw [hh]; simp)]
              exact ⟨_, rfl, .inl ⟨by unfold Al.start; rw [if_neg (by rw [hgood]; simp)]; exact hcu2 hn, rfl, (S.only (Bs := [O, O2]) (sel_cons (by repeat (first | exact pk1 | apply pick_tail)) (sel_cons (by repeat (first | exact pk1 | apply pick_tail)) (sel_nil _)))).tr⟩⟩
            · have hb69n := hb69; replace hb69n := Nrm.nrm hb69n
              have hh : y.has top = true := (by simpa using hb69); have hh2 := hh; simp only [Al.has, decide_eq_true_eq] at hh2; obtain ⟨t, rfl⟩ : ∃ t : Nat, top = t := ⟨top.toNat, by omega⟩; obtain ⟨FA, f, FB, hF, hfl⟩ := split_at (l := V.F) (i := t) (by omega); obtain ⟨fb, fo, rfl⟩ := hVf.rd.addr (by omega); have S := focF [_, _, _] hF S; have hfa : y.fr t = f.l := (by rw [← hfl]; exact fr_mid (hV.ef.trans (by rw [hF]))); have hfm : f ∈ V.F := (by rw [hF]; simp)
              refine mix_guard_yes E rfl rfl rfl rfl rfl hb69 rfl (by decide) (fun w h => rn_move E rfl rfl) ?_; clear E a; intro a E
              refine mix_guard_yes E rfl rfl rfl rfl rfl hb69 rfl (by decide) (fun w h => rn_nilCheck E rfl rfl) ?_; clear E a; intro a E
              refine mix_guard_yes E rfl rfl rfl rfl rfl hb69 rfl (by decide) (fun w h => by first | exact rn_fieldAddr0 (q := 1) E rfl rfl rfl | exact rn_fieldAddr (q := 1) E rfl rfl rfl) ?_; clear E a; intro a E
              refine mix_guard_yes E rfl rfl rfl rfl rfl hb69 rfl (by decide) (fun w h => by first | exact rn_load E rfl rfl rfl (h.one (by repeat (first | exact mm1 | assumption | apply List.Mem.tail))) rfl | exact rn_loadc E rfl rfl rfl (by assumption)) ?_; clear E a; intro a E
              rw [evf] at E
              refine mix_guard_yes E rfl rfl rfl rfl rfl hb69 rfl (by decide) (fun w h => by first | exact rn_fieldAddr0 (q := 0) E rfl rfl rfl | exact rn_fieldAddr (q := 0) E rfl rfl rfl) ?_; clear E a; intro a E
              refine mix_guard_yes E rfl rfl rfl rfl rfl hb69 rfl (by decide) (fun w h => by first | exact rn_load E rfl rfl rfl (h.one (by repeat (first | exact mm1 | assumption | apply List.Mem.tail))) rfl | exact rn_loadc E rfl rfl rfl (by assumption)) ?_; clear E a; intro a E
              refine mix_guard_yes E rfl rfl rfl rfl rfl hb69 rfl (by decide) (fun w h => by first | exact rn_indexAddr1 E rfl rfl rfl rfl rfl rfl (by omega) | exact rn_indexAddr E rfl rfl rfl rfl rfl rfl (by omega) | exact rn_indexAddr_array E rfl rfl rfl rfl rfl rfl (by omega)) ?_; clear E a; intro a E
              refine mix_guard_yes E rfl rfl rfl rfl rfl hb69 rfl (by decide) (fun w h => rn_loadc E rfl rfl rfl ((by have h9 := hVf.rd; rw [hF] at h9; exact h9.midi hfl (h.at (by repeat (first | exact mm1 | assumption | apply List.Mem.tail)))))) ?_; clear E a; intro a E
              refine mix_guard_yes E rfl rfl rfl rfl rfl hb69 rfl (by decide) (fun w h => by first | exact rn_fieldAddr0 (q := 1) E rfl rfl rfl | exact rn_fieldAddr (q := 1) E rfl rfl rfl) ?_; clear E a; intro a E
              refine mix_guard_yes E rfl rfl rfl rfl rfl hb69 rfl (by decide) (fun w h => rn_load_blk (vs := [_, _]) E rfl rfl rfl (h.one (by repeat (first | exact mm1 | assumption | apply List.Mem.tail))) rfl rfl) ?_; clear E a; intro a E
              refine mix_guard_last E rfl rfl rfl rfl rfl hb69 ?_; refine wp_call' E rfl (by decide) rfl Try.func23 rfl (by kernel_rfl) rfl (rem_ret f.p f.l sp f.C _ (hV.fs f hfm) (hfa ▸ ho.frAt t) (S.hp.sel (sel_cons (by repeat (first | exact pk1 | apply pick_tail)) (sel_nil _)))) ?_
              rintro v80 w ⟨rfl, C2, hC2, hT⟩; clear E a; intro a E
              have S := S.call1 (sel_cons (by repeat (first | exact pk1 | apply pick_tail)) (sel_nil _)) hT
              refine mix_guard_free E rfl rfl rfl rfl rfl hb69 rfl (by decide) (fun w => by first | exact rn_neq E rfl rfl rfl | exact rn_neq_ptr_nil E rfl rfl rfl rfl | exact rn_neq_bool E rfl rfl rfl rfl | exact rn_neq_string E rfl rfl rfl) ?_; clear E a; intro a E
              refine mix_free E rfl rfl rfl (by decide) (fun w => rn_pick_no' E rfl rfl hb69 rfl) ?_; clear E a; intro a E
              refine mix_nil ?_
              refine then_k hK ?_; clear hK; clear K
              refine if_bool E rfl (fun hb => ?_) (fun hb => ?_)
              · replace hb := Nrm.nrm hb
                refine wp_seq_k ?_; intro K hK
                refine region_list ?_
                refine list_pure E rfl rfl (by decide) (rn_assign E rfl rfl) ?_; clear E a; intro a E
                refine list_pure E rfl rfl (by decide) (rn_assign E rfl rfl) ?_; clear E a; intro a E
                refine wpList_nil ?_
                refine then_k hK ?_; clear hK; clear K
                refine wp_ret ?_
                refine in_ret ?_
                refine then_ret ?_; clear hK; clear K
                refine then_ret ?_
                refine in_ret ?_
                refine then_ret ?_; clear hK; clear K
                refine ret2 E rfl rfl rfl ?_
                have hn : y.cut1 ⟨t, sp⟩ = none := by unfold Al.cut1; rw [if_neg (by simp only [Int.toNat_natCast, hfa, Bool.and_eq_true, decide_eq_true_eq]; exact fun z => hb z.2)]
                exact ⟨_, rfl, .inl ⟨by unfold Al.start; rw [if_neg (by rw [hgood]; simp)]; exact hcu2 hn, rfl, (S.only (Bs := [O, O2]) (sel_cons (by repeat (first | exact pk1 | apply pick_tail)) (sel_cons (by repeat (first | exact pk1 | apply pick_tail)) (sel_nil _)))).tr⟩⟩
              · replace hb := Nrm.nrm hb
                refine wp_skip ?_
                refine in_normal ?_
                refine then_k hK ?_; clear hK; clear K
                refine region_list ?_
                refine list_pure E rfl rfl (by decide) (rn_add E rfl rfl rfl (by first | exact wa_lit (y := 1) (by omega) | exact w_in (by omega) | exact w_inu (by omega) | exact rfl)) ?_; clear E a; intro a E
                refine list_pure E rfl rfl (by decide) (rn_move E rfl rfl) ?_; clear E a; intro a E
                refine wpList_nil ?_
                refine then_normal ?_
                have he0 : remE f.l sp = 0 := by simpa using hb
                have hn : y.cut1 ⟨t, sp⟩ = some (y.setF t (remS f.l sp)) := by unfold Al.cut1; simp only [Int.toNat_natCast, hfa]; rw [if_pos (by rw [hh, decide_eq_true he0]; rfl)]
                have hok := Al.cut1_ok ho hn
                have hV2 := hV.newF hF hC2
                rw [hfl] at hV2
                have S := St.cls [_, _, _] (unfocF (V := V) (p := b29) (FA := FA) (FB := FB) (f' := ⟨f.p, remS f.l sp, C2⟩) [_, _, _] S)
                exact ⟨_, by omega, k + 1, _, _, rfl, by omega, hcu1 _ hn, ⟨hok, _, hV2, rfl⟩, ⟨_, S.tail⟩, E.keep (keep_cons rfl (keep_cons rfl (keep_cons rfl (keep_cons rfl (keep_cons rfl (keep_cons rfl keep_nil))))))⟩
          · replace hb := Nrm.nrm hb
            refine wp_exit ?_
            refine then_exit ?_; clear hK; clear K
            refine then_exit ?_
            refine in_exit ?_
            refine then_k hK ?_; clear hK; clear K
            refine wp_seq_k ?_; intro K hK
            refine region_list ?_
            refine list_pure E rfl rfl (by decide) (rn_move E rfl rfl) ?_; clear E a; intro a E
            refine list_pure E rfl rfl (by decide) (rn_assign E rfl rfl) ?_; clear E a; intro a E
            refine list_pure E rfl rfl (by decide) (rn_assign E rfl rfl) ?_; clear E a; intro a E
            refine wpList_nil ?_
            refine then_k hK ?_; clear hK; clear K
            refine wp_ret ?_
            refine ret2 E rfl rfl rfl ?_
            obtain rfl : k = tk.length := by omega
            rw [List.take_length] at hcu
            exact ⟨_, rfl, .inr ⟨y, b29, A, by unfold Al.start; rw [if_neg (by rw [hgood]; simp), hcu], rfl, hA, (S.only (Bs := [A, O, O2]) (sel_cons (by repeat (first | exact pk1 | apply pick_tail)) (sel_cons (by repeat (first | exact pk1 | apply pick_tail)) (sel_cons (by repeat (first | exact pk1 | apply pick_tail)) (sel_nil _))))).tr⟩⟩
  -- unused annotation: if r2@x
  -- unused annotation: if r14@x
end Go.Proofs.Ytenhebjhoicpjaa
