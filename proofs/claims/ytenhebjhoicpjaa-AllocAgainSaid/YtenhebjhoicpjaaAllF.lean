/-
  Allocators: is a place held; taken back.
-/
import Derived.Test.YtenhebjhoicpjaaAllE
namespace Go.Proofs.Ytenhebjhoicpjaa
open Go.Sl
set_option maxRecDepth 10000

abbrev hdc (p : Nat) (vs vf vw : Value) (r : Nat) : Chunk := [(p, cel [vs, vf, vw, .map (some r)] 54)]

theorem size_at {y : Al} {t : Nat} (h : t < y.sizes.length) : y.size t = y.sizes[t] := by
  unfold Al.size; rw [List.getD_eq_getElem?_getD, List.getElem?_eq_getElem h]; rfl

theorem aheld_ret (p : Nat) (y : Al) (q : Pl) (A : Chunk) (hA : AlC p y A) (w0 : World) (H : Hp w0 [A]) :
    Ret Try.prog 31 #[ptr p, q.agg] w0 fun u w' => u = .bool (y.held q) ∧ Trs w0 w' [A] [A] := by
  obtain ⟨top, sp⟩ := q
  obtain ⟨ho, ⟨vs, vf, vw, Cz, Cf, Cw, F, W, G, r, clock⟩, hV, rfl⟩ := hA
  have hl := hV.lenF ho
  have hl2 := hV.lenW ho
  simp only at hl hl2
  obtain ⟨f1, f2, evf⟩ := hV.f.slice
  simp only at evf; subst evf
  obtain ⟨w1, w2, evw⟩ := hV.w.slice
  simp only at evw; subst evw
  obtain ⟨z1, z2, evz⟩ := hV.vs_is
  simp only at evz; subst evz
  have S := (St.begin H).openF (Ls := [])
  refine enter2 57 Try.func31 rfl rfl (by decide) ?_; intro a E
  refine wp_seq_k ?_; intro K hK
  refine region_list ?_
  refine list_wp rfl (wp_box E S rfl rfl (by decide) rfl rfl ?_); clear E S a; intro a w b3 E S
  refine list_pure E rfl rfl (by decide) (rn_assign E rfl rfl) ?_; clear E a; intro a E
  refine wpList_nil ?_
  refine then_k hK ?_; clear hK; clear K
  refine wp_seq_k ?_; intro K hK
  refine wp_seq_k ?_; intro K hK
  refine region_mix S (.ofL [(0, 0), (1, 0), (2, 0), (3, 1), (4, 0), (5, 0), (6, 0), (7, 0), (8, 0), (9, 0), (10, 0), (11, 0), (12, 0), (13, 0), (14, 0), (15, 0), (16, 0), (17, 0), (18, 0), (19, 0), (21, 0), (22, 0), (20, 1), (23, 3), (24, 2), (25, 2)]) [hdc p (.slice z1 y.sizes.length z2) (.slice f1 F.length f2) (.slice w1 W.length w2) r, Cz, [(b3, cel [.int .i64 top, .int .i64 sp.at_, .int .i64 sp.many] 33)]] (fun h => h.sub (by first | (simp; done) | (simp +contextual; done) | (simp [*]; done))) (by kernel_rfl) (by kernel_rfl) ?_
  clear S; intro w S
  refine mix_pure E rfl rfl rfl (by decide) (fun w h => rn_move E rfl rfl) ?_; clear E a; intro a E
  refine mix_pure E rfl rfl rfl (by decide) (fun w h => by first | exact rn_fieldAddr0 (q := 0) E rfl rfl rfl | exact rn_fieldAddr (q := 0) E rfl rfl rfl) ?_; clear E a; intro a E
  refine mix_pure E rfl rfl rfl (by decide) (fun w h => by first | exact rn_load E rfl rfl rfl (h.one (by repeat (first | exact mm1 | assumption | apply List.Mem.tail))) rfl | exact rn_loadc E rfl rfl rfl (by assumption)) ?_; clear E a; intro a E
  refine mix_call E rfl rfl rfl (by decide) rfl Try.func22 rfl (by kernel_rfl) rfl (ahas_ret top (by repeat (first | exact mm1 | assumption | apply List.Mem.tail)) _ S.hp) ?_
  rintro v8 w ⟨rfl, hT⟩; clear E a; intro a E
  have S := S.all hT
  refine ⟨S.stab.sub (by first | (simp; done) | (simp +contextual; done) | (simp [*]; done)), ?_⟩
  refine mix_pure E rfl rfl rfl (by decide) (fun w h => rn_not E rfl rfl) ?_; clear E a; intro a E
  refine mix_pure E rfl rfl rfl (by decide) (fun w h => rn_move E rfl rfl) ?_; clear E a; intro a E
  refine guard_split E (t := 10) rfl (fun hb10 => ?_) (fun hb10 => ?_)
  · have hb10n := hb10; replace hb10n := Nrm.nrm hb10n
    have hh : y.has top = false := (by simpa using hb10)
    refine mix_guard_no E rfl rfl rfl rfl rfl hb10 rfl (by decide) ?_; clear E a; intro a E
    refine mix_guard_no E rfl rfl rfl rfl rfl hb10 rfl (by decide) ?_; clear E a; intro a E
    refine mix_guard_no E rfl rfl rfl rfl rfl hb10 rfl (by decide) ?_; clear E a; intro a E
    refine mix_guard_no E rfl rfl rfl rfl rfl hb10 rfl (by decide) ?_; clear E a; intro a E
    refine mix_pure E rfl rfl rfl (by decide) (fun w h => rn_pick_yes' E rfl rfl hb10 rfl) ?_; clear E a; intro a E
    refine mix_pure E rfl rfl rfl (by decide) (fun w h => rn_move E rfl rfl) ?_; clear E a; intro a E
    refine mix_guard_no E rfl rfl rfl rfl rfl rfl rfl (by decide) ?_; clear E a; intro a E
    refine mix_guard_no E rfl rfl rfl rfl rfl rfl rfl (by decide) ?_; clear E a; intro a E
    refine mix_guard_no E rfl rfl rfl rfl rfl rfl rfl (by decide) ?_; clear E a; intro a E
    refine mix_guard_no E rfl rfl rfl rfl rfl rfl rfl (by decide) ?_; clear E a; intro a E
    refine mix_guard_no E rfl rfl rfl rfl rfl rfl rfl (by decide) ?_; clear E a; intro a E
    refine mix_guard_no E rfl rfl rfl rfl rfl rfl rfl (by decide) ?_; clear E a; intro a E
    refine mix_guard_no E rfl rfl rfl rfl rfl rfl rfl (by decide) ?_; clear E a; intro a E
    refine mix_guard_no E rfl rfl rfl rfl rfl rfl rfl (by decide) ?_; clear E a; intro a E
    refine mix_guard_no E rfl rfl rfl rfl rfl rfl rfl (by decide) ?_; clear E a; intro a E
    refine mix_guard_no E rfl rfl rfl rfl rfl rfl rfl (by decide) ?_; clear E a; intro a E
    refine mix_guard_no_act E rfl rfl rfl rfl rfl rfl rfl (by decide) (S.stab.sub (by first | (simp; done) | (simp +contextual; done) | (simp [*]; done))) ?_; clear E a; intro a E
    refine mix_guard_no_last E rfl rfl rfl rfl rfl rfl rfl (by decide) ?_; clear E a; intro a E
    refine mix_guard_no2 E rfl rfl rfl rfl rfl rfl rfl (by decide) ?_; clear E a; intro a E
    refine mix_free E rfl rfl rfl (by decide) (fun w => rn_pick_yes' E rfl rfl rfl rfl) ?_; clear E a; intro a E
    refine mix_nil ?_
    refine then_k hK ?_; clear hK; clear K
    refine if_true' E rfl rfl ?_
    refine wp_seq_k ?_; intro K hK
    replace E := E.keep (e' := [(0, _), (3, _), (4, _)]) (keep_cons rfl (keep_cons rfl (keep_cons rfl (keep_nil))))
    refine region_list ?_
    refine list_pure E rfl rfl (by decide) (rn_assign E rfl rfl) ?_; clear E a; intro a E
    refine wpList_nil ?_
    refine then_k hK ?_; clear hK; clear K
    refine wp_ret ?_
    refine then_ret ?_; clear hK; clear K
    refine ret1 E rfl rfl ?_
    exact ⟨_, rfl, by simp [Al.held, hh], (St.closeF (Ls := []) S.tail).tr⟩
  · have hb10n := hb10; replace hb10n := Nrm.nrm hb10n
    have hh : y.has top = true := (by simpa using hb10)
    refine mix_guard_yes E rfl rfl rfl rfl rfl hb10 rfl (by decide) (fun w h => by first | exact rn_fieldAddr0 (q := 1) E rfl rfl rfl | exact rn_fieldAddr (q := 1) E rfl rfl rfl) ?_; clear E a; intro a E
    refine mix_guard_yes E rfl rfl rfl rfl rfl hb10 rfl (by decide) (fun w h => by first | exact rn_fieldAddr0 (q := 1) E rfl rfl rfl | exact rn_fieldAddr (q := 1) E rfl rfl rfl) ?_; clear E a; intro a E
    refine mix_guard_yes E rfl rfl rfl rfl rfl hb10 rfl (by decide) (fun w h => by first | exact rn_load E rfl rfl rfl (h.one (by repeat (first | exact mm1 | assumption | apply List.Mem.tail))) rfl | exact rn_loadc E rfl rfl rfl (by assumption)) ?_; clear E a; intro a E
    refine mix_guard_yes E rfl rfl rfl rfl rfl hb10 rfl (by decide) (fun w h => rn_lss E rfl rfl rfl) ?_; clear E a; intro a E
    refine mix_pure E rfl rfl rfl (by decide) (fun w h => rn_pick_no' E rfl rfl hb10 rfl) ?_; clear E a; intro a E
    refine mix_pure E rfl rfl rfl (by decide) (fun w h => rn_move E rfl rfl) ?_; clear E a; intro a E
    refine guard_split E (t := 16) rfl (fun hb16 => ?_) (fun hb16 => ?_)
    · have hb16n := hb16; replace hb16n := Nrm.nrm hb16n
      skip
      refine mix_guard_no E rfl rfl rfl rfl rfl hb16 rfl (by decide) ?_; clear E a; intro a E
      refine mix_guard_no E rfl rfl rfl rfl rfl hb16 rfl (by decide) ?_; clear E a; intro a E
      refine mix_guard_no E rfl rfl rfl rfl rfl hb16 rfl (by decide) ?_; clear E a; intro a E
      refine mix_guard_no E rfl rfl rfl rfl rfl hb16 rfl (by decide) ?_; clear E a; intro a E
      refine mix_guard_no E rfl rfl rfl rfl rfl hb16 rfl (by decide) ?_; clear E a; intro a E
      refine mix_guard_no E rfl rfl rfl rfl rfl hb16 rfl (by decide) ?_; clear E a; intro a E
      refine mix_guard_no E rfl rfl rfl rfl rfl hb16 rfl (by decide) ?_; clear E a; intro a E
      refine mix_guard_no E rfl rfl rfl rfl rfl hb16 rfl (by decide) ?_; clear E a; intro a E
      refine mix_guard_no E rfl rfl rfl rfl rfl hb16 rfl (by decide) ?_; clear E a; intro a E
      refine mix_guard_no E rfl rfl rfl rfl rfl hb16 rfl (by decide) ?_; clear E a; intro a E
      refine mix_guard_no_act E rfl rfl rfl rfl rfl hb16 rfl (by decide) (S.stab.sub (by first | (simp; done) | (simp +contextual; done) | (simp [*]; done))) ?_; clear E a; intro a E
      refine mix_guard_no_last E rfl rfl rfl rfl rfl hb16 rfl (by decide) ?_; clear E a; intro a E
      refine mix_guard_no2 E rfl rfl rfl rfl rfl hb16 rfl (by decide) ?_; clear E a; intro a E
      refine mix_free E rfl rfl rfl (by decide) (fun w => rn_pick_yes' E rfl rfl hb16 rfl) ?_; clear E a; intro a E
      refine mix_nil ?_
      refine then_k hK ?_; clear hK; clear K
      refine if_true' E rfl rfl ?_
      refine wp_seq_k ?_; intro K hK
      replace E := E.keep (e' := [(0, _), (3, _), (4, _)]) (keep_cons rfl (keep_cons rfl (keep_cons rfl (keep_nil))))
      refine region_list ?_
      refine list_pure E rfl rfl (by decide) (rn_assign E rfl rfl) ?_; clear E a; intro a E
      refine wpList_nil ?_
      refine then_k hK ?_; clear hK; clear K
      refine wp_ret ?_
      refine then_ret ?_; clear hK; clear K
      refine ret1 E rfl rfl ?_
      exact ⟨_, rfl, by rw [Value.bool.injEq, eq_comm, ← Bool.not_eq_true]; simp only [Al.held, Bool.and_eq_true, decide_eq_true_eq]; rintro ⟨⟨⟨⟨_, h⟩, _⟩, _⟩, _⟩; omega, (St.closeF (Ls := []) S.tail).tr⟩
    · have hb16n := hb16; replace hb16n := Nrm.nrm hb16n
      simp only [Al.has, decide_eq_true_eq] at hh; obtain ⟨t, rfl⟩ : ∃ t : Nat, top = t := ⟨top.toNat, by omega⟩; have htl : t < y.sizes.length := (by omega); obtain ⟨zb, zo, rfl⟩ := hV.z.rd.addr (by show 0 < y.sizes.length; omega); have hsz := ho.sz _ (List.getElem_mem htl)
      refine mix_guard_yes E rfl rfl rfl rfl rfl hb16 rfl (by decide) (fun w h => rn_move E rfl rfl) ?_; clear E a; intro a E
      refine mix_guard_yes E rfl rfl rfl rfl rfl hb16 rfl (by decide) (fun w h => rn_nilCheck E rfl rfl) ?_; clear E a; intro a E
      refine mix_guard_yes E rfl rfl rfl rfl rfl hb16 rfl (by decide) (fun w h => by first | exact rn_fieldAddr0 (q := 0) E rfl rfl rfl | exact rn_fieldAddr (q := 0) E rfl rfl rfl) ?_; clear E a; intro a E
      refine mix_guard_yes E rfl rfl rfl rfl rfl hb16 rfl (by decide) (fun w h => by first | exact rn_load E rfl rfl rfl (h.one (by repeat (first | exact mm1 | assumption | apply List.Mem.tail))) rfl | exact rn_loadc E rfl rfl rfl (by assumption)) ?_; clear E a; intro a E
      refine mix_guard_yes E rfl rfl rfl rfl rfl hb16 rfl (by decide) (fun w h => by first | exact rn_fieldAddr0 (q := 0) E rfl rfl rfl | exact rn_fieldAddr (q := 0) E rfl rfl rfl) ?_; clear E a; intro a E
      refine mix_guard_yes E rfl rfl rfl rfl rfl hb16 rfl (by decide) (fun w h => by first | exact rn_load E rfl rfl rfl (h.one (by repeat (first | exact mm1 | assumption | apply List.Mem.tail))) rfl | exact rn_loadc E rfl rfl rfl (by assumption)) ?_; clear E a; intro a E
      refine mix_guard_yes E rfl rfl rfl rfl rfl hb16 rfl (by decide) (fun w h => by first | exact rn_indexAddr1 E rfl rfl rfl rfl rfl rfl (by omega) | exact rn_indexAddr E rfl rfl rfl rfl rfl rfl (by omega) | exact rn_indexAddr_array E rfl rfl rfl rfl rfl rfl (by omega)) ?_; clear E a; intro a E
      refine mix_guard_yes E rfl rfl rfl rfl rfl hb16 rfl (by decide) (fun w h => rn_loadc E rfl rfl rfl (hV.z.rd.at1 (h.at (by repeat (first | exact mm1 | assumption | apply List.Mem.tail))) htl)) ?_; clear E a; intro a E
      refine mix_guard_yes E rfl rfl rfl rfl rfl hb16 rfl (by decide) (fun w h => by first | exact rn_fieldAddr0 (q := 1) E rfl rfl rfl | exact rn_fieldAddr (q := 1) E rfl rfl rfl) ?_; clear E a; intro a E
      refine mix_guard_yes E rfl rfl rfl rfl rfl hb16 rfl (by decide) (fun w h => rn_load_blk (vs := [_, _]) E rfl rfl rfl (h.one (by repeat (first | exact mm1 | assumption | apply List.Mem.tail))) rfl rfl) ?_; clear E a; intro a E
      refine mix_guard_act E rfl rfl rfl rfl rfl hb16 ?_; refine wp_call' E rfl (by decide) rfl Try.func20 rfl (by kernel_rfl) rfl (whole_ret y.sizes[t] hsz.2 _) ?_
      rintro v25 w ⟨wp, B, rfl, hB, hT⟩; clear E a; intro a E
      have S := S.fresh hT
      refine ⟨S.stab.sub (by first | (simp; done) | (simp +contextual; done) | (simp [*]; done)), ?_⟩
      refine mix_guard_last E rfl rfl rfl rfl rfl hb16 ?_; refine wp_call' E rfl (by decide) rfl Try.func35 rfl (by kernel_rfl) rfl (Proofs.Ytenhebjhoicpjaa.has_ret wp (whole y.sizes[t]) _ sp B _ hB (whole_okl hsz.2) (S.hp.sel (sel_cons (by repeat (first | exact pk1 | apply pick_tail)) (sel_nil _)))) ?_
      rintro v28 w ⟨rfl, hT⟩; clear E a; intro a E
      have S := S.call1 (sel_cons (by repeat (first | exact pk1 | apply pick_tail)) (sel_nil _)) hT
      refine mix_guard_free E rfl rfl rfl rfl rfl hb16 rfl (by decide) (fun w => rn_not E rfl rfl) ?_; clear E a; intro a E
      refine mix_free E rfl rfl rfl (by decide) (fun w => rn_pick_no' E rfl rfl hb16 rfl) ?_; clear E a; intro a E
      refine mix_nil ?_
      refine then_k hK ?_; clear hK; clear K
      refine if_bool E rfl (fun hb => ?_) (fun hb => ?_)
      · replace hb := Nrm.nrm hb
        refine wp_seq_k ?_; intro K hK
        replace E := E.keep (e' := [(0, _), (3, _), (4, _)]) (keep_cons rfl (keep_cons rfl (keep_cons rfl (keep_nil))))
        refine region_list ?_
        refine list_pure E rfl rfl (by decide) (rn_assign E rfl rfl) ?_; clear E a; intro a E
        refine wpList_nil ?_
        refine then_k hK ?_; clear hK; clear K
        refine wp_ret ?_
        refine then_ret ?_; clear hK; clear K
        refine ret1 E rfl rfl ?_
        exact ⟨_, rfl, by rw [Value.bool.injEq, eq_comm, ← Bool.not_eq_true]; simp only [Al.held, Bool.and_eq_true, decide_eq_true_eq, Int.toNat_natCast, size_at htl]; rintro ⟨⟨⟨_, h⟩, _⟩, _⟩; simp [h] at hb, (St.closeF (Ls := []) S.tail.tail).tr⟩
      · replace hb := Nrm.nrm hb
        refine wp_skip ?_
        refine then_k hK ?_; clear hK; clear K
        refine wp_seq_k ?_; intro K hK
        replace E := E.keep (e' := [(0, _), (3, _), (4, _)]) (keep_cons rfl (keep_cons rfl (keep_cons rfl (keep_nil))))
        have S := S.tail
        obtain ⟨FA, f, FB, rfl, rfl⟩ := split_at (l := F) (i := t) (by omega)
        obtain ⟨WA, g, WB, rfl, hwl⟩ := split_at (l := W) (i := FA.length) (by omega)
        obtain ⟨fb, fo, rfl⟩ := hV.f.rd.addr (by omega)
        obtain ⟨wb, wo, rfl⟩ := hV.w.rd.addr (by omega)
        have S := foc5d S
        have hsp : hasL (whole (y.size FA.length)) sp = true := by rw [size_at htl]; simpa using hb
        have hw : y.wt FA.length = g.l := by rw [← hwl]; exact wt_mid hV.ew
        have hhas : y.has FA.length = true := by simpa using hb10
        have hheld : y.held ⟨FA.length, sp⟩ = (!meetsL f.l sp && !meetsL g.l sp) := by
          simp only [Al.held, Int.toNat_natCast, fr_mid hV.ef, hw, hsp, hhas, Bool.true_and, Bool.and_true]
          rw [decide_eq_true (by omega), Bool.true_and]
        refine region_mix S (.ofL [(0, 0), (1, 0), (2, 0), (3, 0), (4, 0), (5, 0), (6, 0), (7, 0), (8, 0), (9, 0), (10, 1), (11, 0), (12, 0), (13, 0), (14, 0), (15, 0), (16, 0), (17, 0), (18, 0), (19, 0), (20, 0), (21, 0), (22, 0), (23, 3), (24, 2), (25, 2), (26, 2)]) [hdc p (.slice (some ⟨zb, zo, none⟩) y.sizes.length z2) (.slice (some ⟨fb, fo, none⟩) (FA ++ f :: FB).length f2) (.slice (some ⟨wb, wo, none⟩) (WA ++ g :: WB).length w2) r, Cf, Cw, [(b3, cel [.int .i64 FA.length, .int .i64 sp.at_, .int .i64 sp.many] 33)]] (fun h => h.sub (by first | (simp; done) | (simp +contextual; done) | (simp [*]; done))) (by kernel_rfl) (by kernel_rfl) ?_
        clear S; intro w S
        refine mix_pure E rfl rfl rfl (by decide) (fun w h => rn_move E rfl rfl) ?_; clear E a; intro a E
        refine mix_pure E rfl rfl rfl (by decide) (fun w h => rn_nilCheck E rfl rfl) ?_; clear E a; intro a E
        refine mix_pure E rfl rfl rfl (by decide) (fun w h => by first | exact rn_fieldAddr0 (q := 1) E rfl rfl rfl | exact rn_fieldAddr (q := 1) E rfl rfl rfl) ?_; clear E a; intro a E
        refine mix_pure E rfl rfl rfl (by decide) (fun w h => by first | exact rn_load E rfl rfl rfl (h.one (by repeat (first | exact mm1 | assumption | apply List.Mem.tail))) rfl | exact rn_loadc E rfl rfl rfl (by assumption)) ?_; clear E a; intro a E
        refine mix_pure E rfl rfl rfl (by decide) (fun w h => by first | exact rn_fieldAddr0 (q := 0) E rfl rfl rfl | exact rn_fieldAddr (q := 0) E rfl rfl rfl) ?_; clear E a; intro a E
        refine mix_pure E rfl rfl rfl (by decide) (fun w h => by first | exact rn_load E rfl rfl rfl (h.one (by repeat (first | exact mm1 | assumption | apply List.Mem.tail))) rfl | exact rn_loadc E rfl rfl rfl (by assumption)) ?_; clear E a; intro a E
        refine mix_pure E rfl rfl rfl (by decide) (fun w h => by first | exact rn_indexAddr1 E rfl rfl rfl rfl rfl rfl (by omega) | exact rn_indexAddr E rfl rfl rfl rfl rfl rfl (by omega) | exact rn_indexAddr_array E rfl rfl rfl rfl rfl rfl (by omega)) ?_; clear E a; intro a E
        refine mix_pure E rfl rfl rfl (by decide) (fun w h => rn_loadc E rfl rfl rfl (hV.f.rd.mid (h.at (by repeat (first | exact mm1 | assumption | apply List.Mem.tail))))) ?_; clear E a; intro a E
        refine mix_pure E rfl rfl rfl (by decide) (fun w h => by first | exact rn_fieldAddr0 (q := 1) E rfl rfl rfl | exact rn_fieldAddr (q := 1) E rfl rfl rfl) ?_; clear E a; intro a E
        refine mix_pure E rfl rfl rfl (by decide) (fun w h => rn_load_blk (vs := [_, _]) E rfl rfl rfl (h.one (by repeat (first | exact mm1 | assumption | apply List.Mem.tail))) rfl rfl) ?_; clear E a; intro a E
        refine mix_call E rfl rfl rfl (by decide) rfl Try.func41 rfl (by kernel_rfl) rfl (meets_ret f.p f.l _ sp f.C _ (hV.fs f (by simp)) (ho.fr f.l (by rw [hV.ef]; simp)) (S.hp.sel (sel_cons (by repeat (first | exact pk1 | apply pick_tail)) (sel_nil _)))) ?_
        rintro v41 w ⟨rfl, hT⟩; clear E a; intro a E
        have S := S.call1 (sel_cons (by repeat (first | exact pk1 | apply pick_tail)) (sel_nil _)) hT
        refine ⟨S.stab.sub (by first | (simp; done) | (simp +contextual; done) | (simp [*]; done)), ?_⟩
        refine mix_pure E rfl rfl rfl (by decide) (fun w h => rn_not E rfl rfl) ?_; clear E a; intro a E
        refine mix_pure E rfl rfl rfl (by decide) (fun w h => rn_move E rfl rfl) ?_; clear E a; intro a E
        refine guard_split E (t := 43) rfl (fun hb43 => ?_) (fun hb43 => ?_)
        · have hb43n := hb43; replace hb43n := Nrm.nrm hb43n
          skip
          refine mix_guard_yes E rfl rfl rfl rfl rfl hb43 rfl (by decide) (fun w h => rn_move E rfl rfl) ?_; clear E a; intro a E
          refine mix_guard_yes E rfl rfl rfl rfl rfl hb43 rfl (by decide) (fun w h => rn_nilCheck E rfl rfl) ?_; clear E a; intro a E
          refine mix_guard_yes E rfl rfl rfl rfl rfl hb43 rfl (by decide) (fun w h => by first | exact rn_fieldAddr0 (q := 2) E rfl rfl rfl | exact rn_fieldAddr (q := 2) E rfl rfl rfl) ?_; clear E a; intro a E
          refine mix_guard_yes E rfl rfl rfl rfl rfl hb43 rfl (by decide) (fun w h => by first | exact rn_load E rfl rfl rfl (h.one (by repeat (first | exact mm1 | assumption | apply List.Mem.tail))) rfl | exact rn_loadc E rfl rfl rfl (by assumption)) ?_; clear E a; intro a E
          refine mix_guard_yes E rfl rfl rfl rfl rfl hb43 rfl (by decide) (fun w h => by first | exact rn_fieldAddr0 (q := 0) E rfl rfl rfl | exact rn_fieldAddr (q := 0) E rfl rfl rfl) ?_; clear E a; intro a E
          refine mix_guard_yes E rfl rfl rfl rfl rfl hb43 rfl (by decide) (fun w h => by first | exact rn_load E rfl rfl rfl (h.one (by repeat (first | exact mm1 | assumption | apply List.Mem.tail))) rfl | exact rn_loadc E rfl rfl rfl (by assumption)) ?_; clear E a; intro a E
          refine mix_guard_yes E rfl rfl rfl rfl rfl hb43 rfl (by decide) (fun w h => by first | exact rn_indexAddr1 E rfl rfl rfl rfl rfl rfl (by omega) | exact rn_indexAddr E rfl rfl rfl rfl rfl rfl (by omega) | exact rn_indexAddr_array E rfl rfl rfl rfl rfl rfl (by omega)) ?_; clear E a; intro a E
          refine mix_guard_yes E rfl rfl rfl rfl rfl hb43 rfl (by decide) (fun w h => rn_loadc E rfl rfl rfl (hV.w.rd.midi hwl (h.at (by repeat (first | exact mm1 | assumption | apply List.Mem.tail))))) ?_; clear E a; intro a E
          refine mix_guard_yes E rfl rfl rfl rfl rfl hb43 rfl (by decide) (fun w h => by first | exact rn_fieldAddr0 (q := 1) E rfl rfl rfl | exact rn_fieldAddr (q := 1) E rfl rfl rfl) ?_; clear E a; intro a E
          refine mix_guard_yes E rfl rfl rfl rfl rfl hb43 rfl (by decide) (fun w h => rn_load_blk (vs := [_, _]) E rfl rfl rfl (h.one (by repeat (first | exact mm1 | assumption | apply List.Mem.tail))) rfl rfl) ?_; clear E a; intro a E
          have S := foc6d (unfoc5d (x := f) (g := fun s : Sset => s.C) S)
          refine mix_guard_last E rfl rfl rfl rfl rfl hb43 ?_; refine wp_call' E rfl (by decide) rfl Try.func41 rfl (by kernel_rfl) rfl (meets_ret g.p g.l _ sp g.C _ (hV.ws g (by simp)) (ho.wt g.l (by rw [hV.ew]; simp)) (S.hp.sel (sel_cons (by repeat (first | exact pk1 | apply pick_tail)) (sel_nil _)))) ?_
          rintro v54 w ⟨rfl, hT⟩; clear E a; intro a E
          have S := S.call1 (sel_cons (by repeat (first | exact pk1 | apply pick_tail)) (sel_nil _)) hT
          refine mix_guard_free E rfl rfl rfl rfl rfl hb43 rfl (by decide) (fun w => rn_not E rfl rfl) ?_; clear E a; intro a E
          refine mix_free E rfl rfl rfl (by decide) (fun w => rn_pick_yes' E rfl rfl hb43 rfl) ?_; clear E a; intro a E
          refine mix_free E rfl rfl rfl (by decide) (fun w => rn_assign E rfl rfl) ?_; clear E a; intro a E
          refine mix_nil ?_
          refine then_k hK ?_; clear hK; clear K
          refine wp_ret ?_
          refine ret1 E rfl rfl ?_
          exact ⟨_, rfl, by rw [hheld, hb43, Bool.true_and], (St.closeF (Ls := []) (unfoc6d (A := WA) (B := WB) (Y := (FA ++ f :: FB).map fun s : Sset => s.C) (X := G.map fun s : Gr => s.C) (Ls := []) (x := g) (g := fun s : Sset => s.C) S).tail).tr⟩
        · have hb43n := hb43; replace hb43n := Nrm.nrm hb43n
          skip
          refine mix_guard_no E rfl rfl rfl rfl rfl hb43 rfl (by decide) ?_; clear E a; intro a E
          refine mix_guard_no E rfl rfl rfl rfl rfl hb43 rfl (by decide) ?_; clear E a; intro a E
          refine mix_guard_no E rfl rfl rfl rfl rfl hb43 rfl (by decide) ?_; clear E a; intro a E
          refine mix_guard_no E rfl rfl rfl rfl rfl hb43 rfl (by decide) ?_; clear E a; intro a E
          refine mix_guard_no E rfl rfl rfl rfl rfl hb43 rfl (by decide) ?_; clear E a; intro a E
          refine mix_guard_no E rfl rfl rfl rfl rfl hb43 rfl (by decide) ?_; clear E a; intro a E
          refine mix_guard_no E rfl rfl rfl rfl rfl hb43 rfl (by decide) ?_; clear E a; intro a E
          refine mix_guard_no E rfl rfl rfl rfl rfl hb43 rfl (by decide) ?_; clear E a; intro a E
          refine mix_guard_no E rfl rfl rfl rfl rfl hb43 rfl (by decide) ?_; clear E a; intro a E
          refine mix_guard_no E rfl rfl rfl rfl rfl hb43 rfl (by decide) ?_; clear E a; intro a E
          have S := foc6d (unfoc5d (x := f) (g := fun s : Sset => s.C) S)
          refine mix_guard_no_last E rfl rfl rfl rfl rfl hb43 rfl (by decide) ?_; clear E a; intro a E
          refine mix_guard_no2 E rfl rfl rfl rfl rfl hb43 rfl (by decide) ?_; clear E a; intro a E
          refine mix_free E rfl rfl rfl (by decide) (fun w => rn_pick_no' E rfl rfl hb43 rfl) ?_; clear E a; intro a E
          refine mix_free E rfl rfl rfl (by decide) (fun w => rn_assign E rfl rfl) ?_; clear E a; intro a E
          refine mix_nil ?_
          refine then_k hK ?_; clear hK; clear K
          refine wp_ret ?_
          refine ret1 E rfl rfl ?_
          exact ⟨_, rfl, by rw [hheld, hb43, Bool.false_and], (St.closeF (Ls := []) (unfoc6d (A := WA) (B := WB) (Y := (FA ++ f :: FB).map fun s : Sset => s.C) (X := G.map fun s : Gr => s.C) (Ls := []) (x := g) (g := fun s : Sset => s.C) S).tail).tr⟩

theorem aundo_ret (p : Nat) (y : Al) (q : Pl) (A : Chunk) (hA : AlC p y A) (w0 : World) (H : Hp w0 [A]) :
    Ret Try.prog 15 #[ptr p, q.agg] w0 fun u w' => u = .int .i64 (y.undo q).2 ∧ ∃ A', AlC p (y.undo q).1 A' ∧ Trs w0 w' [A] [A'] := by
  have S := St.begin H
  have hA0 := hA
  obtain ⟨top, sp⟩ := q
  obtain ⟨ho, ⟨vs, vf, vw, Cz, Cf, Cw, F, W, G, r, clock⟩, hV, rfl⟩ := hA
  have hl := hV.lenF ho
  simp only at hl
  obtain ⟨f1, f2, evf⟩ := hV.f.slice
  simp only at evf; subst evf
  have hok := Al.undo_ok ho ⟨top, sp⟩
  refine enter2 20 Try.func15 rfl rfl (by decide) ?_; intro a E
  refine wp_seq_k ?_; intro K hK
  refine region_list ?_
  refine list_wp rfl (wp_box E S rfl rfl (by decide) rfl rfl ?_); clear E S a; intro a w b3 E S
  refine list_pure E rfl rfl (by decide) (rn_assign E rfl rfl) ?_; clear E a; intro a E
  refine wpList_nil ?_
  refine then_k hK ?_; clear hK; clear K
  refine wp_seq_k ?_; intro K hK
  refine wp_seq_k ?_; intro K hK
  refine region_list ?_
  refine list_pure E rfl rfl (by decide) (rn_move E rfl rfl) ?_; clear E a; intro a E
  refine list_pure E rfl rfl (by decide) (rn_load_blk (vs := [_, _, _]) E rfl rfl rfl (S.get (by repeat (first | exact pk1 | apply pick_tail))) rfl rfl) ?_; clear E a; intro a E
  refine list_call E rfl rfl (by decide) rfl Try.func31 rfl (by kernel_rfl) rfl (aheld_ret p y ⟨top, sp⟩ _ hA0 _ (S.hp.sel (sel_cons (by repeat (first | exact pk1 | apply pick_tail)) (sel_nil _)))) ?_
  rintro v7 w ⟨rfl, hT⟩; clear E a; intro a E
  have S := S.call1 (sel_cons (by repeat (first | exact pk1 | apply pick_tail)) (sel_nil _)) hT
  refine list_pure E rfl rfl (by decide) (rn_not E rfl rfl) ?_; clear E a; intro a E
  refine wpList_nil ?_
  refine then_k hK ?_; clear hK; clear K
  refine if_bool E rfl (fun hb => ?_) (fun hb => ?_)
  · replace hb := Nrm.nrm hb
    have hh : y.held ⟨top, sp⟩ = false := (by simpa using hb)
    refine wp_seq_k ?_; intro K hK
    refine region_list ?_
    refine list_pure E rfl rfl (by decide) (rn_assign E rfl rfl) ?_; clear E a; intro a E
    refine wpList_nil ?_
    refine then_k hK ?_; clear hK; clear K
    refine wp_ret ?_
    refine then_ret ?_; clear hK; clear K
    refine ret1 E rfl rfl ?_
    have e : y.undo ⟨top, sp⟩ = (y, 110) := by simp [Al.undo, hh]
    exact ⟨_, rfl, by rw [e], _, by rw [e]; exact hA0, (S.only (Bs := [_]) (sel_cons (by repeat (first | exact pk1 | apply pick_tail)) (sel_nil _))).tr⟩
  · replace hb := Nrm.nrm hb
    have hh : y.held ⟨top, sp⟩ = true := (by simpa using hb)
    refine wp_skip ?_
    refine then_k hK ?_; clear hK; clear K
    refine wp_seq_k ?_; intro K hK
    have hh2 := Al.held_has hh
    simp only [Al.has, decide_eq_true_eq] at hh2
    obtain ⟨t, rfl⟩ : ∃ t : Nat, top = t := ⟨top.toNat, by omega⟩
    obtain ⟨FA, f, FB, rfl, rfl⟩ := split_at (l := F) (i := t) (by omega)
    obtain ⟨fb, fo, rfl⟩ := hV.f.rd.addr (by omega)
    have S := foc5 (St.openF (S.front1 (A := (Av.chs _ p).flatten) (by repeat (first | exact pk1 | apply pick_tail))))
    have e : y.undo ⟨FA.length, sp⟩ = (y.setF FA.length (addS f.l sp), addE f.l sp) := by simp only [Al.undo, hh, if_true, Int.toNat_natCast, fr_mid hV.ef]
    refine region_mix S (.ofL [(0, 0), (1, 0), (2, 0), (3, 0), (4, 0), (5, 0), (6, 0), (7, 0), (8, 0), (9, 0), (10, 3), (11, 2)]) [hdc p vs (.slice (some ⟨fb, fo, none⟩) (FA ++ f :: FB).length f2) vw r, Cf, [(b3, cel [.int .i64 FA.length, .int .i64 sp.at_, .int .i64 sp.many] 33)]] (fun h => h.sub (by first | (simp; done) | (simp +contextual; done) | (simp [*]; done))) (by kernel_rfl) (by kernel_rfl) ?_
    clear S; intro w S
    refine mix_pure E rfl rfl rfl (by decide) (fun w h => rn_move E rfl rfl) ?_; clear E a; intro a E
    refine mix_pure E rfl rfl rfl (by decide) (fun w h => rn_nilCheck E rfl rfl) ?_; clear E a; intro a E
    refine mix_pure E rfl rfl rfl (by decide) (fun w h => by first | exact rn_fieldAddr0 (q := 1) E rfl rfl rfl | exact rn_fieldAddr (q := 1) E rfl rfl rfl) ?_; clear E a; intro a E
    refine mix_pure E rfl rfl rfl (by decide) (fun w h => by first | exact rn_load E rfl rfl rfl (h.one (by repeat (first | exact mm1 | assumption | apply List.Mem.tail))) rfl | exact rn_loadc E rfl rfl rfl (by assumption)) ?_; clear E a; intro a E
    refine mix_pure E rfl rfl rfl (by decide) (fun w h => by first | exact rn_fieldAddr0 (q := 0) E rfl rfl rfl | exact rn_fieldAddr (q := 0) E rfl rfl rfl) ?_; clear E a; intro a E
    refine mix_pure E rfl rfl rfl (by decide) (fun w h => by first | exact rn_load E rfl rfl rfl (h.one (by repeat (first | exact mm1 | assumption | apply List.Mem.tail))) rfl | exact rn_loadc E rfl rfl rfl (by assumption)) ?_; clear E a; intro a E
    refine mix_pure E rfl rfl rfl (by decide) (fun w h => by first | exact rn_indexAddr1 E rfl rfl rfl rfl rfl rfl (by omega) | exact rn_indexAddr E rfl rfl rfl rfl rfl rfl (by omega) | exact rn_indexAddr_array E rfl rfl rfl rfl rfl rfl (by omega)) ?_; clear E a; intro a E
    refine mix_pure E rfl rfl rfl (by decide) (fun w h => rn_loadc E rfl rfl rfl (hV.f.rd.mid (h.at (by repeat (first | exact mm1 | assumption | apply List.Mem.tail))))) ?_; clear E a; intro a E
    refine mix_pure E rfl rfl rfl (by decide) (fun w h => by first | exact rn_fieldAddr0 (q := 1) E rfl rfl rfl | exact rn_fieldAddr (q := 1) E rfl rfl rfl) ?_; clear E a; intro a E
    refine mix_pure E rfl rfl rfl (by decide) (fun w h => rn_load_blk (vs := [_, _]) E rfl rfl rfl (h.one (by repeat (first | exact mm1 | assumption | apply List.Mem.tail))) rfl rfl) ?_; clear E a; intro a E
    refine mix_call3 E rfl rfl rfl (by decide) rfl Try.func32 rfl (by kernel_rfl) rfl (add_ret f.p f.l sp f.C _ (hV.fs f (by simp)) (ho.fr f.l (by rw [hV.ef]; simp)) (S.hp.sel (sel_cons (by repeat (first | exact pk1 | apply pick_tail)) (sel_nil _)))) ?_
    rintro v19 w ⟨rfl, C2, hC2, hT⟩; clear E a; intro a E
    have S := S.call1 (sel_cons (by repeat (first | exact pk1 | apply pick_tail)) (sel_nil _)) hT
    refine mix_free E rfl rfl rfl (by decide) (fun w => rn_assign E rfl rfl) ?_; clear E a; intro a E
    refine mix_nil ?_
    refine then_k hK ?_; clear hK; clear K
    refine wp_ret ?_
    refine ret1 E rfl rfl ?_
    rw [e] at hok
    have hV2 : Av.Ok ⟨vs, _, vw, Cz, Cf, Cw, FA ++ ⟨f.p, addS f.l sp, C2⟩ :: FB, W, G, r, clock⟩ (y.setF FA.length (addS f.l sp)) := hV.putF hC2
    have S := St.closeF (unfoc5 (x := (⟨f.p, addS f.l sp, C2⟩ : Sset)) (g := fun s => s.C) S)
    refine ⟨_, rfl, by rw [e], _, by rw [e]; exact ⟨hok, _, hV2, rfl⟩, (S.only (Bs := [_]) (sel_cons (by repeat (first | exact pk1 | apply pick_tail)) (sel_nil _))).tr⟩
end Go.Proofs.Ytenhebjhoicpjaa
