/-
  DiskDoes: each call on both.
-/
import Derived.Test.YtpppaohhnlgfoaaDocX
namespace Go.Sl
theorem setD_d {ds : List Dk} {d : Nat} {g : Dk → Dk} (hg : ∀ x, (g x).d = x.d) : (setD ds d g).map Dk.d = ds.map Dk.d := by
  rw [setD, List.map_map]
  refine List.map_congr_left fun x _ => ?_
  simp only [Function.comp]; split
  · exact hg x
  · rfl
theorem Much.flush {s : Pw} {f : Bool} {ws : List Wt} {d : Nat} : Much s s ws (flW d s f ws) := ⟨by omega, by unfold flW; split; have := outW_le d ws; omega; omega, id⟩
end Go.Sl
namespace Go.Proofs.Ytpppaohhnlgfoaa
open Go.Sl
set_option maxRecDepth 10000
theorem ptrs_of {R R' : Rk} (h : R'.ds.map Dk.d = R.ds.map Dk.d) : (R'.ds.map fun x => ptr x.d) = (R.ds.map fun x => ptr x.d) ∧ R'.ds.length = R.ds.length := by
  have h1 := congrArg (List.map fun d => ptr d) h
  have h2 := congrArg List.length h
  exact ⟨by simpa [List.map_map, Function.comp_def] using h1, by simpa using h2⟩
theorem up_d {R : Rk} (hwo : WtOk R.ws R.ds) (st : List Bool) : (R.up st).ds.map Dk.d = R.ds.map Dk.d := by
  show ((upW R.ws st R.ds).map Dk.settle).map Dk.d = _
  rw [upW_map, List.map_map, List.map_map]
  exact List.map_congr_left fun x _ => rfl

set_option maxHeartbeats 4000000 in
theorem does_ret (p q : Nat) (R : Rk) (P Q : Chunk) (hR : Rig p q R P Q) (hBd : Bd R) (xb : Nat) (vD : Value) (CD : Chunk) (hCD : Buf CD 27 1 vD R.ds.length (R.ds.map fun x => ptr x.d)) (hDl : R.ds.length ≤ 6) (O : Chunk) (o : Dop) (ho : DopG O o) (w0 : World) (H : Hp w0 [P, Q, [(xb, xcl p vD q)], CD, O]) :
    Ret Try.prog 22 #[ptr xb, .agg o.lay.toArray] w0 fun u w' => u = .bool true ∧ ∃ R' P' Q', Rig p q R' P' Q' ∧ R'.ds.map Dk.d = R.ds.map Dk.d ∧ Much R.pw R'.pw R.ws R'.ws ∧ Trs w0 w' [P, Q, [(xb, xcl p vD q)], CD, O] [P', Q', [(xb, xcl p vD q)], CD, O] := by
  have S := St.begin H
  obtain ⟨adD, cD, rfl⟩ := hCD.slice
  obtain ⟨adb, cb, hvb, hcb⟩ := ho.bc
  obtain ⟨ads, cs, hvs⟩ := ho.rs.slice
  have hrb := ho.rb
  have hrs := ho.rs
  have hlay : o.lay = [.int .i64 o.kind, .int .i64 o.disk, .int .i64 o.at_, .int .i64 o.many, .slice adb o.b.length cb, .slice ads o.st.length cs] := by rw [← hvb, ← hvs]; rfl
  rw [hvb] at hrb
  rw [hvs] at hrs
  have hok := hR.rk.ok.1
  have hwo := hR.rk.ok.2
  have hnow := hR.now
  have hws := hBd.ws
  obtain ⟨bx, hbx⟩ : ∃ bx, bx = cel [.int .i64 o.kind, .int .i64 o.disk, .int .i64 o.at_, .int .i64 o.many, .slice adb o.b.length cb, .slice ads o.st.length cs] 34 := ⟨_, rfl⟩
  rw [hlay]
  refine enter2 152 Try.func22 rfl rfl (by decide) ?_; intro a E
  refine wp_seq_k ?_; intro K hK
  refine region_list ?_
  refine list_wp rfl (wp_box E S rfl rfl (by decide) rfl rfl ?_); clear E S a; intro a w b3 E S
  refine list_pure E rfl rfl (by decide) (rn_assign E rfl rfl) ?_; clear E a; intro a E
  refine wpList_nil ?_
  refine then_k hK ?_; clear hK; clear K
  refine wp_seq_k ?_; intro K hK
  refine wp_seq_k ?_; intro K hK
  refine region_list ?_
  refine list_pure E rfl rfl (by decide) (rn_move E rfl rfl) ?_; clear E a; intro a E
  refine list_pure E rfl rfl (by decide) (rn_nilCheck E rfl rfl) ?_; clear E a; intro a E
  refine list_pure E rfl rfl (by decide) (by first | exact rn_fieldAddr0 (q := 1) E rfl rfl rfl | exact rn_fieldAddr (q := 1) E rfl rfl rfl) ?_; clear E a; intro a E
  refine list_pure E rfl rfl (by decide) (by first | exact rn_load E rfl rfl rfl (S.get (by repeat (first | exact pk1 | apply pick_tail))) rfl | exact rn_loadc E rfl rfl rfl (by assumption)) ?_; clear E a; intro a E
  refine list_pure E rfl rfl (by decide) (by first | exact rn_len E rfl rfl rfl | exact rn_len_str E rfl rfl rfl | exact rn_len_string E rfl rfl rfl) ?_; clear E a; intro a E
  refine list_pure E rfl rfl (by decide) (by first | exact rn_eql E rfl rfl rfl | exact rn_eql_ptr_nil E rfl rfl rfl rfl | exact rn_eql_bool E rfl rfl rfl rfl | exact rn_eql_string E rfl rfl rfl) ?_; clear E a; intro a E
  refine wpList_nil ?_
  refine then_k hK ?_; clear hK; clear K
  refine if_bool E rfl (fun hb => ?_) (fun hb => ?_)
  · replace hb := Nrm.nrm hb
    refine wp_seq_k ?_; intro K hK
    refine region_list ?_
    refine list_pure E rfl rfl (by decide) (rn_assign E rfl rfl) ?_; clear E a; intro a E
    refine wpList_nil ?_
    refine then_k hK ?_; clear hK; clear K
    refine wp_ret ?_
    refine then_ret ?_; clear hK; clear K
    refine ret1 E rfl rfl ?_
    exact ⟨_, rfl, rfl, R, P, Q, hR, rfl, Much.refl _ _, (S.only (Bs := [P, Q, _, CD, O]) (sel_cons (by repeat (first | exact pk1 | apply pick_tail)) (sel_cons (by repeat (first | exact pk1 | apply pick_tail)) (sel_cons (by repeat (first | exact pk1 | apply pick_tail)) (sel_cons (by repeat (first | exact pk1 | apply pick_tail)) (sel_cons (by repeat (first | exact pk1 | apply pick_tail)) (sel_nil _))))))).tr⟩
  · replace hb := Nrm.nrm hb
    refine wp_skip ?_
    refine then_k hK ?_; clear hK; clear K
    refine wp_seq_k ?_; intro K hK
    have hpos : 0 < R.ds.length := by omega
    have ht1 := Int.tmod_lt_of_pos o.disk (show (0 : Int) < (R.ds.length : Int) by omega)
    have ht2 := Int.lt_tmod_of_pos o.disk (show (0 : Int) < (R.ds.length : Int) by omega)
    obtain ⟨gD, rfl⟩ := hCD.addr (by omega)
    refine region_mix0 S (.ofL [(0, 0), (1, 0), (2, 0), (3, 0), (4, 0), (5, 0), (6, 0), (7, 0), (8, 0)]) (by kernel_rfl) (by kernel_rfl) ?_
    clear S; intro w S
    refine mix_pure E rfl rfl rfl (by decide) (fun w h => by first | exact rn_fieldAddr0 (q := 1) E rfl rfl rfl | exact rn_fieldAddr (q := 1) E rfl rfl rfl) ?_; clear E a; intro a E
    refine mix_pure E rfl rfl rfl (by decide) (fun w h => by first | exact rn_load E rfl rfl rfl (h.one (by repeat (first | exact mm1 | assumption | apply List.Mem.tail))) rfl | exact rn_loadc E rfl rfl rfl (by assumption)) ?_; clear E a; intro a E
    refine mix_pure E rfl rfl rfl (by decide) (fun w h => rn_move E rfl rfl) ?_; clear E a; intro a E
    refine mix_pure E rfl rfl rfl (by decide) (fun w h => rn_nilCheck E rfl rfl) ?_; clear E a; intro a E
    refine mix_pure E rfl rfl rfl (by decide) (fun w h => by first | exact rn_fieldAddr0 (q := 1) E rfl rfl rfl | exact rn_fieldAddr (q := 1) E rfl rfl rfl) ?_; clear E a; intro a E
    refine mix_pure E rfl rfl rfl (by decide) (fun w h => by first | exact rn_load E rfl rfl rfl (h.one (by repeat (first | exact mm1 | assumption | apply List.Mem.tail))) rfl | exact rn_loadc E rfl rfl rfl (by assumption)) ?_; clear E a; intro a E
    refine mix_pure E rfl rfl rfl (by decide) (fun w h => by first | exact rn_len E rfl rfl rfl | exact rn_len_str E rfl rfl rfl | exact rn_len_string E rfl rfl rfl) ?_; clear E a; intro a E
    refine mix_pure E rfl rfl rfl (by decide) (fun w h => rn_rem E rfl rfl rfl (by first | decide | omega) (show _ = o.disk.tmod R.ds.length from rfl)) ?_; clear E a; intro a E
    refine mix_pure E rfl rfl rfl (by decide) (fun w h => rn_assign E rfl rfl) ?_; clear E a; intro a E
    refine mix_nil ?_
    refine then_k hK ?_; clear hK; clear K
    refine wp_seq_k ?_; intro K hK
    refine wp_seq_k ?_; intro K hK
    refine region_list ?_
    refine list_pure E rfl rfl (by decide) (rn_move E rfl rfl) ?_; clear E a; intro a E
    refine list_pure E rfl rfl (by decide) (rn_lss E rfl rfl rfl) ?_; clear E a; intro a E
    refine wpList_nil ?_
    refine then_k hK ?_; clear hK; clear K
    refine wp_join (fun (a : Act) (w' : World) => ∃ n : Nat, n < R.ds.length ∧ St w0 [P, Q, [(xb, xcl p (.slice (some ⟨gD, 0, none⟩) R.ds.length cD) q)], CD, O] w' [P, Q, [(xb, xcl p (.slice (some ⟨gD, 0, none⟩) R.ds.length cD) q)], CD, [(b3, bx)], O] ∧ Fr a 152 [(0, ptr xb), (3, ptr b3), (5, .int .i64 n)]) ?_ ?_
    · skip
      refine if_bool E rfl (fun hb => ?_) (fun hb => ?_)
      · replace hb := Nrm.nrm hb
        refine region_list ?_
        refine list_pure E rfl rfl (by decide) (rn_move E rfl rfl) ?_; clear E a; intro a E
        refine list_pure E rfl rfl (by decide) (rn_move E rfl rfl) ?_; clear E a; intro a E
        refine list_pure E rfl rfl (by decide) (rn_nilCheck E rfl rfl) ?_; clear E a; intro a E
        refine list_pure E rfl rfl (by decide) (by first | exact rn_fieldAddr0 (q := 1) E rfl rfl rfl | exact rn_fieldAddr (q := 1) E rfl rfl rfl) ?_; clear E a; intro a E
        refine list_pure E rfl rfl (by decide) (by first | exact rn_load E rfl rfl rfl (S.get (by repeat (first | exact pk1 | apply pick_tail))) rfl | exact rn_loadc E rfl rfl rfl (by assumption)) ?_; clear E a; intro a E
        refine list_pure E rfl rfl (by decide) (by first | exact rn_len E rfl rfl rfl | exact rn_len_str E rfl rfl rfl | exact rn_len_string E rfl rfl rfl) ?_; clear E a; intro a E
        refine list_pure E rfl rfl (by decide) (rn_add E rfl rfl rfl (w_in (by omega))) ?_; clear E a; intro a E
        refine list_pure E rfl rfl (by decide) (rn_assign E rfl rfl) ?_; clear E a; intro a E
        refine wpList_nil ?_
        refine joined_here ?_
        obtain ⟨n, hn⟩ : ∃ n : Nat, o.disk.tmod R.ds.length + R.ds.length = n := ⟨(o.disk.tmod R.ds.length + R.ds.length).toNat, by omega⟩
        rw [hn] at E
        exact ⟨n, by omega, by rw [hbx]; exact S.only (Bs := [P, Q, _, CD, [(b3, _)], O]) (sel_cons (by repeat (first | exact pk1 | apply pick_tail)) (sel_cons (by repeat (first | exact pk1 | apply pick_tail)) (sel_cons (by repeat (first | exact pk1 | apply pick_tail)) (sel_cons (by repeat (first | exact pk1 | apply pick_tail)) (sel_cons (by repeat (first | exact pk1 | apply pick_tail)) (sel_cons (by repeat (first | exact pk1 | apply pick_tail)) (sel_nil _))))))), E.keep (keep_cons rfl (keep_cons rfl (keep_cons rfl keep_nil)))⟩
      · replace hb := Nrm.nrm hb
        refine wp_skip ?_
        refine joined_here ?_
        obtain ⟨n, hn⟩ : ∃ n : Nat, o.disk.tmod R.ds.length = n := ⟨(o.disk.tmod R.ds.length).toNat, by omega⟩
        rw [hn] at E
        exact ⟨n, by omega, by rw [hbx]; exact S.only (Bs := [P, Q, _, CD, [(b3, _)], O]) (sel_cons (by repeat (first | exact pk1 | apply pick_tail)) (sel_cons (by repeat (first | exact pk1 | apply pick_tail)) (sel_cons (by repeat (first | exact pk1 | apply pick_tail)) (sel_cons (by repeat (first | exact pk1 | apply pick_tail)) (sel_cons (by repeat (first | exact pk1 | apply pick_tail)) (sel_cons (by repeat (first | exact pk1 | apply pick_tail)) (sel_nil _))))))), E.keep (keep_cons rfl (keep_cons rfl (keep_cons rfl keep_nil)))⟩
    · clear S E a; intro a w J; obtain ⟨n, hn, S, E⟩ := J
      refine then_k hK ?_; clear hK; clear K
      refine wp_seq_k ?_; intro K hK
      refine wp_seq_k ?_; intro K hK
      obtain ⟨x, hx⟩ : ∃ x, R.ds[n]? = some x := ⟨_, List.getElem?_eq_getElem hn⟩
      have hxm : x ∈ R.ds := List.mem_of_getElem? hx
      have hpt : (R.ds.map fun x => ptr x.d)[n]? = some (ptr x.d) := by rw [List.getElem?_map, hx]; rfl
      rw [hbx] at S
      refine region_list ?_
      refine list_pure E rfl rfl (by decide) (by first | exact rn_fieldAddr0 (q := 0) E rfl rfl rfl | exact rn_fieldAddr (q := 0) E rfl rfl rfl) ?_; clear E a; intro a E
      refine list_pure E rfl rfl (by decide) (by first | exact rn_load E rfl rfl rfl (S.get (by repeat (first | exact pk1 | apply pick_tail))) rfl | exact rn_loadc E rfl rfl rfl (by assumption)) ?_; clear E a; intro a E
      refine wpList_nil ?_
      refine then_k hK ?_; clear hK; clear K
      refine wp_block ?_
      refine wp_seq_k ?_; intro K hK
      refine region_list ?_
      refine list_pure E rfl rfl (by decide) (by first | exact rn_eql E rfl rfl rfl | exact rn_eql_ptr_nil E rfl rfl rfl rfl | exact rn_eql_bool E rfl rfl rfl rfl | exact rn_eql_string E rfl rfl rfl) ?_; clear E a; intro a E
      refine list_pure E rfl rfl (by decide) (rn_assign E rfl rfl) ?_; clear E a; intro a E
      refine wpList_nil ?_
      refine then_k hK ?_; clear hK; clear K
      refine if_bool E rfl (fun hb => ?_) (fun hb => ?_)
      · replace hb := Nrm.nrm hb
        refine wp_seq_k ?_; intro K hK
        refine region_list ?_
        refine list_pure E rfl rfl (by decide) (rn_move E rfl rfl) ?_; clear E a; intro a E
        refine list_pure E rfl rfl (by decide) (rn_move E rfl rfl) ?_; clear E a; intro a E
        refine list_pure E rfl rfl (by decide) (rn_load_blk (vs := [.int .i64 o.kind, .int .i64 o.disk, .int .i64 o.at_, .int .i64 o.many, .slice adb o.b.length cb, .slice ads o.st.length cs]) E rfl rfl rfl (S.get (show List.Perm _ ([(b3, _)] :: _) from (by repeat (first | exact pk1 | apply pick_tail)))) rfl rfl) ?_; clear E a; intro a E
        rw [← hlay] at E
        refine list_call E rfl rfl (by decide) rfl Try.func34 rfl (by kernel_rfl) rfl (writes_ret' p q R P Q hR hBd xb _ CD hCD n x hx O o ho _ (S.hp.sel (sel_cons (by repeat (first | exact pk1 | apply pick_tail)) (sel_cons (by repeat (first | exact pk1 | apply pick_tail)) (sel_cons (by repeat (first | exact pk1 | apply pick_tail)) (sel_cons (by repeat (first | exact pk1 | apply pick_tail)) (sel_cons (by repeat (first | exact pk1 | apply pick_tail)) (sel_nil _)))))))) ?_
        rintro v36 w ⟨rfl, P', Q', hR', hT⟩; clear E a; intro a E
        have S := S.call (sel_cons (by repeat (first | exact pk1 | apply pick_tail)) (sel_cons (by repeat (first | exact pk1 | apply pick_tail)) (sel_cons (by repeat (first | exact pk1 | apply pick_tail)) (sel_cons (by repeat (first | exact pk1 | apply pick_tail)) (sel_cons (by repeat (first | exact pk1 | apply pick_tail)) (sel_nil _)))))) hT
        refine list_pure E rfl rfl (by decide) (rn_assign E rfl rfl) ?_; clear E a; intro a E
        refine wpList_nil ?_
        refine then_k hK ?_; clear hK; clear K
        refine wp_ret ?_
        refine in_ret ?_
        refine then_ret ?_; clear hK; clear K
        refine ret1 E rfl rfl ?_
        exact ⟨_, rfl, rfl, _, P', Q', hR', setD_d fun _ => rfl, wrS_much (hok.2 x hxm).2 _ _ _ _, (S.only (Bs := [P', Q', _, CD, O]) (sel_cons (by repeat (first | exact pk1 | apply pick_tail)) (sel_cons (by repeat (first | exact pk1 | apply pick_tail)) (sel_cons (by repeat (first | exact pk1 | apply pick_tail)) (sel_cons (by repeat (first | exact pk1 | apply pick_tail)) (sel_cons (by repeat (first | exact pk1 | apply pick_tail)) (sel_nil _))))))).tr⟩
      · replace hb := Nrm.nrm hb
        refine wp_seq_k ?_; intro K hK
        refine region_list ?_
        refine list_pure E rfl rfl (by decide) (by first | exact rn_eql E rfl rfl rfl | exact rn_eql_ptr_nil E rfl rfl rfl rfl | exact rn_eql_bool E rfl rfl rfl rfl | exact rn_eql_string E rfl rfl rfl) ?_; clear E a; intro a E
        refine list_pure E rfl rfl (by decide) (rn_assign E rfl rfl) ?_; clear E a; intro a E
        refine wpList_nil ?_
        refine then_k hK ?_; clear hK; clear K
        refine if_bool E rfl (fun hb => ?_) (fun hb => ?_)
        · replace hb := Nrm.nrm hb
          refine wp_seq_k ?_; intro K hK
          refine region_list ?_
          refine list_pure E rfl rfl (by decide) (rn_move E rfl rfl) ?_; clear E a; intro a E
          refine list_pure E rfl rfl (by decide) (rn_move E rfl rfl) ?_; clear E a; intro a E
          refine list_pure E rfl rfl (by decide) (by first | exact rn_fieldAddr0 (q := 2) E rfl rfl rfl | exact rn_fieldAddr (q := 2) E rfl rfl rfl) ?_; clear E a; intro a E
          refine list_pure E rfl rfl (by decide) (by first | exact rn_load E rfl rfl rfl (S.get (by repeat (first | exact pk1 | apply pick_tail))) rfl | exact rn_loadc E rfl rfl rfl (by assumption)) ?_; clear E a; intro a E
          refine list_pure E rfl rfl (by decide) (by first | exact rn_fieldAddr0 (q := 3) E rfl rfl rfl | exact rn_fieldAddr (q := 3) E rfl rfl rfl) ?_; clear E a; intro a E
          refine list_pure E rfl rfl (by decide) (by first | exact rn_load E rfl rfl rfl (S.get (by repeat (first | exact pk1 | apply pick_tail))) rfl | exact rn_loadc E rfl rfl rfl (by assumption)) ?_; clear E a; intro a E
          refine list_call E rfl rfl (by decide) rfl Try.func24 rfl (by kernel_rfl) rfl (reads_ret p q R P Q hR xb _ CD hCD n x hx o.at_ o.many ho.at_ _ (S.hp.sel (sel_cons (by repeat (first | exact pk1 | apply pick_tail)) (sel_cons (by repeat (first | exact pk1 | apply pick_tail)) (sel_cons (by repeat (first | exact pk1 | apply pick_tail)) (sel_cons (by repeat (first | exact pk1 | apply pick_tail)) (sel_nil _))))))) ?_
          rintro v45 w ⟨rfl, hT⟩; clear E a; intro a E
          have S := S.call4 (sel_cons (by repeat (first | exact pk1 | apply pick_tail)) (sel_cons (by repeat (first | exact pk1 | apply pick_tail)) (sel_cons (by repeat (first | exact pk1 | apply pick_tail)) (sel_cons (by repeat (first | exact pk1 | apply pick_tail)) (sel_nil _))))) hT
          refine list_pure E rfl rfl (by decide) (rn_assign E rfl rfl) ?_; clear E a; intro a E
          refine wpList_nil ?_
          refine then_k hK ?_; clear hK; clear K
          refine wp_ret ?_
          refine in_ret ?_
          refine then_ret ?_; clear hK; clear K
          refine ret1 E rfl rfl ?_
          exact ⟨_, rfl, rfl, R, P, Q, hR, rfl, Much.refl _ _, (S.only (Bs := [P, Q, _, CD, O]) (sel_cons (by repeat (first | exact pk1 | apply pick_tail)) (sel_cons (by repeat (first | exact pk1 | apply pick_tail)) (sel_cons (by repeat (first | exact pk1 | apply pick_tail)) (sel_cons (by repeat (first | exact pk1 | apply pick_tail)) (sel_cons (by repeat (first | exact pk1 | apply pick_tail)) (sel_nil _))))))).tr⟩
        · replace hb := Nrm.nrm hb
          refine wp_seq_k ?_; intro K hK
          refine region_list ?_
          refine list_pure E rfl rfl (by decide) (by first | exact rn_eql E rfl rfl rfl | exact rn_eql_ptr_nil E rfl rfl rfl rfl | exact rn_eql_bool E rfl rfl rfl rfl | exact rn_eql_string E rfl rfl rfl) ?_; clear E a; intro a E
          refine list_pure E rfl rfl (by decide) (rn_assign E rfl rfl) ?_; clear E a; intro a E
          refine wpList_nil ?_
          refine then_k hK ?_; clear hK; clear K
          refine if_bool E rfl (fun hb => ?_) (fun hb => ?_)
          · replace hb := Nrm.nrm hb
            refine wp_seq_k ?_; intro K hK
            refine region_mix S (.ofL [(0, 0), (1, 0), (2, 0), (3, 0), (4, 0), (5, 0), (6, 0), (8, 0), (9, 0), (10, 0), (11, 0), (12, 0), (7, 1), (13, 3), (14, 2), (15, 2)]) [[(xb, xcl p (.slice (some ⟨gD, 0, none⟩) R.ds.length cD) q)], CD, [(b3, cel [.int .i64 o.kind, .int .i64 o.disk, .int .i64 o.at_, .int .i64 o.many, .slice adb o.b.length cb, .slice ads o.st.length cs] 34)], O] (fun h => h.sub (by first | (simp; done) | (simp +contextual; done))) (by kernel_rfl) (by kernel_rfl) ?_
            clear S; intro w S
            refine mix_pure E rfl rfl rfl (by decide) (fun w h => rn_move E rfl rfl) ?_; clear E a; intro a E
            refine mix_pure E rfl rfl rfl (by decide) (fun w h => rn_nilCheck E rfl rfl) ?_; clear E a; intro a E
            refine mix_pure E rfl rfl rfl (by decide) (fun w h => by first | exact rn_fieldAddr0 (q := 1) E rfl rfl rfl | exact rn_fieldAddr (q := 1) E rfl rfl rfl) ?_; clear E a; intro a E
            refine mix_pure E rfl rfl rfl (by decide) (fun w h => by first | exact rn_load E rfl rfl rfl (h.one (by repeat (first | exact mm1 | assumption | apply List.Mem.tail))) rfl | exact rn_loadc E rfl rfl rfl (by assumption)) ?_; clear E a; intro a E
            refine mix_pure E rfl rfl rfl (by decide) (fun w h => rn_move E rfl rfl) ?_; clear E a; intro a E
            refine mix_pure E rfl rfl rfl (by decide) (fun w h => rn_indexAddr1 (i := n) E rfl rfl rfl rfl rfl rfl (by omega)) ?_; clear E a; intro a E
            refine mix_pure E rfl rfl rfl (by decide) (fun w h => rn_loadc E rfl rfl rfl (hCD.rd.cells (h.at (by repeat (first | exact mm1 | assumption | apply List.Mem.tail))) rfl n _ hpt)) ?_; clear E a; intro a E
            refine mix_pure E rfl rfl rfl (by decide) (fun w h => rn_move E rfl rfl) ?_; clear E a; intro a E
            refine mix_pure E rfl rfl rfl (by decide) (fun w h => rn_nilCheck E rfl rfl) ?_; clear E a; intro a E
            refine mix_pure E rfl rfl rfl (by decide) (fun w h => by first | exact rn_fieldAddr0 (q := 2) E rfl rfl rfl | exact rn_fieldAddr (q := 2) E rfl rfl rfl) ?_; clear E a; intro a E
            refine mix_pure E rfl rfl rfl (by decide) (fun w h => by first | exact rn_load E rfl rfl rfl (h.one (by repeat (first | exact mm1 | assumption | apply List.Mem.tail))) rfl | exact rn_loadc E rfl rfl rfl (by assumption)) ?_; clear E a; intro a E
            refine mix_pure E rfl rfl rfl (by decide) (fun w h => rn_move E rfl rfl) ?_; clear E a; intro a E
            refine mix_call E rfl rfl rfl (by decide) rfl Try.func11 rfl (by kernel_rfl) rfl (rk_flush p R P hR.rk x hxm _ (S.hp.sel (sel_cons (by repeat (first | exact pk1 | apply pick_tail)) (sel_nil _)))) ?_
            rintro v55 w ⟨rfl, P', hP', hT⟩; clear E a; intro a E
            have S := S.call1 (sel_cons (by repeat (first | exact pk1 | apply pick_tail)) (sel_nil _)) hT
            refine ⟨S.stab.sub (by first | (simp; done) | (simp +contextual; done)), ?_⟩
            refine mix_call3 E rfl rfl rfl (by decide) rfl Try.func35 rfl (by kernel_rfl) rfl (qflush_ret q R Q hR.rf hok hwo hnow (by omega) n x hx _ (S.hp.sel (sel_cons (by repeat (first | exact pk1 | apply pick_tail)) (sel_nil _)))) ?_
            rintro v61 w ⟨rfl, Q', hQ', hT⟩; clear E a; intro a E
            have S := S.call1 (sel_cons (by repeat (first | exact pk1 | apply pick_tail)) (sel_nil _)) hT
            refine mix_free E rfl rfl rfl (by decide) (fun w => by first | exact rn_eql E rfl rfl rfl | exact rn_eql_ptr_nil E rfl rfl rfl rfl | exact rn_eql_bool E rfl rfl rfl rfl | exact rn_eql_string E rfl rfl rfl) ?_; clear E a; intro a E
            refine mix_free E rfl rfl rfl (by decide) (fun w => rn_assign E rfl rfl) ?_; clear E a; intro a E
            refine mix_nil ?_
            refine then_k hK ?_; clear hK; clear K
            refine wp_ret ?_
            refine in_ret ?_
            refine then_ret ?_; clear hK; clear K
            refine ret1 E rfl rfl ?_
            exact ⟨_, rfl, by simp, _, P', Q', ⟨hP', hQ', now_flush hok hnow hxm⟩, setD_d fun _ => rfl, Much.flush, (S.only (Bs := [P', Q', _, CD, O]) (sel_cons (by repeat (first | exact pk1 | apply pick_tail)) (sel_cons (by repeat (first | exact pk1 | apply pick_tail)) (sel_cons (by repeat (first | exact pk1 | apply pick_tail)) (sel_cons (by repeat (first | exact pk1 | apply pick_tail)) (sel_cons (by repeat (first | exact pk1 | apply pick_tail)) (sel_nil _))))))).tr⟩
          · replace hb := Nrm.nrm hb
            refine wp_seq_k ?_; intro K hK
            refine region_list ?_
            refine list_pure E rfl rfl (by decide) (by first | exact rn_eql E rfl rfl rfl | exact rn_eql_ptr_nil E rfl rfl rfl rfl | exact rn_eql_bool E rfl rfl rfl rfl | exact rn_eql_string E rfl rfl rfl) ?_; clear E a; intro a E
            refine list_pure E rfl rfl (by decide) (rn_assign E rfl rfl) ?_; clear E a; intro a E
            refine wpList_nil ?_
            refine then_k hK ?_; clear hK; clear K
            refine if_bool E rfl (fun hb => ?_) (fun hb => ?_)
            · replace hb := Nrm.nrm hb
              refine wp_seq_k ?_; intro K hK
              refine region_list ?_
              refine list_pure E rfl rfl (by decide) (rn_move E rfl rfl) ?_; clear E a; intro a E
              refine list_pure E rfl rfl (by decide) (rn_nilCheck E rfl rfl) ?_; clear E a; intro a E
              refine list_pure E rfl rfl (by decide) (by first | exact rn_fieldAddr0 (q := 1) E rfl rfl rfl | exact rn_fieldAddr (q := 1) E rfl rfl rfl) ?_; clear E a; intro a E
              refine list_pure E rfl rfl (by decide) (by first | exact rn_load E rfl rfl rfl (S.get (by repeat (first | exact pk1 | apply pick_tail))) rfl | exact rn_loadc E rfl rfl rfl (by assumption)) ?_; clear E a; intro a E
              refine list_pure E rfl rfl (by decide) (rn_move E rfl rfl) ?_; clear E a; intro a E
              refine list_pure E rfl rfl (by decide) (rn_indexAddr1 (i := n) E rfl rfl rfl rfl rfl rfl (by omega)) ?_; clear E a; intro a E
              refine list_pure E rfl rfl (by decide) (rn_loadc E rfl rfl rfl (hCD.rd.cells (S.stab.at (by repeat (first | exact mm1 | assumption | apply List.Mem.tail))) rfl n _ hpt)) ?_; clear E a; intro a E
              refine list_call E rfl rfl (by decide) rfl Try.func19 rfl (by kernel_rfl) rfl (rk_fail p R P hR.rk x hxm _ (S.hp.sel (sel_cons (by repeat (first | exact pk1 | apply pick_tail)) (sel_nil _)))) ?_
              rintro v72 w ⟨P', hP', hT⟩; clear E a; intro a E
              have S := S.call1 (sel_cons (by repeat (first | exact pk1 | apply pick_tail)) (sel_nil _)) hT
              refine wpList_nil ?_
              refine then_k hK ?_; clear hK; clear K
              refine region_list ?_
              refine list_pure E rfl rfl (by decide) (rn_move E rfl rfl) ?_; clear E a; intro a E
              refine list_pure E rfl rfl (by decide) (rn_nilCheck E rfl rfl) ?_; clear E a; intro a E
              refine list_pure E rfl rfl (by decide) (by first | exact rn_fieldAddr0 (q := 2) E rfl rfl rfl | exact rn_fieldAddr (q := 2) E rfl rfl rfl) ?_; clear E a; intro a E
              refine list_pure E rfl rfl (by decide) (by first | exact rn_load E rfl rfl rfl (S.get (by repeat (first | exact pk1 | apply pick_tail))) rfl | exact rn_loadc E rfl rfl rfl (by assumption)) ?_; clear E a; intro a E
              refine list_pure E rfl rfl (by decide) (rn_move E rfl rfl) ?_; clear E a; intro a E
              refine list_call E rfl rfl (by decide) rfl Try.func36 rfl (by kernel_rfl) rfl (qfail_ret q R Q hR.rf hok hwo (by omega) n x hx _ (S.hp.sel (sel_cons (by repeat (first | exact pk1 | apply pick_tail)) (sel_nil _)))) ?_
              rintro v78 w ⟨Q', hQ', hT⟩; clear E a; intro a E
              have S := S.call1 (sel_cons (by repeat (first | exact pk1 | apply pick_tail)) (sel_nil _)) hT
              refine wpList_nil ?_
              have hR2 : ∃ R', Rig p q R' P' Q' ∧ R'.ds.map Dk.d = R.ds.map Dk.d ∧ Much R.pw R'.pw R.ws R'.ws := ⟨_, ⟨hP', hQ', now_fail hok hnow hxm⟩, setD_d fun _ => rfl, ⟨by simp [Rk.fail], by have := outW_le x.d R.ws; simp only [Rk.fail]; omega, id⟩⟩
              have S := S.only (Bs := [P', Q', [(xb, xcl p (.slice (some ⟨gD, 0, none⟩) R.ds.length cD) q)], CD, O]) (sel_cons (by repeat (first | exact pk1 | apply pick_tail)) (sel_cons (by repeat (first | exact pk1 | apply pick_tail)) (sel_cons (by repeat (first | exact pk1 | apply pick_tail)) (sel_cons (by repeat (first | exact pk1 | apply pick_tail)) (sel_cons (by repeat (first | exact pk1 | apply pick_tail)) (sel_nil _))))))
              refine in_normal ?_
              refine then_k hK ?_; clear hK; clear K
              refine wp_seq_k ?_; intro K hK
              replace E := E.keep (e' := []) (keep_nil)
              refine region_list ?_
              refine list_pure E rfl rfl (by decide) (rn_assign E rfl rfl) ?_; clear E a; intro a E
              refine wpList_nil ?_
              refine then_k hK ?_; clear hK; clear K
              refine wp_ret ?_
              refine ret1 E rfl rfl ?_
              first
              | (obtain ⟨R', h1, h2, h3⟩ := hR2
                 exact ⟨_, rfl, rfl, R', P', Q', h1, h2, h3, S.tr⟩)
              | exact ⟨_, rfl, rfl, R, P, Q, hR, rfl, Much.refl _ _, (S.only (Bs := [P, Q, _, CD, O]) (sel_cons (by repeat (first | exact pk1 | apply pick_tail)) (sel_cons (by repeat (first | exact pk1 | apply pick_tail)) (sel_cons (by repeat (first | exact pk1 | apply pick_tail)) (sel_cons (by repeat (first | exact pk1 | apply pick_tail)) (sel_cons (by repeat (first | exact pk1 | apply pick_tail)) (sel_nil _))))))).tr⟩
            · replace hb := Nrm.nrm hb
              refine wp_seq_k ?_; intro K hK
              refine region_list ?_
              refine list_pure E rfl rfl (by decide) (by first | exact rn_eql E rfl rfl rfl | exact rn_eql_ptr_nil E rfl rfl rfl rfl | exact rn_eql_bool E rfl rfl rfl rfl | exact rn_eql_string E rfl rfl rfl) ?_; clear E a; intro a E
              refine list_pure E rfl rfl (by decide) (rn_assign E rfl rfl) ?_; clear E a; intro a E
              refine wpList_nil ?_
              refine then_k hK ?_; clear hK; clear K
              refine if_bool E rfl (fun hb => ?_) (fun hb => ?_)
              · replace hb := Nrm.nrm hb
                refine wp_seq_k ?_; intro K hK
                refine region_list ?_
                refine list_pure E rfl rfl (by decide) (rn_move E rfl rfl) ?_; clear E a; intro a E
                refine list_pure E rfl rfl (by decide) (rn_nilCheck E rfl rfl) ?_; clear E a; intro a E
                refine list_pure E rfl rfl (by decide) (by first | exact rn_fieldAddr0 (q := 1) E rfl rfl rfl | exact rn_fieldAddr (q := 1) E rfl rfl rfl) ?_; clear E a; intro a E
                refine list_pure E rfl rfl (by decide) (by first | exact rn_load E rfl rfl rfl (S.get (by repeat (first | exact pk1 | apply pick_tail))) rfl | exact rn_loadc E rfl rfl rfl (by assumption)) ?_; clear E a; intro a E
                refine list_pure E rfl rfl (by decide) (rn_move E rfl rfl) ?_; clear E a; intro a E
                refine list_pure E rfl rfl (by decide) (rn_indexAddr1 (i := n) E rfl rfl rfl rfl rfl rfl (by omega)) ?_; clear E a; intro a E
                refine list_pure E rfl rfl (by decide) (rn_loadc E rfl rfl rfl (hCD.rd.cells (S.stab.at (by repeat (first | exact mm1 | assumption | apply List.Mem.tail))) rfl n _ hpt)) ?_; clear E a; intro a E
                refine list_call E rfl rfl (by decide) rfl Try.func20 rfl (by kernel_rfl) rfl (rk_replace p R P hR.rk x hxm _ (S.hp.sel (sel_cons (by repeat (first | exact pk1 | apply pick_tail)) (sel_nil _)))) ?_
                rintro v88 w ⟨P', hP', hT⟩; clear E a; intro a E
                have S := S.call1 (sel_cons (by repeat (first | exact pk1 | apply pick_tail)) (sel_nil _)) hT
                refine wpList_nil ?_
                refine then_k hK ?_; clear hK; clear K
                refine region_list ?_
                refine list_pure E rfl rfl (by decide) (rn_move E rfl rfl) ?_; clear E a; intro a E
                refine list_pure E rfl rfl (by decide) (rn_nilCheck E rfl rfl) ?_; clear E a; intro a E
                refine list_pure E rfl rfl (by decide) (by first | exact rn_fieldAddr0 (q := 2) E rfl rfl rfl | exact rn_fieldAddr (q := 2) E rfl rfl rfl) ?_; clear E a; intro a E
                refine list_pure E rfl rfl (by decide) (by first | exact rn_load E rfl rfl rfl (S.get (by repeat (first | exact pk1 | apply pick_tail))) rfl | exact rn_loadc E rfl rfl rfl (by assumption)) ?_; clear E a; intro a E
                refine list_pure E rfl rfl (by decide) (rn_move E rfl rfl) ?_; clear E a; intro a E
                refine list_call E rfl rfl (by decide) rfl Try.func37 rfl (by kernel_rfl) rfl (qreplace_ret q R Q hR.rf hok hwo (by omega) n x hx _ (S.hp.sel (sel_cons (by repeat (first | exact pk1 | apply pick_tail)) (sel_nil _)))) ?_
                rintro v94 w ⟨Q', hQ', hT⟩; clear E a; intro a E
                have S := S.call1 (sel_cons (by repeat (first | exact pk1 | apply pick_tail)) (sel_nil _)) hT
                refine wpList_nil ?_
                have hR2 : ∃ R', Rig p q R' P' Q' ∧ R'.ds.map Dk.d = R.ds.map Dk.d ∧ Much R.pw R'.pw R.ws R'.ws := ⟨_, ⟨hP', hQ', now_replace hok hnow hxm⟩, setD_d fun _ => rfl, ⟨by simp [Rk.replace], by have := outW_le x.d R.ws; simp only [Rk.replace]; omega, id⟩⟩
                have S := S.only (Bs := [P', Q', [(xb, xcl p (.slice (some ⟨gD, 0, none⟩) R.ds.length cD) q)], CD, O]) (sel_cons (by repeat (first | exact pk1 | apply pick_tail)) (sel_cons (by repeat (first | exact pk1 | apply pick_tail)) (sel_cons (by repeat (first | exact pk1 | apply pick_tail)) (sel_cons (by repeat (first | exact pk1 | apply pick_tail)) (sel_cons (by repeat (first | exact pk1 | apply pick_tail)) (sel_nil _))))))
                refine in_normal ?_
                refine then_k hK ?_; clear hK; clear K
                refine wp_seq_k ?_; intro K hK
                replace E := E.keep (e' := []) (keep_nil)
                refine region_list ?_
                refine list_pure E rfl rfl (by decide) (rn_assign E rfl rfl) ?_; clear E a; intro a E
                refine wpList_nil ?_
                refine then_k hK ?_; clear hK; clear K
                refine wp_ret ?_
                refine ret1 E rfl rfl ?_
                first
                | (obtain ⟨R', h1, h2, h3⟩ := hR2
                   exact ⟨_, rfl, rfl, R', P', Q', h1, h2, h3, S.tr⟩)
                | exact ⟨_, rfl, rfl, R, P, Q, hR, rfl, Much.refl _ _, (S.only (Bs := [P, Q, _, CD, O]) (sel_cons (by repeat (first | exact pk1 | apply pick_tail)) (sel_cons (by repeat (first | exact pk1 | apply pick_tail)) (sel_cons (by repeat (first | exact pk1 | apply pick_tail)) (sel_cons (by repeat (first | exact pk1 | apply pick_tail)) (sel_cons (by repeat (first | exact pk1 | apply pick_tail)) (sel_nil _))))))).tr⟩
              · replace hb := Nrm.nrm hb
                refine wp_seq_k ?_; intro K hK
                refine region_list ?_
                refine list_pure E rfl rfl (by decide) (by first | exact rn_eql E rfl rfl rfl | exact rn_eql_ptr_nil E rfl rfl rfl rfl | exact rn_eql_bool E rfl rfl rfl rfl | exact rn_eql_string E rfl rfl rfl) ?_; clear E a; intro a E
                refine list_pure E rfl rfl (by decide) (rn_assign E rfl rfl) ?_; clear E a; intro a E
                refine wpList_nil ?_
                refine then_k hK ?_; clear hK; clear K
                refine if_bool E rfl (fun hb => ?_) (fun hb => ?_)
                · replace hb := Nrm.nrm hb
                  refine wp_seq_k ?_; intro K hK
                  refine region_mix S (.ofL [(0, 0), (1, 0), (2, 0), (3, 0), (4, 0), (5, 0), (6, 0), (7, 0), (8, 0), (9, 0), (10, 0), (12, 0), (13, 0), (14, 0), (15, 0), (16, 0), (17, 0), (18, 0), (19, 0), (20, 0), (11, 1), (21, 3), (22, 2), (23, 2)]) [[(xb, xcl p (.slice (some ⟨gD, 0, none⟩) R.ds.length cD) q)], CD, [(b3, cel [.int .i64 o.kind, .int .i64 o.disk, .int .i64 o.at_, .int .i64 o.many, .slice adb o.b.length cb, .slice ads o.st.length cs] 34)], O] (fun h => h.sub (by first | (simp; done) | (simp +contextual; done))) (by kernel_rfl) (by kernel_rfl) ?_
                  clear S; intro w S
                  refine mix_pure E rfl rfl rfl (by decide) (fun w h => rn_move E rfl rfl) ?_; clear E a; intro a E
                  refine mix_pure E rfl rfl rfl (by decide) (fun w h => rn_nilCheck E rfl rfl) ?_; clear E a; intro a E
                  refine mix_pure E rfl rfl rfl (by decide) (fun w h => by first | exact rn_fieldAddr0 (q := 1) E rfl rfl rfl | exact rn_fieldAddr (q := 1) E rfl rfl rfl) ?_; clear E a; intro a E
                  refine mix_pure E rfl rfl rfl (by decide) (fun w h => by first | exact rn_load E rfl rfl rfl (h.one (by repeat (first | exact mm1 | assumption | apply List.Mem.tail))) rfl | exact rn_loadc E rfl rfl rfl (by assumption)) ?_; clear E a; intro a E
                  refine mix_pure E rfl rfl rfl (by decide) (fun w h => rn_move E rfl rfl) ?_; clear E a; intro a E
                  refine mix_pure E rfl rfl rfl (by decide) (fun w h => rn_indexAddr1 (i := n) E rfl rfl rfl rfl rfl rfl (by omega)) ?_; clear E a; intro a E
                  refine mix_pure E rfl rfl rfl (by decide) (fun w h => rn_loadc E rfl rfl rfl (hCD.rd.cells (h.at (by repeat (first | exact mm1 | assumption | apply List.Mem.tail))) rfl n _ hpt)) ?_; clear E a; intro a E
                  refine mix_pure E rfl rfl rfl (by decide) (fun w h => by first | exact rn_fieldAddr0 (q := 2) E rfl rfl rfl | exact rn_fieldAddr (q := 2) E rfl rfl rfl) ?_; clear E a; intro a E
                  refine mix_pure E rfl rfl rfl (by decide) (fun w h => by first | exact rn_load E rfl rfl rfl (h.one (by repeat (first | exact mm1 | assumption | apply List.Mem.tail))) rfl | exact rn_loadc E rfl rfl rfl (by assumption)) ?_; clear E a; intro a E
                  refine mix_pure E rfl rfl rfl (by decide) (fun w h => by first | exact rn_fieldAddr0 (q := 4) E rfl rfl rfl | exact rn_fieldAddr (q := 4) E rfl rfl rfl) ?_; clear E a; intro a E
                  refine mix_pure E rfl rfl rfl (by decide) (fun w h => by first | exact rn_load E rfl rfl rfl (h.one (by repeat (first | exact mm1 | assumption | apply List.Mem.tail))) rfl | exact rn_loadc E rfl rfl rfl (by assumption)) ?_; clear E a; intro a E
                  refine mix_pure E rfl rfl rfl (by decide) (fun w h => rn_move E rfl rfl) ?_; clear E a; intro a E
                  refine mix_pure E rfl rfl rfl (by decide) (fun w h => rn_nilCheck E rfl rfl) ?_; clear E a; intro a E
                  refine mix_pure E rfl rfl rfl (by decide) (fun w h => by first | exact rn_fieldAddr0 (q := 2) E rfl rfl rfl | exact rn_fieldAddr (q := 2) E rfl rfl rfl) ?_; clear E a; intro a E
                  refine mix_pure E rfl rfl rfl (by decide) (fun w h => by first | exact rn_load E rfl rfl rfl (h.one (by repeat (first | exact mm1 | assumption | apply List.Mem.tail))) rfl | exact rn_loadc E rfl rfl rfl (by assumption)) ?_; clear E a; intro a E
                  refine mix_pure E rfl rfl rfl (by decide) (fun w h => rn_move E rfl rfl) ?_; clear E a; intro a E
                  refine mix_pure E rfl rfl rfl (by decide) (fun w h => by first | exact rn_fieldAddr0 (q := 2) E rfl rfl rfl | exact rn_fieldAddr (q := 2) E rfl rfl rfl) ?_; clear E a; intro a E
                  refine mix_pure E rfl rfl rfl (by decide) (fun w h => by first | exact rn_load E rfl rfl rfl (h.one (by repeat (first | exact mm1 | assumption | apply List.Mem.tail))) rfl | exact rn_loadc E rfl rfl rfl (by assumption)) ?_; clear E a; intro a E
                  refine mix_pure E rfl rfl rfl (by decide) (fun w h => by first | exact rn_fieldAddr0 (q := 4) E rfl rfl rfl | exact rn_fieldAddr (q := 4) E rfl rfl rfl) ?_; clear E a; intro a E
                  refine mix_pure E rfl rfl rfl (by decide) (fun w h => by first | exact rn_load E rfl rfl rfl (h.one (by repeat (first | exact mm1 | assumption | apply List.Mem.tail))) rfl | exact rn_loadc E rfl rfl rfl (by assumption)) ?_; clear E a; intro a E
                  refine mix_call E rfl rfl rfl (by decide) rfl Try.func38 rfl (by kernel_rfl) rfl (rk_corrupt p R P hR.rk x hxm o.at_ _ o.b O hrb _ (S.hp.sel (sel_cons (by repeat (first | exact pk1 | apply pick_tail)) (sel_cons (by repeat (first | exact pk1 | apply pick_tail)) (sel_nil _))))) ?_
                  rintro v108 w ⟨rfl, P', hP', hT⟩; clear E a; intro a E
                  have S := S.call2 (sel_cons (by repeat (first | exact pk1 | apply pick_tail)) (sel_cons (by repeat (first | exact pk1 | apply pick_tail)) (sel_nil _))) hT
                  refine ⟨S.stab.sub (by first | (simp; done) | (simp +contextual; done)), ?_⟩
                  refine mix_call3 E rfl rfl rfl (by decide) rfl Try.func39 rfl (by kernel_rfl) rfl (qcorrupt_ret q R Q hR.rf hok (by omega) n x hx o.at_ _ o.b O hrb _ (S.hp.sel (sel_cons (by repeat (first | exact pk1 | apply pick_tail)) (sel_cons (by repeat (first | exact pk1 | apply pick_tail)) (sel_nil _))))) ?_
                  rintro v118 w ⟨rfl, Q', hQ', hT⟩; clear E a; intro a E
                  have S := S.call2 (sel_cons (by repeat (first | exact pk1 | apply pick_tail)) (sel_cons (by repeat (first | exact pk1 | apply pick_tail)) (sel_nil _))) hT
                  refine mix_free E rfl rfl rfl (by decide) (fun w => by first | exact rn_eql E rfl rfl rfl | exact rn_eql_ptr_nil E rfl rfl rfl rfl | exact rn_eql_bool E rfl rfl rfl rfl | exact rn_eql_string E rfl rfl rfl) ?_; clear E a; intro a E
                  refine mix_free E rfl rfl rfl (by decide) (fun w => rn_assign E rfl rfl) ?_; clear E a; intro a E
                  refine mix_nil ?_
                  refine then_k hK ?_; clear hK; clear K
                  refine wp_ret ?_
                  refine in_ret ?_
                  refine then_ret ?_; clear hK; clear K
                  refine ret1 E rfl rfl ?_
                  exact ⟨_, rfl, by simp, _, P', Q', ⟨hP', hQ', now_corrupt hok hwo hnow hxm _ _⟩, setD_d fun _ => rfl, ⟨by simp [Rk.corrupt], by simp only [Rk.corrupt]; rw [coWs_length]; omega, id⟩, (S.only (Bs := [P', Q', _, CD, O]) (sel_cons (by repeat (first | exact pk1 | apply pick_tail)) (sel_cons (by repeat (first | exact pk1 | apply pick_tail)) (sel_cons (by repeat (first | exact pk1 | apply pick_tail)) (sel_cons (by repeat (first | exact pk1 | apply pick_tail)) (sel_cons (by repeat (first | exact pk1 | apply pick_tail)) (sel_nil _))))))).tr⟩
                · replace hb := Nrm.nrm hb
                  refine wp_seq_k ?_; intro K hK
                  refine region_list ?_
                  refine list_pure E rfl rfl (by decide) (by first | exact rn_eql E rfl rfl rfl | exact rn_eql_ptr_nil E rfl rfl rfl rfl | exact rn_eql_bool E rfl rfl rfl rfl | exact rn_eql_string E rfl rfl rfl) ?_; clear E a; intro a E
                  refine list_pure E rfl rfl (by decide) (rn_assign E rfl rfl) ?_; clear E a; intro a E
                  refine wpList_nil ?_
                  refine then_k hK ?_; clear hK; clear K
                  refine if_bool E rfl (fun hb => ?_) (fun hb => ?_)
                  · replace hb := Nrm.nrm hb
                    refine wp_seq_k ?_; intro K hK
                    refine region_mix0 S (.ofL [(0, 0), (1, 0), (2, 0), (3, 0), (4, 0), (5, 0), (6, 3)]) (by kernel_rfl) (by kernel_rfl) ?_
                    clear S; intro w S
                    refine mix_pure E rfl rfl rfl (by decide) (fun w h => rn_move E rfl rfl) ?_; clear E a; intro a E
                    refine mix_pure E rfl rfl rfl (by decide) (fun w h => rn_nilCheck E rfl rfl) ?_; clear E a; intro a E
                    refine mix_pure E rfl rfl rfl (by decide) (fun w h => by first | exact rn_fieldAddr0 (q := 0) E rfl rfl rfl | exact rn_fieldAddr (q := 0) E rfl rfl rfl) ?_; clear E a; intro a E
                    refine mix_pure E rfl rfl rfl (by decide) (fun w h => by first | exact rn_load E rfl rfl rfl (h.one (by repeat (first | exact mm1 | assumption | apply List.Mem.tail))) rfl | exact rn_loadc E rfl rfl rfl (by assumption)) ?_; clear E a; intro a E
                    refine mix_pure E rfl rfl rfl (by decide) (fun w h => by first | exact rn_fieldAddr0 (q := 3) E rfl rfl rfl | exact rn_fieldAddr (q := 3) E rfl rfl rfl) ?_; clear E a; intro a E
                    refine mix_pure E rfl rfl rfl (by decide) (fun w h => by first | exact rn_load E rfl rfl rfl (h.one (by repeat (first | exact mm1 | assumption | apply List.Mem.tail))) rfl | exact rn_loadc E rfl rfl rfl (by assumption)) ?_; clear E a; intro a E
                    refine mix_call3 E rfl rfl rfl (by decide) rfl Try.func17 rfl (by kernel_rfl) rfl (rk_cut p R P hR.rk o.many _ (S.hp.sel (sel_cons (by repeat (first | exact pk1 | apply pick_tail)) (sel_nil _)))) ?_
                    rintro v128 w ⟨P', hP', hT⟩; clear E a; intro a E
                    have S := S.call1 (sel_cons (by repeat (first | exact pk1 | apply pick_tail)) (sel_nil _)) hT
                    refine mix_nil ?_
                    refine then_k hK ?_; clear hK; clear K
                    replace E := E.keep (e' := [(0, _), (3, _)]) (keep_cons rfl (keep_cons rfl (keep_nil)))
                    refine region_mix0 S (.ofL [(0, 0), (1, 0), (2, 0), (3, 0), (4, 0), (5, 0), (6, 3)]) (by kernel_rfl) (by kernel_rfl) ?_
                    clear S; intro w S
                    refine mix_pure E rfl rfl rfl (by decide) (fun w h => rn_move E rfl rfl) ?_; clear E a; intro a E
                    refine mix_pure E rfl rfl rfl (by decide) (fun w h => rn_nilCheck E rfl rfl) ?_; clear E a; intro a E
                    refine mix_pure E rfl rfl rfl (by decide) (fun w h => by first | exact rn_fieldAddr0 (q := 2) E rfl rfl rfl | exact rn_fieldAddr (q := 2) E rfl rfl rfl) ?_; clear E a; intro a E
                    refine mix_pure E rfl rfl rfl (by decide) (fun w h => by first | exact rn_load E rfl rfl rfl (h.one (by repeat (first | exact mm1 | assumption | apply List.Mem.tail))) rfl | exact rn_loadc E rfl rfl rfl (by assumption)) ?_; clear E a; intro a E
                    refine mix_pure E rfl rfl rfl (by decide) (fun w h => by first | exact rn_fieldAddr0 (q := 3) E rfl rfl rfl | exact rn_fieldAddr (q := 3) E rfl rfl rfl) ?_; clear E a; intro a E
                    refine mix_pure E rfl rfl rfl (by decide) (fun w h => by first | exact rn_load E rfl rfl rfl (h.one (by repeat (first | exact mm1 | assumption | apply List.Mem.tail))) rfl | exact rn_loadc E rfl rfl rfl (by assumption)) ?_; clear E a; intro a E
                    refine mix_call3 E rfl rfl rfl (by decide) rfl Try.func40 rfl (by kernel_rfl) rfl (qcut_ret q R Q hR.rf o.many _ (S.hp.sel (sel_cons (by repeat (first | exact pk1 | apply pick_tail)) (sel_nil _)))) ?_
                    rintro v135 w ⟨Q', hQ', hT⟩; clear E a; intro a E
                    have S := S.call1 (sel_cons (by repeat (first | exact pk1 | apply pick_tail)) (sel_nil _)) hT
                    refine mix_nil ?_
                    have hmx := ho.many.2
                    have hR2 : ∃ R', Rig p q R' P' Q' ∧ R'.ds.map Dk.d = R.ds.map Dk.d ∧ Much R.pw R'.pw R.ws R'.ws := ⟨_, ⟨hP', hQ', hnow⟩, rfl, ⟨by simp [Rk.cut], by simp [Rk.cut], fun _ => by simp only [Rk.cut]; omega⟩⟩
                    have S := S.only (Bs := [P', Q', [(xb, xcl p (.slice (some ⟨gD, 0, none⟩) R.ds.length cD) q)], CD, O]) (sel_cons (by repeat (first | exact pk1 | apply pick_tail)) (sel_cons (by repeat (first | exact pk1 | apply pick_tail)) (sel_cons (by repeat (first | exact pk1 | apply pick_tail)) (sel_cons (by repeat (first | exact pk1 | apply pick_tail)) (sel_cons (by repeat (first | exact pk1 | apply pick_tail)) (sel_nil _))))))
                    refine in_normal ?_
                    refine then_k hK ?_; clear hK; clear K
                    refine wp_seq_k ?_; intro K hK
                    refine region_list ?_
                    refine list_pure E rfl rfl (by decide) (rn_assign E rfl rfl) ?_; clear E a; intro a E
                    refine wpList_nil ?_
                    refine then_k hK ?_; clear hK; clear K
                    refine wp_ret ?_
                    refine ret1 E rfl rfl ?_
                    first
                    | (obtain ⟨R', h1, h2, h3⟩ := hR2
                       exact ⟨_, rfl, rfl, R', P', Q', h1, h2, h3, S.tr⟩)
                    | exact ⟨_, rfl, rfl, R, P, Q, hR, rfl, Much.refl _ _, (S.only (Bs := [P, Q, _, CD, O]) (sel_cons (by repeat (first | exact pk1 | apply pick_tail)) (sel_cons (by repeat (first | exact pk1 | apply pick_tail)) (sel_cons (by repeat (first | exact pk1 | apply pick_tail)) (sel_cons (by repeat (first | exact pk1 | apply pick_tail)) (sel_cons (by repeat (first | exact pk1 | apply pick_tail)) (sel_nil _))))))).tr⟩
                  · replace hb := Nrm.nrm hb
                    refine wp_seq_k ?_; intro K hK
                    refine region_list ?_
                    refine list_pure E rfl rfl (by decide) (by first | exact rn_eql E rfl rfl rfl | exact rn_eql_ptr_nil E rfl rfl rfl rfl | exact rn_eql_bool E rfl rfl rfl rfl | exact rn_eql_string E rfl rfl rfl) ?_; clear E a; intro a E
                    refine list_pure E rfl rfl (by decide) (rn_assign E rfl rfl) ?_; clear E a; intro a E
                    refine wpList_nil ?_
                    refine then_k hK ?_; clear hK; clear K
                    refine if_bool E rfl (fun hb => ?_) (fun hb => ?_)
                    · replace hb := Nrm.nrm hb
                      refine wp_seq_k ?_; intro K hK
                      refine region_mix0 S (.ofL [(0, 0), (1, 0), (2, 0), (3, 0), (4, 0), (5, 0), (6, 3)]) (by kernel_rfl) (by kernel_rfl) ?_
                      clear S; intro w S
                      refine mix_pure E rfl rfl rfl (by decide) (fun w h => rn_move E rfl rfl) ?_; clear E a; intro a E
                      refine mix_pure E rfl rfl rfl (by decide) (fun w h => rn_nilCheck E rfl rfl) ?_; clear E a; intro a E
                      refine mix_pure E rfl rfl rfl (by decide) (fun w h => by first | exact rn_fieldAddr0 (q := 0) E rfl rfl rfl | exact rn_fieldAddr (q := 0) E rfl rfl rfl) ?_; clear E a; intro a E
                      refine mix_pure E rfl rfl rfl (by decide) (fun w h => by first | exact rn_load E rfl rfl rfl (h.one (by repeat (first | exact mm1 | assumption | apply List.Mem.tail))) rfl | exact rn_loadc E rfl rfl rfl (by assumption)) ?_; clear E a; intro a E
                      refine mix_pure E rfl rfl rfl (by decide) (fun w h => by first | exact rn_fieldAddr0 (q := 5) E rfl rfl rfl | exact rn_fieldAddr (q := 5) E rfl rfl rfl) ?_; clear E a; intro a E
                      refine mix_pure E rfl rfl rfl (by decide) (fun w h => by first | exact rn_load E rfl rfl rfl (h.one (by repeat (first | exact mm1 | assumption | apply List.Mem.tail))) rfl | exact rn_loadc E rfl rfl rfl (by assumption)) ?_; clear E a; intro a E
                      refine mix_call3 E rfl rfl rfl (by decide) rfl Try.func14 rfl (by kernel_rfl) rfl (rk_up p R P hR.rk _ o.st O hrs _ (S.hp.sel (sel_cons (by repeat (first | exact pk1 | apply pick_tail)) (sel_cons (by repeat (first | exact pk1 | apply pick_tail)) (sel_nil _))))) ?_
                      rintro v144 w ⟨P', hP', hT⟩; clear E a; intro a E
                      have S := S.call2 (sel_cons (by repeat (first | exact pk1 | apply pick_tail)) (sel_cons (by repeat (first | exact pk1 | apply pick_tail)) (sel_nil _))) hT
                      refine mix_nil ?_
                      refine then_k hK ?_; clear hK; clear K
                      replace E := E.keep (e' := [(0, _), (3, _)]) (keep_cons rfl (keep_cons rfl (keep_nil)))
                      refine region_mix0 S (.ofL [(0, 0), (1, 0), (2, 0), (3, 0), (4, 0), (5, 0), (6, 3)]) (by kernel_rfl) (by kernel_rfl) ?_
                      clear S; intro w S
                      refine mix_pure E rfl rfl rfl (by decide) (fun w h => rn_move E rfl rfl) ?_; clear E a; intro a E
                      refine mix_pure E rfl rfl rfl (by decide) (fun w h => rn_nilCheck E rfl rfl) ?_; clear E a; intro a E
                      refine mix_pure E rfl rfl rfl (by decide) (fun w h => by first | exact rn_fieldAddr0 (q := 2) E rfl rfl rfl | exact rn_fieldAddr (q := 2) E rfl rfl rfl) ?_; clear E a; intro a E
                      refine mix_pure E rfl rfl rfl (by decide) (fun w h => by first | exact rn_load E rfl rfl rfl (h.one (by repeat (first | exact mm1 | assumption | apply List.Mem.tail))) rfl | exact rn_loadc E rfl rfl rfl (by assumption)) ?_; clear E a; intro a E
                      refine mix_pure E rfl rfl rfl (by decide) (fun w h => by first | exact rn_fieldAddr0 (q := 5) E rfl rfl rfl | exact rn_fieldAddr (q := 5) E rfl rfl rfl) ?_; clear E a; intro a E
                      refine mix_pure E rfl rfl rfl (by decide) (fun w h => by first | exact rn_load E rfl rfl rfl (h.one (by repeat (first | exact mm1 | assumption | apply List.Mem.tail))) rfl | exact rn_loadc E rfl rfl rfl (by assumption)) ?_; clear E a; intro a E
                      refine mix_call3 E rfl rfl rfl (by decide) rfl Try.func26 rfl (by kernel_rfl) rfl (qup_ret q R Q hR.rf hok hwo _ o.st O hrs _ (S.hp.sel (sel_cons (by repeat (first | exact pk1 | apply pick_tail)) (sel_cons (by repeat (first | exact pk1 | apply pick_tail)) (sel_nil _))))) ?_
                      rintro v151 w ⟨Q', hQ', hT⟩; clear E a; intro a E
                      have S := S.call2 (sel_cons (by repeat (first | exact pk1 | apply pick_tail)) (sel_cons (by repeat (first | exact pk1 | apply pick_tail)) (sel_nil _))) hT
                      refine mix_nil ?_
                      have hR2 : ∃ R', Rig p q R' P' Q' ∧ R'.ds.map Dk.d = R.ds.map Dk.d ∧ Much R.pw R'.pw R.ws R'.ws := ⟨_, ⟨hP', hQ', now_up hok hwo hnow _⟩, up_d hwo _, ⟨by simp [Rk.up], by simp [Rk.up], fun _ => by simp [Rk.up]⟩⟩
                      have S := S.only (Bs := [P', Q', [(xb, xcl p (.slice (some ⟨gD, 0, none⟩) R.ds.length cD) q)], CD, O]) (sel_cons (by repeat (first | exact pk1 | apply pick_tail)) (sel_cons (by repeat (first | exact pk1 | apply pick_tail)) (sel_cons (by repeat (first | exact pk1 | apply pick_tail)) (sel_cons (by repeat (first | exact pk1 | apply pick_tail)) (sel_cons (by repeat (first | exact pk1 | apply pick_tail)) (sel_nil _))))))
                      refine in_normal ?_
                      refine then_k hK ?_; clear hK; clear K
                      refine wp_seq_k ?_; intro K hK
                      refine region_list ?_
                      refine list_pure E rfl rfl (by decide) (rn_assign E rfl rfl) ?_; clear E a; intro a E
                      refine wpList_nil ?_
                      refine then_k hK ?_; clear hK; clear K
                      refine wp_ret ?_
                      refine ret1 E rfl rfl ?_
                      first
                      | (obtain ⟨R', h1, h2, h3⟩ := hR2
                         exact ⟨_, rfl, rfl, R', P', Q', h1, h2, h3, S.tr⟩)
                      | exact ⟨_, rfl, rfl, R, P, Q, hR, rfl, Much.refl _ _, (S.only (Bs := [P, Q, _, CD, O]) (sel_cons (by repeat (first | exact pk1 | apply pick_tail)) (sel_cons (by repeat (first | exact pk1 | apply pick_tail)) (sel_cons (by repeat (first | exact pk1 | apply pick_tail)) (sel_cons (by repeat (first | exact pk1 | apply pick_tail)) (sel_cons (by repeat (first | exact pk1 | apply pick_tail)) (sel_nil _))))))).tr⟩
                    · replace hb := Nrm.nrm hb
                      refine wp_skip ?_
                      refine in_normal ?_
                      refine then_k hK ?_; clear hK; clear K
                      refine wp_seq_k ?_; intro K hK
                      refine region_list ?_
                      refine list_pure E rfl rfl (by decide) (rn_assign E rfl rfl) ?_; clear E a; intro a E
                      refine wpList_nil ?_
                      refine then_k hK ?_; clear hK; clear K
                      refine wp_ret ?_
                      refine ret1 E rfl rfl ?_
                      first
                      | (obtain ⟨R', h1, h2, h3⟩ := hR2
                         exact ⟨_, rfl, rfl, R', P', Q', h1, h2, h3, S.tr⟩)
                      | exact ⟨_, rfl, rfl, R, P, Q, hR, rfl, Much.refl _ _, (S.only (Bs := [P, Q, _, CD, O]) (sel_cons (by repeat (first | exact pk1 | apply pick_tail)) (sel_cons (by repeat (first | exact pk1 | apply pick_tail)) (sel_cons (by repeat (first | exact pk1 | apply pick_tail)) (sel_cons (by repeat (first | exact pk1 | apply pick_tail)) (sel_cons (by repeat (first | exact pk1 | apply pick_tail)) (sel_nil _))))))).tr⟩
end Go.Proofs.Ytpppaohhnlgfoaa
