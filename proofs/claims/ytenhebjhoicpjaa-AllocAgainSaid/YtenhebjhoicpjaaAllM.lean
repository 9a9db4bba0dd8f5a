/-
  Allocators: how much waits; what is taken.
-/
import Derived.Test.YtenhebjhoicpjaaAllL
namespace Go.Sl
theorem sum_le {l : List Sset} (h : ∀ f ∈ l, Okl f.l) : 0 ≤ sumL (l.map fun f => manyL f.l) ∧ sumL (l.map fun f => manyL f.l) ≤ l.length * 1099511627776 := by
  induction l with
  | nil => simp [sumL]
  | cons x r ih =>
    have h1 := many_bd (h x (List.mem_cons_self ..)).gd
    have h2 := ih fun q hq => h q (List.mem_cons_of_mem _ hq)
    simp only [List.map_cons, sumL, List.length_cons]
    omega
theorem waiting_eq {y : Al} {W : List Sset} (h : y.waits = W.map (·.l)) : y.waiting = sumL (W.map fun f => manyL f.l) := by
  unfold Al.waiting; rw [h, List.map_map]; rfl
theorem left_okl {n : Int} (hn : n ≤ 40960) (l : List Sp) : Okl (leftOf' n l) := by
  unfold leftOf'
  have : ∀ (l m : List Sp), Okl m → Okl (l.foldl remS m) := by
    intro l
    induction l with
    | nil => exact fun m h => h
    | cons x r ih => exact fun m h => ih _ (remS_gd h x)
  exact this l _ (whole_okl hn)
def takenTo (y : Al) (i : Nat) : List Pl := (List.range i).flatMap fun t => (leftOf' (y.size t) (y.fr t)).map fun x => ⟨t, x⟩
theorem takenTo_succ (y : Al) (i : Nat) : takenTo y (i + 1) = takenTo y i ++ (leftOf' (y.size i) (y.fr i)).map fun x => ⟨i, x⟩ := by
  unfold takenTo; rw [List.range_succ, List.flatMap_append]; simp
theorem takenTo_len {y : Al} (h : ∀ t, y.size t ≤ 40960) (i : Nat) : (takenTo y i).length ≤ i * 4096 := by
  induction i with
  | zero => simp [takenTo]
  | succ i ih =>
    have h1 := (left_okl (h i) (y.fr i)).len
    rw [takenTo_succ, List.length_append, List.length_map]; omega
end Go.Sl
namespace Go.Proofs.Ytenhebjhoicpjaa
open Go.Sl
set_option maxRecDepth 10000

theorem awaiting_ret (p : Nat) (y : Al) (A : Chunk) (hA : AlC p y A) (w0 : World) (H : Hp w0 [A]) :
    Ret Try.prog 12 #[ptr p] w0 fun u w' => u = .int .i64 y.waiting ∧ Trs w0 w' [A] [A] := by
  obtain ⟨ho, V, hV, rfl⟩ := hA
  have hlW := hV.lenW ho
  have hn1 := ho.n1
  have hn4 := ho.n4
  obtain ⟨f1, f2, evw⟩ := hV.w.slice
  have hVw := hV.w
  rw [evw] at hVw
  obtain ⟨fb, fo, rfl⟩ := hVw.rd.addr (by omega)
  have hok : ∀ f ∈ V.W, Okl f.l := fun f hf => ho.wt f.l (by rw [hV.ew]; exact List.mem_map_of_mem hf)
  have S := (St.begin H).openF (Ls := [])
  refine enter1 21 Try.func12 rfl rfl (by decide) ?_; intro a E
  refine wp_seq_k ?_; intro K hK
  refine region_list ?_
  refine list_pure E rfl rfl (by decide) (rn_assign E rfl rfl) ?_; clear E a; intro a E
  refine wpList_nil ?_
  refine then_k hK ?_; clear hK; clear K
  refine wp_seq_k ?_; intro K hK
  refine region_list ?_
  refine list_pure E rfl rfl (by decide) (rn_assign E rfl rfl) ?_; clear E a; intro a E
  refine wpList_nil ?_
  refine then_k hK ?_; clear hK; clear K
  refine wp_seq_k ?_; intro K hK
  refine wp_seq_k ?_; intro K hK
  refine region_list ?_
  refine list_pure E rfl rfl (by decide) (rn_move E rfl rfl) ?_; clear E a; intro a E
  refine list_pure E rfl rfl (by decide) (rn_nilCheck E rfl rfl) ?_; clear E a; intro a E
  refine list_pure E rfl rfl (by decide) (by first | exact rn_fieldAddr0 (q := 2) E rfl rfl rfl | exact rn_fieldAddr (q := 2) E rfl rfl rfl) ?_; clear E a; intro a E
  refine list_pure E rfl rfl (by decide) (by first | exact rn_load E rfl rfl rfl (S.get (by repeat (first | exact pk1 | apply pick_tail))) rfl | exact rn_loadc E rfl rfl rfl (by assumption)) ?_; clear E a; intro a E
  rw [evw] at E
  refine list_pure E rfl rfl (by decide) (by first | exact rn_len E rfl rfl rfl | exact rn_len_str E rfl rfl rfl | exact rn_len_string E rfl rfl rfl) ?_; clear E a; intro a E
  refine list_pure E rfl rfl (by decide) (rn_move E rfl rfl) ?_; clear E a; intro a E
  refine wpList_nil ?_
  refine then_k hK ?_; clear hK; clear K
  refine wp_block ?_
  refine wp_loop_ghost (fun (m : Nat) (a : Act) (w' : World) => ∃ i : Nat, m = V.W.length - i ∧ i ≤ V.W.length ∧ St w0 [(V.chs p).flatten] w' (V.chs p ++ []) ∧ Fr a 21 [(3, .int .i64 (sumL ((V.W.take i).map fun f => manyL f.l))), (9, .slice (some ⟨fb, fo, none⟩) V.W.length f2), (10, .int .i64 V.W.length), (11, .int .i64 i)]) (V.W.length - 0) ?_ ?_
  · exact ⟨0, rfl, by omega, S, E.keep (keep_cons rfl (keep_cons rfl (keep_cons rfl (keep_cons rfl keep_nil))))⟩
  clear E; clear a; (try clear S); rintro m a w ⟨i, rfl, hi, S, E⟩
  refine wp_seq_k ?_; intro K hK
  refine region_list ?_
  refine list_pure E rfl rfl (by decide) (rn_lss E rfl rfl rfl) ?_; clear E a; intro a E
  refine wpList_nil ?_
  refine then_k hK ?_; clear hK; clear K
  refine wp_seq_k ?_; intro K hK
  refine if_bool E rfl (fun hb => ?_) (fun hb => ?_)
  · replace hb := Nrm.nrm hb
    refine wp_skip ?_
    refine then_k hK ?_; clear hK; clear K
    refine wp_seq_k ?_; intro K hK
    refine wp_block ?_
    refine wp_seq_k ?_; intro K hK
    have hil : i < V.W.length := by omega
    obtain ⟨hs1, hs2⟩ := sum_le (l := V.W.take i) fun f hf => hok f (List.mem_of_mem_take hf)
    rw [List.length_take] at hs2
    have hmb := many_bd (hok _ (List.getElem_mem hil)).gd
    refine region_list ?_
    refine list_pure E rfl rfl (by decide) (by first | exact rn_indexAddr1 E rfl rfl rfl rfl rfl rfl (by omega) | exact rn_indexAddr E rfl rfl rfl rfl rfl rfl (by omega) | exact rn_indexAddr_array E rfl rfl rfl rfl rfl rfl (by omega)) ?_; clear E a; intro a E
    refine list_pure E rfl rfl (by decide) (rn_loadc E rfl rfl rfl (hVw.rd.at1 (S.stab.at (by repeat (first | exact mm1 | assumption | apply List.Mem.tail))) hil)) ?_; clear E a; intro a E
    refine list_pure E rfl rfl (by decide) (rn_assign E rfl rfl) ?_; clear E a; intro a E
    refine wpList_nil ?_
    refine then_k hK ?_; clear hK; clear K
    refine region_list ?_
    refine list_pure E rfl rfl (by decide) (rn_move E rfl rfl) ?_; clear E a; intro a E
    refine list_pure E rfl rfl (by decide) (rn_move E rfl rfl) ?_; clear E a; intro a E
    refine list_call E rfl rfl (by decide) rfl Try.func29 rfl (by kernel_rfl) rfl (many_in V.W[i].p _ _ V.W[i].C (hV.ws _ (List.getElem_mem _)) (Av.inW (List.getElem_mem _)) _ S.hp) ?_
    rintro v17 w ⟨rfl, hT⟩; clear E a; intro a E
    have S := S.all hT
    refine list_pure E rfl rfl (by decide) (rn_add E rfl rfl rfl (w_in (by omega))) ?_; clear E a; intro a E
    refine list_pure E rfl rfl (by decide) (rn_assign E rfl rfl) ?_; clear E a; intro a E
    refine wpList_nil ?_
    refine in_normal ?_
    refine then_k hK ?_; clear hK; clear K
    refine region_list ?_
    refine list_pure E rfl rfl (by decide) (rn_add E rfl rfl rfl (by first | exact wa_lit (y := 1) (by omega) | exact w_in (by omega) | exact w_inu (by omega) | exact rfl)) ?_; clear E a; intro a E
    refine list_pure E rfl rfl (by decide) (rn_move E rfl rfl) ?_; clear E a; intro a E
    refine wpList_nil ?_
    refine then_normal ?_
    exact ⟨_, by omega, i + 1, rfl, by omega, S, by rw [take_succ_at _ hil, List.map_append, sumL_append, List.map_cons, List.map_nil, sumL, sumL, Int.add_zero]; exact E.keep (keep_cons rfl (keep_cons rfl (keep_cons rfl (keep_cons rfl keep_nil))))⟩
  · replace hb := Nrm.nrm hb
    refine wp_exit ?_
    refine then_exit ?_; clear hK; clear K
    refine then_exit ?_
    refine in_exit ?_
    refine then_k hK ?_; clear hK; clear K
    refine wp_seq_k ?_; intro K hK
    refine region_list ?_
    refine list_pure E rfl rfl (by decide) (rn_move E rfl rfl) ?_; clear E a; intro a E
    refine list_pure E rfl rfl (by decide) (rn_assign E rfl rfl) ?_; clear E a; intro a E
    refine wpList_nil ?_
    refine then_k hK ?_; clear hK; clear K
    refine wp_ret ?_
    refine ret1 E rfl rfl ?_
    obtain rfl : i = V.W.length := by omega
    exact ⟨_, rfl, by rw [waiting_eq hV.ew, List.take_length], S.closeF.tr⟩

theorem all_in (p : Nat) (l : List Sp) (mn : Int) (C : Chunk) (hA : SetC p l mn C) (hl : l.length ≤ 4096) {As : List Chunk} (hC : C ∈ As) (w0 : World) (H : Hp w0 As) :
    Ret Try.prog 33 #[ptr p] w0 fun u w' => ∃ D, Buf D 31 2 u l.length (l.flatMap Sp.lay) ∧ Trs w0 w' As (D :: As) := by
  obtain ⟨Rs, q⟩ := perm_of_mem hC
  refine (all_ret p l mn C w0 hA hl (Hp.mem q H)).mono fun u w' ⟨D, h1, h2⟩ => ⟨D, h1, ?_⟩
  have S := (St.begin H).call (Bs := [C]) (Rs := Rs) q h2
  exact ((S.perm (List.Perm.swap _ _ _)).perm (q.symm.cons D)).tr

theorem ataken_ret (p : Nat) (y : Al) (A : Chunk) (hA : AlC p y A) (w0 : World) (H : Hp w0 [A]) :
    Ret Try.prog 14 #[ptr p] w0 fun u w' => ∃ D, Buf D 33 3 u y.taken.length (y.taken.flatMap Pl.lay) ∧ Trs w0 w' [A] [D, A] := by
  obtain ⟨ho, V, hV, rfl⟩ := hA
  have hlF := hV.lenF ho
  have hn1 := ho.n1
  have hn4 := ho.n4
  obtain ⟨f1, f2, evf⟩ := hV.f.slice
  have hVf := hV.f
  rw [evf] at hVf
  obtain ⟨fb, fo, rfl⟩ := hVf.rd.addr (by omega)
  obtain ⟨z1, z2, evz⟩ := hV.vs_is
  have hVz := hV.z
  rw [evz] at hVz
  obtain ⟨zb, zo, rfl⟩ := hVz.rd.addr (by omega)
  have hszl := fun t => (size_le ho t).2
  have S := (St.begin H).openF (Ls := [])
  refine enter1 56 Try.func14 rfl rfl (by decide) ?_; intro a E
  refine wp_seq_k ?_; intro K hK
  refine region_list ?_
  refine list_pure E rfl rfl (by decide) (rn_assign E rfl rfl) ?_; clear E a; intro a E
  refine wpList_nil ?_
  refine then_k hK ?_; clear hK; clear K
  refine wp_seq_k ?_; intro K hK
  refine region_list ?_
  refine list_pure E rfl rfl (by decide) (rn_assign E rfl rfl) ?_; clear E a; intro a E
  refine wpList_nil ?_
  refine then_k hK ?_; clear hK; clear K
  refine wp_seq_k ?_; intro K hK
  refine wp_seq_k ?_; intro K hK
  refine region_list ?_
  refine list_pure E rfl rfl (by decide) (rn_move E rfl rfl) ?_; clear E a; intro a E
  refine list_pure E rfl rfl (by decide) (rn_nilCheck E rfl rfl) ?_; clear E a; intro a E
  refine list_pure E rfl rfl (by decide) (by first | exact rn_fieldAddr0 (q := 0) E rfl rfl rfl | exact rn_fieldAddr (q := 0) E rfl rfl rfl) ?_; clear E a; intro a E
  refine list_pure E rfl rfl (by decide) (by first | exact rn_load E rfl rfl rfl (S.get (by repeat (first | exact pk1 | apply pick_tail))) rfl | exact rn_loadc E rfl rfl rfl (by assumption)) ?_; clear E a; intro a E
  rw [evz] at E
  refine list_pure E rfl rfl (by decide) (by first | exact rn_len E rfl rfl rfl | exact rn_len_str E rfl rfl rfl | exact rn_len_string E rfl rfl rfl) ?_; clear E a; intro a E
  refine list_pure E rfl rfl (by decide) (rn_move E rfl rfl) ?_; clear E a; intro a E
  refine wpList_nil ?_
  refine then_k hK ?_; clear hK; clear K
  refine wp_block ?_
  refine wp_loop_ghost (fun (m : Nat) (a : Act) (w' : World) => ∃ (i : Nat) (v3 : Value) (D : Chunk), m = y.sizes.length - i ∧ i ≤ y.sizes.length ∧ Buf D 33 3 v3 (takenTo y i).length ((takenTo y i).flatMap Pl.lay) ∧ (∃ Xs, St w0 [(V.chs p).flatten] w' (D :: (V.chs p ++ Xs))) ∧ Fr a 56 [(0, ptr p), (3, v3), (14, .slice (some ⟨zb, zo, none⟩) y.sizes.length z2), (15, .int .i64 y.sizes.length), (16, .int .i64 i)]) (y.sizes.length - 0) ?_ ?_
  · exact ⟨0, _, [], rfl, by omega, Buf.nil _ _, ⟨[], S.addNil⟩, E.keep (keep_cons rfl (keep_cons rfl (keep_cons rfl (keep_cons rfl (keep_cons rfl keep_nil)))))⟩
  clear E; clear a; (try clear S); rintro m a w ⟨i, v3, D, rfl, hi, hD, ⟨Xs, S⟩, E⟩
  refine wp_seq_k ?_; intro K hK
  refine region_list ?_
  refine list_pure E rfl rfl (by decide) (rn_lss E rfl rfl rfl) ?_; clear E a; intro a E
  refine wpList_nil ?_
  refine then_k hK ?_; clear hK; clear K
  refine wp_seq_k ?_; intro K hK
  refine if_bool E rfl (fun hb => ?_) (fun hb => ?_)
  · replace hb := Nrm.nrm hb
    refine wp_skip ?_
    refine then_k hK ?_; clear hK; clear K
    refine wp_seq_k ?_; intro K hK
    refine wp_block ?_
    refine wp_seq_k ?_; intro K hK
    have hil : i < y.sizes.length := by omega
    have hfi : i < V.F.length := by omega
    have hle := (ho.sz _ (List.getElem_mem hil)).2
    have hsi := size_at hil
    have hfr := fr_at hV.ef hfi
    have hfo : Okl V.F[i].l := hfr ▸ ho.frAt i
    have htl := takenTo_len hszl i
    have hts := takenTo_succ y i
    refine region_list ?_
    refine list_pure E rfl rfl (by decide) (rn_move E rfl rfl) ?_; clear E a; intro a E
    refine list_pure E rfl rfl (by decide) (by first | exact rn_indexAddr1 E rfl rfl rfl rfl rfl rfl (by omega) | exact rn_indexAddr E rfl rfl rfl rfl rfl rfl (by omega) | exact rn_indexAddr_array E rfl rfl rfl rfl rfl rfl (by omega)) ?_; clear E a; intro a E
    refine list_pure E rfl rfl (by decide) (rn_loadc E rfl rfl rfl (hVz.rd.at1 (S.stab.at (by repeat (first | exact mm1 | assumption | apply List.Mem.tail))) hil)) ?_; clear E a; intro a E
    refine list_pure E rfl rfl (by decide) (rn_assign E rfl rfl) ?_; clear E a; intro a E
    refine list_pure E rfl rfl (by decide) (rn_assign E rfl rfl) ?_; clear E a; intro a E
    refine wpList_nil ?_
    refine then_k hK ?_; clear hK; clear K
    refine wp_seq_k ?_; intro K hK
    refine region_list ?_
    refine list_pure E rfl rfl (by decide) (rn_move E rfl rfl) ?_; clear E a; intro a E
    refine list_call E rfl rfl (by decide) rfl Try.func20 rfl (by kernel_rfl) rfl (whole_ret y.sizes[i] hle _) ?_
    rintro v22 w ⟨lp, B, rfl, hB, hT⟩; clear E a; intro a E
    have S := S.fresh hT
    refine list_pure E rfl rfl (by decide) (rn_assign E rfl rfl) ?_; clear E a; intro a E
    refine wpList_nil ?_
    refine then_k hK ?_; clear hK; clear K
    refine wp_seq_k ?_; intro K hK
    refine wp_seq_k ?_; intro K hK
    refine region_list ?_
    refine list_pure E rfl rfl (by decide) (rn_move E rfl rfl) ?_; clear E a; intro a E
    refine list_pure E rfl rfl (by decide) (rn_nilCheck E rfl rfl) ?_; clear E a; intro a E
    refine list_pure E rfl rfl (by decide) (by first | exact rn_fieldAddr0 (q := 1) E rfl rfl rfl | exact rn_fieldAddr (q := 1) E rfl rfl rfl) ?_; clear E a; intro a E
    refine list_pure E rfl rfl (by decide) (by first | exact rn_load E rfl rfl rfl (S.get (by repeat (first | exact pk1 | apply pick_tail))) rfl | exact rn_loadc E rfl rfl rfl (by assumption)) ?_; clear E a; intro a E
    rw [evf] at E
    refine list_pure E rfl rfl (by decide) (rn_move E rfl rfl) ?_; clear E a; intro a E
    refine list_pure E rfl rfl (by decide) (by first | exact rn_indexAddr1 E rfl rfl rfl rfl rfl rfl (by omega) | exact rn_indexAddr E rfl rfl rfl rfl rfl rfl (by omega) | exact rn_indexAddr_array E rfl rfl rfl rfl rfl rfl (by omega)) ?_; clear E a; intro a E
    refine list_pure E rfl rfl (by decide) (rn_loadc E rfl rfl rfl (hVf.rd.at1 (S.stab.at (by repeat (first | exact mm1 | assumption | apply List.Mem.tail))) hfi)) ?_; clear E a; intro a E
    refine list_call E rfl rfl (by decide) rfl Try.func33 rfl (by kernel_rfl) rfl (all_in V.F[i].p _ _ V.F[i].C (hV.fs _ (List.getElem_mem _)) hfo.len (by repeat (first | exact Av.inF (List.getElem_mem _) | apply List.mem_cons_of_mem)) _ S.hp) ?_
    rintro v30 w ⟨C1, hC1, hT⟩; clear E a; intro a E
    obtain ⟨k1, k2, rfl⟩ := hC1.slice; have S := S.all hT
    refine list_pure E rfl rfl (by decide) (by first | exact rn_len E rfl rfl rfl | exact rn_len_str E rfl rfl rfl | exact rn_len_string E rfl rfl rfl) ?_; clear E a; intro a E
    refine list_pure E rfl rfl (by decide) (rn_move E rfl rfl) ?_; clear E a; intro a E
    refine wpList_nil ?_
    refine then_k hK ?_; clear hK; clear K
    refine wp_block ?_
    refine wp_loop_ghost (fun (m : Nat) (a : Act) (w' : World) => ∃ (j : Nat) (B : Chunk), m = V.F[i].l.length - j ∧ j ≤ V.F[i].l.length ∧ SetC lp ((V.F[i].l.take j).foldl remS (whole y.sizes[i])) (manyL ((V.F[i].l.take j).foldl remS (whole y.sizes[i]))) B ∧ Okl ((V.F[i].l.take j).foldl remS (whole y.sizes[i])) ∧ (∃ Xs, St w0 [(V.chs p).flatten] w' (B :: C1 :: D :: (V.chs p ++ Xs))) ∧ Fr a 56 [(0, ptr p), (3, v3), (4, .int .i64 i), (6, ptr lp), (14, .slice (some ⟨zb, zo, none⟩) y.sizes.length z2), (15, .int .i64 y.sizes.length), (16, .int .i64 i), (30, .slice k1 V.F[i].l.length k2), (31, .int .i64 V.F[i].l.length), (32, .int .i64 j)]) (V.F[i].l.length - 0) ?_ ?_
    · exact ⟨0, B, rfl, by omega, hB, whole_okl hle, ⟨Xs, S.front3 (A := B) (B := C1) (C := D) (by repeat (first | exact pk1 | apply pick_tail)) (by repeat (first | exact pk1 | apply pick_tail)) (by repeat (first | exact pk1 | apply pick_tail))⟩, E.keep (keep_cons rfl (keep_cons rfl (keep_cons rfl (keep_cons rfl (keep_cons rfl (keep_cons rfl (keep_cons rfl (keep_cons rfl (keep_cons rfl (keep_cons rfl keep_nil))))))))))⟩
    clear E; clear a; (try clear S); rintro m a w ⟨j, B, rfl, hj, hB, hBo, ⟨Xs, S⟩, E⟩
    refine wp_seq_k ?_; intro K hK
    refine region_list ?_
    refine list_pure E rfl rfl (by decide) (rn_lss E rfl rfl rfl) ?_; clear E a; intro a E
    refine wpList_nil ?_
    refine then_k hK ?_; clear hK; clear K
    refine wp_seq_k ?_; intro K hK
    refine if_bool E rfl (fun hb => ?_) (fun hb => ?_)
    · replace hb := Nrm.nrm hb
      refine wp_skip ?_
      refine then_k hK ?_; clear hK; clear K
      refine wp_seq_k ?_; intro K hK
      refine wp_block ?_
      refine wp_seq_k ?_; intro K hK
      have hjl : j < V.F[i].l.length := by omega
      obtain ⟨kb, rfl⟩ := hC1.addr (by omega)
      have htk := take_succ_at V.F[i].l hjl
      have hfl := hfo.len
      refine region_list ?_
      refine list_pure E rfl rfl (by decide) (by first | exact rn_indexAddr1 E rfl rfl rfl rfl rfl rfl (by omega) | exact rn_indexAddr E rfl rfl rfl rfl rfl rfl (by omega) | exact rn_indexAddr_array E rfl rfl rfl rfl rfl rfl (by omega)) ?_; clear E a; intro a E
      refine list_pure E rfl rfl (by decide) (rn_load_aggc (vs := [_, _]) E rfl rfl rfl rfl (hC1.rd.elem (lay := Sp.lay) Sp.lay_len (S.stab.at (by repeat (first | exact mm1 | assumption | apply List.Mem.tail))) hjl)) ?_; clear E a; intro a E
      refine list_wp rfl (wp_alloc E S rfl rfl (by decide) rfl rfl rfl ?_); clear E S a; intro a w b8 E S
      refine list_wp rfl (wp_storeN E S rfl rfl rfl rfl (by simp [Value.oneCell']) rfl (by repeat (first | exact pk1 | apply pick_tail)) (by simp) ?_); clear E S a; intro a w E S; simp only [List.take_succ_cons, List.take_zero, List.drop_succ_cons, List.drop_zero, List.cons_append, List.nil_append, List.append_nil, List.length_cons, List.length_nil, Nat.zero_add, Nat.add_zero] at S
      refine wpList_nil ?_
      refine then_k hK ?_; clear hK; clear K
      refine region_list ?_
      refine list_pure E rfl rfl (by decide) (rn_move E rfl rfl) ?_; clear E a; intro a E
      refine list_pure E rfl rfl (by decide) (rn_load_blk (vs := [_, _]) E rfl rfl rfl (S.get (by repeat (first | exact pk1 | apply pick_tail))) rfl rfl) ?_; clear E a; intro a E
      refine list_call E rfl rfl (by decide) rfl Try.func23 rfl (by kernel_rfl) rfl (rem_ret lp _ V.F[i].l[j] B _ hB hBo (S.hp.sel (sel_cons (by repeat (first | exact pk1 | apply pick_tail)) (sel_nil _)))) ?_
      rintro v38 w ⟨rfl, B2, hB2, hT⟩; clear E a; intro a E
      have S := S.call1 (sel_cons (by repeat (first | exact pk1 | apply pick_tail)) (sel_nil _)) hT
      refine wpList_nil ?_
      refine in_normal ?_
      refine then_k hK ?_; clear hK; clear K
      refine region_list ?_
      refine list_pure E rfl rfl (by decide) (rn_add E rfl rfl rfl (by first | exact wa_lit (y := 1) (by omega) | exact w_in (by omega) | exact w_inu (by omega) | exact rfl)) ?_; clear E a; intro a E
      refine list_pure E rfl rfl (by decide) (rn_move E rfl rfl) ?_; clear E a; intro a E
      refine wpList_nil ?_
      refine then_normal ?_
      exact ⟨_, by omega, j + 1, B2, rfl, by omega, by rw [htk, List.foldl_append]; exact hB2, by rw [htk, List.foldl_append]; exact remS_gd hBo _, ⟨Xs, (S.front4 (A := [(b8, _)]) (B := B2) (C := C1) (D := D) (by repeat (first | exact pk1 | apply pick_tail)) (by repeat (first | exact pk1 | apply pick_tail)) (by repeat (first | exact pk1 | apply pick_tail)) (by repeat (first | exact pk1 | apply pick_tail))).tail⟩, E.keep (keep_cons rfl (keep_cons rfl (keep_cons rfl (keep_cons rfl (keep_cons rfl (keep_cons rfl (keep_cons rfl (keep_cons rfl (keep_cons rfl (keep_cons rfl keep_nil))))))))))⟩
    · replace hb := Nrm.nrm hb
      refine wp_exit ?_
      refine then_exit ?_; clear hK; clear K
      refine then_exit ?_
      refine in_exit ?_
      refine then_k hK ?_; clear hK; clear K
      refine wp_seq_k ?_; intro K hK
      obtain rfl : j = V.F[i].l.length := by omega
      rw [List.take_length] at hB hBo
      obtain ⟨lf, hlf⟩ : ∃ lf, lf = V.F[i].l.foldl remS (whole y.sizes[i]) := ⟨_, rfl⟩
      rw [← hlf] at hB hBo
      have hlf2 : leftOf' (y.size i) (y.fr i) = lf := by rw [hsi, hfr, hlf]; rfl
      rw [hlf2] at hts
      have hlfl := hBo.len
      refine region_list ?_
      refine list_pure E rfl rfl (by decide) (rn_move E rfl rfl) ?_; clear E a; intro a E
      refine list_call E rfl rfl (by decide) rfl Try.func33 rfl (by kernel_rfl) rfl (all_in lp _ _ B hB hBo.len (List.mem_cons_self ..) _ S.hp) ?_
      rintro v41 w ⟨C2, hC2, hT⟩; clear E a; intro a E
      obtain ⟨u1, u2, rfl⟩ := hC2.slice; have S := S.all hT
      refine list_pure E rfl rfl (by decide) (by first | exact rn_len E rfl rfl rfl | exact rn_len_str E rfl rfl rfl | exact rn_len_string E rfl rfl rfl) ?_; clear E a; intro a E
      refine list_pure E rfl rfl (by decide) (rn_move E rfl rfl) ?_; clear E a; intro a E
      refine wpList_nil ?_
      refine then_k hK ?_; clear hK; clear K
      refine wp_block ?_
      refine wp_loop_ghost (fun (m : Nat) (a : Act) (w' : World) => ∃ (j : Nat) (v3 : Value) (D : Chunk), m = lf.length - j ∧ j ≤ lf.length ∧ Buf D 33 3 v3 ((takenTo y i).length + j) ((takenTo y i ++ (lf.take j).map fun x => (⟨(i : Int), x⟩ : Pl)).flatMap Pl.lay) ∧ (∃ Xs, St w0 [(V.chs p).flatten] w' (D :: C2 :: (V.chs p ++ Xs))) ∧ Fr a 56 [(0, ptr p), (3, v3), (4, .int .i64 i), (14, .slice (some ⟨zb, zo, none⟩) y.sizes.length z2), (15, .int .i64 y.sizes.length), (16, .int .i64 i), (41, .slice u1 lf.length u2), (42, .int .i64 lf.length), (43, .int .i64 j)]) (lf.length - 0) ?_ ?_
      · exact ⟨0, v3, D, rfl, by omega, by simpa using hD, ⟨Xs, (S.front4 (A := B) (B := C1) (C := D) (D := C2) (by repeat (first | exact pk1 | apply pick_tail)) (by repeat (first | exact pk1 | apply pick_tail)) (by repeat (first | exact pk1 | apply pick_tail)) (by repeat (first | exact pk1 | apply pick_tail))).tail2⟩, E.keep (keep_cons rfl (keep_cons rfl (keep_cons rfl (keep_cons rfl (keep_cons rfl (keep_cons rfl (keep_cons rfl (keep_cons rfl (keep_cons rfl keep_nil)))))))))⟩
      clear E; clear a; (try clear S); rintro m a w ⟨j, v3, D, rfl, hj, hD, ⟨Xs, S⟩, E⟩
      refine wp_seq_k ?_; intro K hK
      refine region_list ?_
      refine list_pure E rfl rfl (by decide) (rn_lss E rfl rfl rfl) ?_; clear E a; intro a E
      refine wpList_nil ?_
      refine then_k hK ?_; clear hK; clear K
      refine wp_seq_k ?_; intro K hK
      refine if_bool E rfl (fun hb => ?_) (fun hb => ?_)
      · replace hb := Nrm.nrm hb
        refine wp_skip ?_
        refine then_k hK ?_; clear hK; clear K
        refine wp_seq_k ?_; intro K hK
        refine wp_block ?_
        refine wp_seq_k ?_; intro K hK
        have hjl : j < lf.length := by omega
        obtain ⟨ub, rfl⟩ := hC2.addr (by omega)
        refine region_list ?_
        refine list_pure E rfl rfl (by decide) (by first | exact rn_indexAddr1 E rfl rfl rfl rfl rfl rfl (by omega) | exact rn_indexAddr E rfl rfl rfl rfl rfl rfl (by omega) | exact rn_indexAddr_array E rfl rfl rfl rfl rfl rfl (by omega)) ?_; clear E a; intro a E
        refine list_pure E rfl rfl (by decide) (rn_load_aggc (vs := [_, _]) E rfl rfl rfl rfl (hC2.rd.elem (lay := Sp.lay) Sp.lay_len (S.stab.at (by repeat (first | exact mm1 | assumption | apply List.Mem.tail))) hjl)) ?_; clear E a; intro a E
        refine list_wp rfl (wp_alloc E S rfl rfl (by decide) rfl rfl rfl ?_); clear E S a; intro a w b10 E S
        refine list_wp rfl (wp_storeN E S rfl rfl rfl rfl (by simp [Value.oneCell']) rfl (by repeat (first | exact pk1 | apply pick_tail)) (by simp) ?_); clear E S a; intro a w E S; simp only [List.take_succ_cons, List.take_zero, List.drop_succ_cons, List.drop_zero, List.cons_append, List.nil_append, List.append_nil, List.length_cons, List.length_nil, Nat.zero_add, Nat.add_zero] at S
        refine wpList_nil ?_
        refine then_k hK ?_; clear hK; clear K
        refine region_list ?_
        refine list_pure E rfl rfl (by decide) (rn_move E rfl rfl) ?_; clear E a; intro a E
        refine list_pure E rfl rfl (by decide) (rn_move E rfl rfl) ?_; clear E a; intro a E
        refine list_pure E rfl rfl (by decide) (rn_load_blk (vs := [_, _]) E rfl rfl rfl (S.get (by repeat (first | exact pk1 | apply pick_tail))) rfl rfl) ?_; clear E a; intro a E
        refine list_pure E rfl rfl (by decide) (rn_build (cells := [_, _, _]) E rfl rfl rfl) ?_; clear E a; intro a E
        refine list_wp rfl (wp_bslice (cells := [_, _, _]) E S rfl rfl (by decide) rfl rfl rfl rfl rfl (by decide) rfl ?_); clear E S a; intro a w b51 E S
        refine list_wp rfl (wp_append (by' := 24) E S rfl rfl (by decide) rfl rfl hD (by repeat (first | exact pk1 | apply pick_tail)) ((rd1s _ _ _ _ _).src (S.stab.at (by repeat (first | exact mm1 | assumption | apply List.Mem.tail))) rfl) rfl rfl rfl rfl rfl rfl (by simp only [maxLen]; omega) (by omega) ?_); clear E S a; intro a w v52 C52 E S hB52
        refine list_pure E rfl rfl (by decide) (rn_assign E rfl rfl) ?_; clear E a; intro a E
        refine wpList_nil ?_
        refine in_normal ?_
        refine then_k hK ?_; clear hK; clear K
        refine region_list ?_
        refine list_pure E rfl rfl (by decide) (rn_add E rfl rfl rfl (by first | exact wa_lit (y := 1) (by omega) | exact w_in (by omega) | exact w_inu (by omega) | exact rfl)) ?_; clear E a; intro a E
        refine list_pure E rfl rfl (by decide) (rn_move E rfl rfl) ?_; clear E a; intro a E
        refine wpList_nil ?_
        refine then_normal ?_
        have hx : (takenTo y i ++ (lf.take (j + 1)).map fun x => (⟨(i : Int), x⟩ : Pl)).flatMap Pl.lay = (takenTo y i ++ (lf.take j).map fun x => (⟨(i : Int), x⟩ : Pl)).flatMap Pl.lay ++ Pl.lay ⟨(i : Int), lf[j]⟩ := by
          rw [take_succ_at lf hjl, List.map_append, ← List.append_assoc, List.flatMap_append, List.map_cons, List.map_nil, List.flatMap_cons, List.flatMap_nil, List.append_nil]
        exact ⟨_, by omega, j + 1, _, C52, rfl, by omega, by rw [hx]; exact hB52, ⟨Xs, (S.front4 (A := [(b51, _)]) (B := [(b10, _)]) (C := C52) (D := C2) (by repeat (first | exact pk1 | apply pick_tail)) (by repeat (first | exact pk1 | apply pick_tail)) (by repeat (first | exact pk1 | apply pick_tail)) (by repeat (first | exact pk1 | apply pick_tail))).tail2⟩, E.keep (keep_cons rfl (keep_cons rfl (keep_cons rfl (keep_cons rfl (keep_cons rfl (keep_cons rfl (keep_cons rfl (keep_cons rfl (keep_cons rfl keep_nil)))))))))⟩
      · replace hb := Nrm.nrm hb
        refine wp_exit ?_
        refine then_exit ?_; clear hK; clear K
        refine then_exit ?_
        refine in_exit ?_
        refine in_normal ?_
        refine then_k hK ?_; clear hK; clear K
        refine region_list ?_
        refine list_pure E rfl rfl (by decide) (rn_add E rfl rfl rfl (by first | exact wa_lit (y := 1) (by omega) | exact w_in (by omega) | exact w_inu (by omega) | exact rfl)) ?_; clear E a; intro a E
        refine list_pure E rfl rfl (by decide) (rn_move E rfl rfl) ?_; clear E a; intro a E
        refine wpList_nil ?_
        refine then_normal ?_
        obtain rfl : j = lf.length := by omega
        rw [List.take_length] at hD
        exact ⟨_, by omega, i + 1, v3, D, rfl, by omega, by rw [hts, List.length_append, List.length_map]; exact hD, ⟨Xs, (S.front2 (A := C2) (B := D) (by repeat (first | exact pk1 | apply pick_tail)) (by repeat (first | exact pk1 | apply pick_tail))).tail⟩, E.keep (keep_cons rfl (keep_cons rfl (keep_cons rfl (keep_cons rfl (keep_cons rfl keep_nil)))))⟩
  · replace hb := Nrm.nrm hb
    refine wp_exit ?_
    refine then_exit ?_; clear hK; clear K
    refine then_exit ?_
    refine in_exit ?_
    refine then_k hK ?_; clear hK; clear K
    refine wp_seq_k ?_; intro K hK
    refine region_list ?_
    refine list_pure E rfl rfl (by decide) (rn_move E rfl rfl) ?_; clear E a; intro a E
    refine list_pure E rfl rfl (by decide) (rn_assign E rfl rfl) ?_; clear E a; intro a E
    refine wpList_nil ?_
    refine then_k hK ?_; clear hK; clear K
    refine wp_ret ?_
    refine ret1 E rfl rfl ?_
    obtain rfl : i = y.sizes.length := by omega
    exact ⟨_, rfl, D, hD, ((St.cls [_] (Ms := V.chs p) S).only (Bs := [_, _]) (sel_cons (by repeat (first | exact pk1 | apply pick_tail)) (sel_cons (by repeat (first | exact pk1 | apply pick_tail)) (sel_nil _)))).tr⟩
end Go.Proofs.Ytenhebjhoicpjaa
