/-
  The document's disks: flushed, failed, replaced; the power comes back.
-/
import Derived.Test.YtpppaohhnlgfoaaDocS
namespace Go.Sl
theorem set_self {α : Type} {l : List α} {n : Nat} {x : α} (h : l[n]? = some x) : l.set n x = l := by
  obtain ⟨A, B, rfl, rfl⟩ := get_split h
  rw [set_mid]
end Go.Sl
namespace Go.Proofs.Ytpppaohhnlgfoaa
open Go.Sl
set_option maxRecDepth 10000
theorem dd_swap {J : Chunk} {ds : List Dk} {A B : List Dd} {y y' : Dd} {x' : Dk} (h : All2 (DdOk J) ds (A ++ y :: B)) (h' : DdOk J x' y') : All2 (DdOk J) (ds.set A.length x') (A ++ y' :: B) := by
  rw [← set_mid (a := y) (b := y')]; exact h.set _ h'

theorem qflush_ret (q : Nat) (R : Rk) (C : Chunk) (hC : RfC q R C) (hok : DkOk R.ds) (hwo : WtOk R.ws R.ds) (hnow : NowOk R) (hwsl : R.ws.length ≤ 244335861110) (n : Nat) (x : Dk) (hx : R.ds[n]? = some x) (w0 : World) (H : Hp w0 [C]) :
    Ret Try.prog 35 #[ptr q, .int .i64 n] w0 fun u w' => u = .int .i64 (flE R.pw x.failed) ∧ ∃ C', RfC q (R.flush x) C' ∧ Trs w0 w' [C] [C'] := by
  obtain ⟨vd, vw, Cd, Cw, J, ys, us, h1, h2, h3, h4, rfl⟩ := hC
  have S := rf_open (St.begin H)
  obtain ⟨y, hy, hyo⟩ := h3.at hx
  have hxm : x ∈ R.ds := List.mem_of_getElem? hx
  have hnw := (hnow x hxm).1
  have hnwl := (hok.2 x hxm).1
  have hyy := hyo
  obtain ⟨y1, y2, y3, y4⟩ := hyo
  obtain ⟨A, B, rfl, hAl⟩ := get_split hy
  have S := rf_out S
  obtain ⟨s, ws, ds⟩ := R
  simp only at h3 h4 hok hwo hx hxm hnw hwsl
  obtain ⟨C0, hC0⟩ : ∃ C0, C0 = (RfL q s vd vw Cd Cw J (A ++ y :: B)).flatten := ⟨_, rfl⟩
  have S : St w0 [C0] w0 ([(q, qcl s vd vw)] :: Cd :: Cw :: J :: dd1 y :: y.C :: (dch (A ++ B) ++ [])) := by rw [hC0]; exact S
  show Ret _ _ _ _ fun u w' => u = .int .i64 (flE s x.failed) ∧ ∃ C', RfC q (Rk.flush ⟨s, ws, ds⟩ x) C' ∧ Trs w0 w' [(RfL q s vd vw Cd Cw J (A ++ y :: B)).flatten] [C']
  rw [← hC0]
  refine enter2 15 Try.func35 rfl rfl (by decide) ?_; intro a E
  refine wp_seq_k ?_; intro K hK
  refine region_list ?_
  refine list_pure E rfl rfl (by decide) (rn_assign E rfl rfl) ?_; clear E a; intro a E
  refine wpList_nil ?_
  refine then_k hK ?_; clear hK; clear K
  refine wp_seq_k ?_; intro K hK
  refine region_list ?_
  refine list_pure E rfl rfl (by decide) (rn_move E rfl rfl) ?_; clear E a; intro a E
  refine list_pure E rfl rfl (by decide) (rn_move E rfl rfl) ?_; clear E a; intro a E
  refine list_call E rfl rfl (by decide) rfl Try.func45 rfl (by kernel_rfl) rfl (qdown_ret q s _ _ Cd _ h1 n y hy _ (S.hp.sel (sel_cons (by repeat (first | exact pk1 | apply pick_tail)) (sel_cons (by repeat (first | exact pk1 | apply pick_tail)) (sel_cons (by repeat (first | exact pk1 | apply pick_tail)) (sel_nil _)))))) ?_
  rintro v8 w ⟨rfl, hT⟩; clear E a; intro a E
  have S := (S.call3 (sel_cons (by repeat (first | exact pk1 | apply pick_tail)) (sel_cons (by repeat (first | exact pk1 | apply pick_tail)) (sel_cons (by repeat (first | exact pk1 | apply pick_tail)) (sel_nil _)))) hT).front6 (A := [(q, _)]) (by repeat (first | exact pk1 | apply pick_tail)) (B := Cd) (by repeat (first | exact pk1 | apply pick_tail)) (C := Cw) (by repeat (first | exact pk1 | apply pick_tail)) (D := J) (by repeat (first | exact pk1 | apply pick_tail)) (F := dd1 y) (by repeat (first | exact pk1 | apply pick_tail)) (G := y.C) (by repeat (first | exact pk1 | apply pick_tail)); rw [y1] at E
  refine list_pure E rfl rfl (by decide) (rn_assign E rfl rfl) ?_; clear E a; intro a E
  refine wpList_nil ?_
  refine then_k hK ?_; clear hK; clear K
  refine wp_seq_k ?_; intro K hK
  refine wp_seq_k ?_; intro K hK
  refine region_list ?_
  refine list_pure E rfl rfl (by decide) (rn_move E rfl rfl) ?_; clear E a; intro a E
  refine list_pure E rfl rfl (by decide) (by first | exact rn_eql E rfl rfl rfl | exact rn_eql_ptr_nil E rfl rfl rfl rfl | exact rn_eql_bool E rfl rfl rfl rfl | exact rn_eql_string E rfl rfl rfl) ?_; clear E a; intro a E
  refine wpList_nil ?_
  refine then_k hK ?_; clear hK; clear K
  refine if_bool E rfl (fun hb => ?_) (fun hb => ?_)
  · replace hb := Nrm.nrm hb
    refine region_list ?_
    refine list_pure E rfl rfl (by decide) (rn_move E rfl rfl) ?_; clear E a; intro a E
    refine list_pure E rfl rfl (by decide) (rn_move E rfl rfl) ?_; clear E a; intro a E
    have S := S.front5 (A := [(q, _)]) (by repeat (first | exact pk1 | apply pick_tail)) (B := Cd) (by repeat (first | exact pk1 | apply pick_tail)) (C := Cw) (by repeat (first | exact pk1 | apply pick_tail)) (D := dd1 y) (by repeat (first | exact pk1 | apply pick_tail)) (F := y.C) (by repeat (first | exact pk1 | apply pick_tail))
    refine list_call E rfl rfl (by decide) rfl Try.func46 rfl (by kernel_rfl) rfl (qwithout_ret q s vd vw Cd Cw J ds ws _ us h1 h2 h3 h4 hok hwo hwsl n x hx y hy true _ _ S.hp) ?_
    rintro v13 w ⟨vw', Cw', us', vs', C', hB, hW, hC', hvl, hvs, hT⟩; clear E a; intro a E
    have S := S.all hT
    rw [if_pos rfl, ← hnw] at hvs
    refine wpList_nil ?_
    refine then_k hK ?_; clear hK; clear K
    refine wp_seq_k ?_; intro K hK
    refine region_list ?_
    refine list_pure E rfl rfl (by decide) (rn_move E rfl rfl) ?_; clear E a; intro a E
    refine list_pure E rfl rfl (by decide) (rn_assign E rfl rfl) ?_; clear E a; intro a E
    refine wpList_nil ?_
    refine then_k hK ?_; clear hK; clear K
    refine wp_ret ?_
    refine ret1 E rfl rfl ?_
    have hne : flE s x.failed ≠ 0 ∨ flE s x.failed = 0 := by omega
    first
    | (have hfl : flE s x.failed = 0 := hb
       have hset : setD ds x.d (fun y => { y with pl := x.now }) = ds.set n { x with pl := x.now } := setD_set _ hok.1 hx
       have S := S.front6 (A := [(q, qcl s vd vw')]) (by repeat (first | exact pk1 | apply pick_tail)) (B := Cd) (by repeat (first | exact pk1 | apply pick_tail)) (C := Cw') (by repeat (first | exact pk1 | apply pick_tail)) (D := J) (by repeat (first | exact pk1 | apply pick_tail)) (F := dd1 y) (by repeat (first | exact pk1 | apply pick_tail)) (G := C') (by repeat (first | exact pk1 | apply pick_tail))
       have S := rf_close (Ls := []) (rf_in (y := { y with C := C', vs := vs' }) S)
       have hdd : DdOk J { x with pl := x.now } { y with C := C', vs := vs' } := ⟨y1, hC', by show 128 * vs'.length = x.now.length; omega, hvs⟩
       have hsw := dd_swap h3 hdd
       rw [hAl] at hsw
       refine ⟨_, rfl, rfl, _, ⟨vd, vw', Cd, Cw', J, _, us', ?_, hB, ?_, ?_, rfl⟩, S.tr⟩
       · simpa using h1
       · simp only [Rk.flush, flP, hfl, if_true]; rw [hset]; exact hsw
       · simp only [Rk.flush, flP, flW, hfl, if_true]; exact dw_set hW _ _ fun _ => rfl)
    | (have hfl : flE s x.failed ≠ 0 := hb
       have hset : setD ds x.d (fun y => { y with pl := x.pl }) = ds := by rw [setD_set _ hok.1 hx]; exact set_self hx
       refine ⟨_, rfl, rfl, C0, ⟨vd, vw, Cd, Cw, J, _, us, h1, h2, ?_, ?_, hC0⟩, by rw [hC0]; rw [hC0] at S; exact (rf_close (Ls := []) (rf_in S)).tr⟩
       · simp only [Rk.flush, flP, if_neg hfl]; rw [hset]; exact h3
       · simp only [Rk.flush, flP, flW, if_neg hfl]; rw [hset]; exact h4)
  · replace hb := Nrm.nrm hb
    refine wp_skip ?_
    refine then_k hK ?_; clear hK; clear K
    refine wp_seq_k ?_; intro K hK
    refine region_list ?_
    refine list_pure E rfl rfl (by decide) (rn_move E rfl rfl) ?_; clear E a; intro a E
    refine list_pure E rfl rfl (by decide) (rn_assign E rfl rfl) ?_; clear E a; intro a E
    refine wpList_nil ?_
    refine then_k hK ?_; clear hK; clear K
    refine wp_ret ?_
    refine ret1 E rfl rfl ?_
    have hne : flE s x.failed ≠ 0 ∨ flE s x.failed = 0 := by omega
    first
    | (have hfl : flE s x.failed = 0 := hb
       have hset : setD ds x.d (fun y => { y with pl := x.now }) = ds.set n { x with pl := x.now } := setD_set _ hok.1 hx
       have S := S.front6 (A := [(q, qcl s vd vw')]) (by repeat (first | exact pk1 | apply pick_tail)) (B := Cd) (by repeat (first | exact pk1 | apply pick_tail)) (C := Cw') (by repeat (first | exact pk1 | apply pick_tail)) (D := J) (by repeat (first | exact pk1 | apply pick_tail)) (F := dd1 y) (by repeat (first | exact pk1 | apply pick_tail)) (G := C') (by repeat (first | exact pk1 | apply pick_tail))
       have S := rf_close (Ls := []) (rf_in (y := { y with C := C', vs := vs' }) S)
       have hdd : DdOk J { x with pl := x.now } { y with C := C', vs := vs' } := ⟨y1, hC', by show 128 * vs'.length = x.now.length; omega, hvs⟩
       have hsw := dd_swap h3 hdd
       rw [hAl] at hsw
       refine ⟨_, rfl, rfl, _, ⟨vd, vw', Cd, Cw', J, _, us', ?_, hB, ?_, ?_, rfl⟩, S.tr⟩
       · simpa using h1
       · simp only [Rk.flush, flP, hfl, if_true]; rw [hset]; exact hsw
       · simp only [Rk.flush, flP, flW, hfl, if_true]; exact dw_set hW _ _ fun _ => rfl)
    | (have hfl : flE s x.failed ≠ 0 := hb
       have hset : setD ds x.d (fun y => { y with pl := x.pl }) = ds := by rw [setD_set _ hok.1 hx]; exact set_self hx
       refine ⟨_, rfl, rfl, C0, ⟨vd, vw, Cd, Cw, J, _, us, h1, h2, ?_, ?_, hC0⟩, by rw [hC0]; rw [hC0] at S; exact (rf_close (Ls := []) (rf_in S)).tr⟩
       · simp only [Rk.flush, flP, if_neg hfl]; rw [hset]; exact h3
       · simp only [Rk.flush, flP, flW, if_neg hfl]; rw [hset]; exact h4)

theorem qfail_ret (q : Nat) (R : Rk) (C : Chunk) (hC : RfC q R C) (hok : DkOk R.ds) (hwo : WtOk R.ws R.ds) (hwsl : R.ws.length ≤ 244335861110) (n : Nat) (x : Dk) (hx : R.ds[n]? = some x) (w0 : World) (H : Hp w0 [C]) :
    Ret Try.prog 36 #[ptr q, .int .i64 n] w0 fun _ w' => ∃ C', RfC q (R.fail x) C' ∧ Trs w0 w' [C] [C'] := by
  obtain ⟨vd, vw, Cd, Cw, J, ys, us, h1, h2, h3, h4, rfl⟩ := hC
  have S := rf_open (St.begin H)
  obtain ⟨y, hy, hyo⟩ := h3.at hx
  have hxm : x ∈ R.ds := List.mem_of_getElem? hx
  obtain ⟨y1, y2, y3, y4⟩ := hyo
  obtain ⟨A, B, rfl, hAl⟩ := get_split hy
  have S := rf_out S
  obtain ⟨s, ws, ds⟩ := R
  simp only at h3 h4 hok hwo hx hxm hwsl
  have hpt : ((A ++ y :: B).map fun y => ptr y.b)[n]? = some (ptr y.b) := by rw [List.getElem?_map, hy]; rfl
  have hnl : n < (A ++ y :: B).length := by simp; omega
  obtain ⟨add, cd, rfl⟩ := h1.slice
  obtain ⟨gd, rfl⟩ := h1.addr (by simp; omega)
  refine enter2 16 Try.func36 rfl rfl (by decide) ?_; intro a E
  refine wp_seq_k ?_; intro K hK
  refine region_list ?_
  refine list_pure E rfl rfl (by decide) (rn_move E rfl rfl) ?_; clear E a; intro a E
  refine list_pure E rfl rfl (by decide) (rn_move E rfl rfl) ?_; clear E a; intro a E
  have S := S.front5 (A := [(q, _)]) (by repeat (first | exact pk1 | apply pick_tail)) (B := Cd) (by repeat (first | exact pk1 | apply pick_tail)) (C := Cw) (by repeat (first | exact pk1 | apply pick_tail)) (D := dd1 y) (by repeat (first | exact pk1 | apply pick_tail)) (F := y.C) (by repeat (first | exact pk1 | apply pick_tail))
  refine list_call E rfl rfl (by decide) rfl Try.func46 rfl (by kernel_rfl) rfl (qwithout_ret q s _ vw Cd Cw J ds ws _ us h1 h2 h3 h4 hok hwo hwsl n x hx y hy false _ _ S.hp) ?_
  rintro v6 w ⟨vw', Cw', us', vs', C', hB, hW, hC', hvl, hvs, hT⟩; clear E a; intro a E
  have S := S.all hT
  refine wpList_nil ?_
  refine then_k hK ?_; clear hK; clear K
  refine region_list ?_
  refine list_pure E rfl rfl (by decide) (rn_move E rfl rfl) ?_; clear E a; intro a E
  refine list_pure E rfl rfl (by decide) (rn_nilCheck E rfl rfl) ?_; clear E a; intro a E
  refine list_pure E rfl rfl (by decide) (by first | exact rn_fieldAddr0 (q := 0) E rfl rfl rfl | exact rn_fieldAddr (q := 0) E rfl rfl rfl) ?_; clear E a; intro a E
  refine list_pure E rfl rfl (by decide) (by first | exact rn_load E rfl rfl rfl (S.get (by repeat (first | exact pk1 | apply pick_tail))) rfl | exact rn_loadc E rfl rfl rfl (by assumption)) ?_; clear E a; intro a E
  refine list_pure E rfl rfl (by decide) (rn_move E rfl rfl) ?_; clear E a; intro a E
  refine list_pure E rfl rfl (by decide) (rn_indexAddr1 (i := n) E rfl rfl rfl rfl rfl rfl (by omega)) ?_; clear E a; intro a E
  refine list_pure E rfl rfl (by decide) (rn_loadc E rfl rfl rfl (h1.rd.cells (S.stab.at (by repeat (first | exact mm1 | assumption | apply List.Mem.tail))) rfl n _ hpt)) ?_; clear E a; intro a E
  refine list_pure E rfl rfl (by decide) (rn_nilCheck E rfl rfl) ?_; clear E a; intro a E
  refine list_pure E rfl rfl (by decide) (by first | exact rn_fieldAddr0 (q := 1) E rfl rfl rfl | exact rn_fieldAddr (q := 1) E rfl rfl rfl) ?_; clear E a; intro a E
  refine list_wp rfl (wp_store1 E S rfl rfl rfl rfl rfl rfl (by repeat (first | exact pk1 | apply pick_tail)) (by first | exact Nat.le_of_ble_eq_true rfl | (simp; done) | (simp; omega)) ?_); clear E S a; intro a w E S; try dsimp only [List.set] at S
  refine wpList_nil ?_
  refine end0 E rfl ?_
  have hset : setD ds x.d (fun y => { y with now := x.pl, failed := true }) = ds.set n { x with now := x.pl, failed := true } := setD_set _ hok.1 hx
  have S := S.front6 (A := [(q, qcl s (.slice (some ⟨gd, 0, none⟩) (A ++ y :: B).length cd) vw')]) (by repeat (first | exact pk1 | apply pick_tail)) (B := Cd) (by repeat (first | exact pk1 | apply pick_tail)) (C := Cw') (by repeat (first | exact pk1 | apply pick_tail)) (D := J) (by repeat (first | exact pk1 | apply pick_tail)) (F := [(y.b, _)]) (by repeat (first | exact pk1 | apply pick_tail)) (G := C') (by repeat (first | exact pk1 | apply pick_tail))
  have S := rf_close (Ls := []) (rf_in (y := { y with C := C', vs := vs', f := true }) S)
  have hdd : DdOk J { x with now := x.pl, failed := true } { y with C := C', vs := vs', f := true } := ⟨rfl, hC', by show 128 * vs'.length = x.pl.length; omega, hvs⟩
  have hsw := dd_swap h3 hdd
  rw [hAl] at hsw
  refine ⟨_, rfl, _, ⟨_, vw', Cd, Cw', J, _, us', ?_, hB, ?_, ?_, rfl⟩, S.tr⟩
  · simpa using h1
  · simp only [Rk.fail]; rw [hset]; exact hsw
  · simp only [Rk.fail]; exact dw_set hW _ _ fun _ => rfl

theorem qreplace_ret (q : Nat) (R : Rk) (C : Chunk) (hC : RfC q R C) (hok : DkOk R.ds) (hwo : WtOk R.ws R.ds) (hwsl : R.ws.length ≤ 244335861110) (n : Nat) (x : Dk) (hx : R.ds[n]? = some x) (w0 : World) (H : Hp w0 [C]) :
    Ret Try.prog 37 #[ptr q, .int .i64 n] w0 fun _ w' => ∃ C', RfC q (R.replace x) C' ∧ Trs w0 w' [C] [C'] := by
  obtain ⟨vd, vw, Cd, Cw, J, ys, us, h1, h2, h3, h4, rfl⟩ := hC
  have S := rf_open (St.begin H)
  obtain ⟨y, hy, hyo⟩ := h3.at hx
  have hxm : x ∈ R.ds := List.mem_of_getElem? hx
  have hxl := (hok.2 x hxm).2
  obtain ⟨y1, y2, y3, y4⟩ := hyo
  obtain ⟨A, B, rfl, hAl⟩ := get_split hy
  have S := rf_out S
  obtain ⟨s, ws, ds⟩ := R
  simp only at h3 h4 hok hwo hx hxm hwsl
  have hpt : ((A ++ y :: B).map fun y => ptr y.b)[n]? = some (ptr y.b) := by rw [List.getElem?_map, hy]; rfl
  have hnl : n < (A ++ y :: B).length := by simp; omega
  obtain ⟨add, cd, rfl⟩ := h1.slice
  obtain ⟨gd, rfl⟩ := h1.addr (by simp; omega)
  obtain ⟨adp, cp, hvp⟩ := y2.slice
  have hdd1 : ∀ f, dd1 { y with f := f } = [(y.b, cel [.slice adp y.vs.length cp, .bool f] 80)] := fun f => by show [(y.b, cel [y.vp, .bool f] _)] = _; rw [hvp]
  have hzs : ∀ i, i < y.vs.length → secB (List.replicate x.pl.length 0) i = List.replicate 128 0 := fun i hi => by
    rw [secB, List.drop_replicate, List.take_replicate]; congr 1; omega
  refine enter2 45 Try.func37 rfl rfl (by decide) ?_; intro a E
  refine wp_seq_k ?_; intro K hK
  refine region_list ?_
  refine list_pure E rfl rfl (by decide) (rn_move E rfl rfl) ?_; clear E a; intro a E
  refine list_pure E rfl rfl (by decide) (rn_move E rfl rfl) ?_; clear E a; intro a E
  have S := S.front5 (A := [(q, _)]) (by repeat (first | exact pk1 | apply pick_tail)) (B := Cd) (by repeat (first | exact pk1 | apply pick_tail)) (C := Cw) (by repeat (first | exact pk1 | apply pick_tail)) (D := dd1 y) (by repeat (first | exact pk1 | apply pick_tail)) (F := y.C) (by repeat (first | exact pk1 | apply pick_tail))
  refine list_call E rfl rfl (by decide) rfl Try.func46 rfl (by kernel_rfl) rfl (qwithout_ret q s _ vw Cd Cw J ds ws _ us h1 h2 h3 h4 hok hwo hwsl n x hx y hy false _ _ S.hp) ?_
  rintro v7 w ⟨vw', Cw', us', vs', C', hB, hW, hC', hvl, hvs, hT⟩; clear E a; intro a E
  have S := S.all hT
  refine wpList_nil ?_
  refine then_k hK ?_; clear hK; clear K
  refine wp_seq_k ?_; intro K hK
  refine region_list ?_
  refine list_pure E rfl rfl (by decide) (rn_move E rfl rfl) ?_; clear E a; intro a E
  refine list_pure E rfl rfl (by decide) (rn_nilCheck E rfl rfl) ?_; clear E a; intro a E
  refine list_pure E rfl rfl (by decide) (by first | exact rn_fieldAddr0 (q := 0) E rfl rfl rfl | exact rn_fieldAddr (q := 0) E rfl rfl rfl) ?_; clear E a; intro a E
  refine list_pure E rfl rfl (by decide) (by first | exact rn_load E rfl rfl rfl (S.get (by repeat (first | exact pk1 | apply pick_tail))) rfl | exact rn_loadc E rfl rfl rfl (by assumption)) ?_; clear E a; intro a E
  refine list_pure E rfl rfl (by decide) (rn_move E rfl rfl) ?_; clear E a; intro a E
  refine list_pure E rfl rfl (by decide) (rn_indexAddr1 (i := n) E rfl rfl rfl rfl rfl rfl (by omega)) ?_; clear E a; intro a E
  refine list_pure E rfl rfl (by decide) (rn_loadc E rfl rfl rfl (h1.rd.cells (S.stab.at (by repeat (first | exact mm1 | assumption | apply List.Mem.tail))) rfl n _ hpt)) ?_; clear E a; intro a E
  refine list_pure E rfl rfl (by decide) (rn_nilCheck E rfl rfl) ?_; clear E a; intro a E
  refine list_pure E rfl rfl (by decide) (by first | exact rn_fieldAddr0 (q := 1) E rfl rfl rfl | exact rn_fieldAddr (q := 1) E rfl rfl rfl) ?_; clear E a; intro a E
  refine list_wp rfl (wp_store1 E S rfl rfl rfl rfl rfl rfl (by repeat (first | exact pk1 | apply pick_tail)) (by first | exact Nat.le_of_ble_eq_true rfl | (simp; done) | (simp; omega)) ?_); clear E S a; intro a w E S; try dsimp only [List.set] at S
  refine wpList_nil ?_
  refine then_k hK ?_; clear hK; clear K
  refine wp_seq_k ?_; intro K hK
  obtain ⟨C0, hC0⟩ : ∃ C0, C0 = (RfL q s (.slice (some ⟨gd, 0, none⟩) (A ++ y :: B).length cd) vw Cd Cw J (A ++ y :: B)).flatten := ⟨_, rfl⟩
  rw [← hC0] at S
  rw [hvp] at S hC'
  rw [hvl] at hC'
  have S := S.front6 (A := [(q, _)]) (by repeat (first | exact pk1 | apply pick_tail)) (B := Cd) (by repeat (first | exact pk1 | apply pick_tail)) (C := Cw') (by repeat (first | exact pk1 | apply pick_tail)) (D := J) (by repeat (first | exact pk1 | apply pick_tail)) (F := [(y.b, _)]) (by repeat (first | exact pk1 | apply pick_tail)) (G := C') (by repeat (first | exact pk1 | apply pick_tail))
  refine region_list ?_
  refine list_pure E rfl rfl (by decide) (rn_assign E rfl rfl) ?_; clear E a; intro a E
  refine wpList_nil ?_
  refine then_k hK ?_; clear hK; clear K
  refine wp_block ?_
  refine wp_loop_ghost (fun (m : Nat) (a : Act) (w' : World) => ∃ (i : Nat) (vs2 : List Value) (C2 J2 : Chunk), m = y.vs.length - i ∧ i ≤ y.vs.length ∧ Buf C2 32 1 (.slice adp y.vs.length cp) y.vs.length vs2 ∧ vs2.length = y.vs.length ∧ (∀ c ∈ J, c ∈ J2) ∧ (∀ j v, j < i → vs2[j]? = some v → Rd J2 1 v 128 (byt (List.replicate 128 0))) ∧
   St w0 [C0] w' ([(q, qcl s (.slice (some ⟨gd, 0, none⟩) (A ++ y :: B).length cd) vw')] :: Cd :: Cw' :: J2 :: [(y.b, cel [.slice adp y.vs.length cp, .bool false] 80)] :: C2 :: (dch (A ++ B) ++ [])) ∧ Fr a 45 [(0, ptr q), (1, .int .i64 n), (4, .int .i64 i)]) (y.vs.length - 0) ?_ ?_
  · exact ⟨0, vs', C', J, rfl, by omega, hC', hvl, fun c h => h, (fun j v hj => by omega), S, E.keep (keep_cons rfl (keep_cons rfl (keep_cons rfl keep_nil)))⟩
  clear E; clear a; (try clear S); rintro m a w ⟨i, vs2, C2, J2, rfl, hi, hC2, hvl2, hJ2, hvs2, S, E⟩
  refine wp_seq_k ?_; intro K hK
  refine wp_seq_k ?_; intro K hK
  refine region_list ?_
  refine list_pure E rfl rfl (by decide) (rn_move E rfl rfl) ?_; clear E a; intro a E
  refine list_pure E rfl rfl (by decide) (rn_move E rfl rfl) ?_; clear E a; intro a E
  refine list_pure E rfl rfl (by decide) (rn_nilCheck E rfl rfl) ?_; clear E a; intro a E
  refine list_pure E rfl rfl (by decide) (by first | exact rn_fieldAddr0 (q := 0) E rfl rfl rfl | exact rn_fieldAddr (q := 0) E rfl rfl rfl) ?_; clear E a; intro a E
  refine list_pure E rfl rfl (by decide) (by first | exact rn_load E rfl rfl rfl (S.get (by repeat (first | exact pk1 | apply pick_tail))) rfl | exact rn_loadc E rfl rfl rfl (by assumption)) ?_; clear E a; intro a E
  refine list_pure E rfl rfl (by decide) (rn_move E rfl rfl) ?_; clear E a; intro a E
  refine list_pure E rfl rfl (by decide) (rn_indexAddr1 (i := n) E rfl rfl rfl rfl rfl rfl (by omega)) ?_; clear E a; intro a E
  refine list_pure E rfl rfl (by decide) (rn_loadc E rfl rfl rfl (h1.rd.cells (S.stab.at (by repeat (first | exact mm1 | assumption | apply List.Mem.tail))) rfl n _ hpt)) ?_; clear E a; intro a E
  refine list_pure E rfl rfl (by decide) (rn_nilCheck E rfl rfl) ?_; clear E a; intro a E
  refine list_pure E rfl rfl (by decide) (by first | exact rn_fieldAddr0 (q := 0) E rfl rfl rfl | exact rn_fieldAddr (q := 0) E rfl rfl rfl) ?_; clear E a; intro a E
  refine list_pure E rfl rfl (by decide) (by first | exact rn_load E rfl rfl rfl (S.get (by repeat (first | exact pk1 | apply pick_tail))) rfl | exact rn_loadc E rfl rfl rfl (by assumption)) ?_; clear E a; intro a E
  refine list_pure E rfl rfl (by decide) (by first | exact rn_len E rfl rfl rfl | exact rn_len_str E rfl rfl rfl | exact rn_len_string E rfl rfl rfl) ?_; clear E a; intro a E
  refine list_pure E rfl rfl (by decide) (rn_lss E rfl rfl rfl) ?_; clear E a; intro a E
  refine wpList_nil ?_
  refine then_k hK ?_; clear hK; clear K
  refine if_bool E rfl (fun hb => ?_) (fun hb => ?_)
  · replace hb := Nrm.nrm hb
    refine wp_skip ?_
    refine then_k hK ?_; clear hK; clear K
    refine wp_seq_k ?_; intro K hK
    refine wp_block ?_
    have hil : i < y.vs.length := by omega
    obtain ⟨gp, rfl⟩ := hC2.addr (by omega)
    obtain ⟨yc, hyc⟩ : ∃ yc : Chunk, yc = [(y.b, cel [.slice (some ⟨gp, 0, none⟩) y.vs.length cp, .bool false] 80)] := ⟨_, rfl⟩
    refine region_mix0 S (.ofL [(0, 0), (1, 0), (2, 0), (3, 0), (4, 0), (5, 0), (6, 0), (7, 0), (8, 0), (9, 0), (10, 0), (11, 1), (12, 0), (13, 3)]) (by kernel_rfl) (by kernel_rfl) ?_
    clear S; intro w S
    refine mix_pure E rfl rfl rfl (by decide) (fun w h => rn_move E rfl rfl) ?_; clear E a; intro a E
    refine mix_pure E rfl rfl rfl (by decide) (fun w h => rn_nilCheck E rfl rfl) ?_; clear E a; intro a E
    refine mix_pure E rfl rfl rfl (by decide) (fun w h => by first | exact rn_fieldAddr0 (q := 0) E rfl rfl rfl | exact rn_fieldAddr (q := 0) E rfl rfl rfl) ?_; clear E a; intro a E
    refine mix_pure E rfl rfl rfl (by decide) (fun w h => by first | exact rn_load E rfl rfl rfl (h.one (by repeat (first | exact mm1 | assumption | apply List.Mem.tail))) rfl | exact rn_loadc E rfl rfl rfl (by assumption)) ?_; clear E a; intro a E
    refine mix_pure E rfl rfl rfl (by decide) (fun w h => rn_move E rfl rfl) ?_; clear E a; intro a E
    refine mix_pure E rfl rfl rfl (by decide) (fun w h => rn_indexAddr1 (i := n) E rfl rfl rfl rfl rfl rfl (by omega)) ?_; clear E a; intro a E
    refine mix_pure E rfl rfl rfl (by decide) (fun w h => rn_loadc E rfl rfl rfl (h1.rd.cells (h.at (by repeat (first | exact mm1 | assumption | apply List.Mem.tail))) rfl n _ hpt)) ?_; clear E a; intro a E
    refine mix_pure E rfl rfl rfl (by decide) (fun w h => rn_nilCheck E rfl rfl) ?_; clear E a; intro a E
    refine mix_pure E rfl rfl rfl (by decide) (fun w h => by first | exact rn_fieldAddr0 (q := 0) E rfl rfl rfl | exact rn_fieldAddr (q := 0) E rfl rfl rfl) ?_; clear E a; intro a E
    refine mix_pure E rfl rfl rfl (by decide) (fun w h => by first | exact rn_load E rfl rfl rfl (h.one (by repeat (first | exact mm1 | assumption | apply List.Mem.tail))) rfl | exact rn_loadc E rfl rfl rfl (by assumption)) ?_; clear E a; intro a E
    refine mix_pure E rfl rfl rfl (by decide) (fun w h => rn_move E rfl rfl) ?_; clear E a; intro a E
    refine mix_call E rfl rfl rfl (by decide) rfl Try.func43 rfl (by kernel_rfl) rfl (noughts_ret _) ?_
    rintro v43 w ⟨vz, Cz, rfl, hz, hT⟩; clear E a; intro a E
    have S := S.fresh hT; obtain ⟨adz, cz, rfl⟩ := hz.slice
    refine ⟨S.stab.sub (by first | (simp; done) | (simp +contextual; done)), ?_⟩
    refine mix_pure E rfl rfl rfl (by decide) (fun w h => rn_is00 (i := i) E rfl rfl rfl rfl rfl rfl (by omega)) ?_; clear E a; intro a E
    refine mix_last rfl rfl (wp_elem1 E S rfl rfl rfl rfl rfl rfl hC2 (by repeat (first | exact pk1 | apply pick_tail)) (i := i) (by omega) rfl ?_); clear E S a; intro a w Cs13 E hBs13 S
    refine mix_nil ?_
    refine in_normal ?_
    refine then_k hK ?_; clear hK; clear K
    refine region_list ?_
    refine list_pure E rfl rfl (by decide) (rn_move E rfl rfl) ?_; clear E a; intro a E
    refine list_pure E rfl rfl (by decide) (rn_add E rfl rfl rfl (by first | exact wa_lit (y := 1) (by omega) | exact w_in (by omega) | exact w_inu (by omega) | exact rfl)) ?_; clear E a; intro a E
    refine list_pure E rfl rfl (by decide) (rn_assign E rfl rfl) ?_; clear E a; intro a E
    refine wpList_nil ?_
    refine then_normal ?_
    have S := S.gather (A := Cz) (B := J2) (by repeat (first | exact pk1 | apply pick_tail)) (by repeat (first | exact pk1 | apply pick_tail))
    have S := S.front6 (A := [(q, qcl s (.slice (some ⟨gd, 0, none⟩) (A ++ y :: B).length cd) vw')]) (by repeat (first | exact pk1 | apply pick_tail)) (B := Cd) (by repeat (first | exact pk1 | apply pick_tail)) (C := Cw') (by repeat (first | exact pk1 | apply pick_tail)) (D := Cz ++ J2) (by repeat (first | exact pk1 | apply pick_tail)) (F := [(y.b, _)]) (by repeat (first | exact pk1 | apply pick_tail)) (G := Cs13) (by repeat (first | exact pk1 | apply pick_tail))
    refine ⟨_, by omega, i + 1, vs2.set i (.slice adz 128 cz), Cs13, Cz ++ J2, rfl, by omega, hBs13, by rw [List.length_set]; exact hvl2, fun c hc => List.mem_append_right _ (hJ2 c hc), ?_, S, E.keep (keep_cons rfl (keep_cons rfl (keep_cons rfl keep_nil)))⟩
    intro j v hj hv
    rw [List.getElem?_set] at hv
    split at hv
    · split at hv
      · cases hv; exact hz.rd.sub fun c hc => List.mem_append_left _ hc
      · cases hv
    · exact (hvs2 j v (by omega) hv).sub fun c hc => List.mem_append_right _ hc
  · replace hb := Nrm.nrm hb
    refine wp_exit ?_
    refine then_exit ?_; clear hK; clear K
    refine then_exit ?_
    refine in_exit ?_
    refine end0 E rfl ?_
    obtain rfl : i = y.vs.length := by omega
    have hset : setD ds x.d (fun y => { y with pl := List.replicate x.pl.length 0, now := List.replicate x.pl.length 0, failed := false }) = ds.set n { x with pl := List.replicate x.pl.length 0, now := List.replicate x.pl.length 0, failed := false } := setD_set _ hok.1 hx
    have S := S.front6 (A := [(q, qcl s (.slice (some ⟨gd, 0, none⟩) (A ++ y :: B).length cd) vw')]) (by repeat (first | exact pk1 | apply pick_tail)) (B := Cd) (by repeat (first | exact pk1 | apply pick_tail)) (C := Cw') (by repeat (first | exact pk1 | apply pick_tail)) (D := J2) (by repeat (first | exact pk1 | apply pick_tail)) (F := [(y.b, _)]) (by repeat (first | exact pk1 | apply pick_tail)) (G := C2) (by repeat (first | exact pk1 | apply pick_tail))
    have S := rf_close (Ls := []) (rf_in (y := ⟨y.b, .slice adp y.vs.length cp, C2, vs2, false⟩) S)
    have hdd : DdOk J2 { x with pl := List.replicate x.pl.length 0, now := List.replicate x.pl.length 0, failed := false } ⟨y.b, .slice adp y.vs.length cp, C2, vs2, false⟩ := by
      refine ⟨rfl, by show Buf C2 _ 1 _ vs2.length vs2; rw [hvl2]; exact hC2, by show 128 * vs2.length = (List.replicate x.pl.length (0 : UInt8)).length; rw [List.length_replicate]; omega, fun i v hv => ?_⟩
      have hi := (List.getElem?_eq_some_iff.1 hv).1
      rw [hzs i (by simp only at hi; omega)]; exact hvs2 i v (by simp only at hi; omega) hv
    have hsw := dd_swap (h3.imp fun _ _ h => h.sub hJ2) hdd
    rw [hAl] at hsw
    refine ⟨_, rfl, _, ⟨_, vw', Cd, Cw', J2, _, us', ?_, hB, ?_, ?_, rfl⟩, by rw [← hC0]; exact S.tr⟩
    · simpa using h1
    · simp only [Rk.replace]; rw [hset]; exact hsw
    · simp only [Rk.replace]; exact dw_set (hW.imp fun _ _ h => h.sub hJ2) _ _ fun _ => rfl
end Go.Proofs.Ytpppaohhnlgfoaa
