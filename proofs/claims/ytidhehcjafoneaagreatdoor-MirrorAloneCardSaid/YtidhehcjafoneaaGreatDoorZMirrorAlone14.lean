/-
  Texts put together (14).
-/
import Derived.Test.YtidhehcjafoneaaGreatDoorZMirrorAlone13
namespace Go.Sl
theorem set_self {α : Type} {l : List α} {n : Nat} {x : α} (h : l[n]? = some x) : l.set n x = l := by
  obtain ⟨A, B, rfl, rfl⟩ := zHh h
  rw [set_mid]
end Go.Sl
namespace Go.Proofs.YtidhehcjafoneaaGreatDoor
open Go.Sl
set_option maxRecDepth 10000
theorem dd_swap {J : zAs} {ds : List Dk} {A B : List Dd} {y y' : Dd} {x' : Dk} (h : All2 (DdOk J) ds (A ++ y :: B)) (h' : DdOk J x' y') : All2 (DdOk J) (ds.set A.length x') (A ++ y' :: B) := by
  rw [← set_mid (a := y) (b := y')]; exact h.set _ h'
theorem qflush_ret (q : Nat) (R : Rk) (C : zAs) (hC : RfC q R C) (hok : DkOk R.ds) (hwo : WtOk R.ws R.ds) (hnow : zKw R) (hwsl : R.ws.length ≤ 244335861110) (n : Nat) (x : Dk) (hx : R.ds[n]? = some x) (w0 : World) (H : Hp w0 [C]) :
    Ret Tryz.prog 64 #[ptr q, .int .i64 n] w0 fun u w' => u = .int .i64 (flE R.pw x.failed) ∧ ∃ C', RfC q (R.flush x) C' ∧ Trs w0 w' [C] [C'] := by
  obtain ⟨vd, vw, Cd, Cw, J, ys, us, h1, h2, h3, h4, rfl⟩ := hC
  have S := rf_open (St.begin H)
  obtain ⟨y, hy, hyo⟩ := h3.at hx
  have hxm : x ∈ R.ds := List.mem_of_getElem? hx
  have hnw := (hnow x hxm).1
  have hnwl := (hok.2 x hxm).1
  have hyy := hyo
  obtain ⟨y1, y2, y3, y4⟩ := hyo
  obtain ⟨A, B, rfl, hAl⟩ := zHh hy
  have S := rf_out S
  obtain ⟨s, ws, ds⟩ := R
  simp only at h3 h4 hok hwo hx hxm hnw hwsl
  obtain ⟨C0, hC0⟩ : ∃ C0, C0 = (RfL q s vd vw Cd Cw J (A ++ y :: B)).flatten := ⟨_, rfl⟩
  have S : St w0 [C0] w0 ([(q, qcl s vd vw)] :: Cd :: Cw :: J :: dd1 y :: y.C :: (dch (A ++ B) ++ [])) := by rw [hC0]; exact S
  show Ret _ _ _ _ fun u w' => u = .int .i64 (flE s x.failed) ∧ ∃ C', RfC q (Rk.flush ⟨s, ws, ds⟩ x) C' ∧ Trs w0 w' [(RfL q s vd vw Cd Cw J (A ++ y :: B)).flatten] [C']
  rw [← hC0]
  refine zCy 15 Tryz.func64 rfl rfl (by decide) ?_; intro a E
  refine wp_seq_k ?_; intro K hK
  refine zAc ?_
  refine zp E (zAg E rfl rfl) ?_; clear E a; intro a E
  refine wpList_nil ?_
  refine zAh hK ?_; clear hK; clear K
  refine wp_seq_k ?_; intro K hK
  refine zAc ?_
  iterate 2 (refine zp E (zAe E rfl rfl) ?_; clear E a; intro a E)
  refine zAr E rfl rfl (by decide) rfl Tryz.func83 rfl (by kernel_rfl) rfl (qdown_ret q s _ _ Cd _ h1 n y hy _ (S.hp.sel (zAd (by repeat (first | exact pk1 | apply zAa)) (zAd (by repeat (first | exact pk1 | apply zAa)) (zAd (by repeat (first | exact pk1 | apply zAa)) (zAk _)))))) ?_
  rintro v8 w ⟨rfl, hT⟩; clear E a; intro a E
  have S := (S.call3 (zAd (by repeat (first | exact pk1 | apply zAa)) (zAd (by repeat (first | exact pk1 | apply zAa)) (zAd (by repeat (first | exact pk1 | apply zAa)) (zAk _)))) hT).front6 (A := [(q, _)]) (by repeat (first | exact pk1 | apply zAa)) (B := Cd) (by repeat (first | exact pk1 | apply zAa)) (C := Cw) (by repeat (first | exact pk1 | apply zAa)) (D := J) (by repeat (first | exact pk1 | apply zAa)) (F := dd1 y) (by repeat (first | exact pk1 | apply zAa)) (G := y.C) (by repeat (first | exact pk1 | apply zAa)); rw [y1] at E
  refine zp E (zAg E rfl rfl) ?_; clear E a; intro a E
  refine wpList_nil ?_
  refine zAh hK ?_; clear hK; clear K
  iterate 2 (refine wp_seq_k ?_; intro K hK)
  refine zAc ?_
  refine zp E (zAe E rfl rfl) ?_; clear E a; intro a E
  refine zp E (by first | exact zCf E rfl rfl rfl | exact zAu E rfl rfl rfl rfl | exact zBc E rfl rfl rfl rfl | exact zAw E rfl rfl rfl) ?_; clear E a; intro a E
  refine wpList_nil ?_
  refine zAh hK ?_; clear hK; clear K
  refine zBl E rfl (fun hb => ?_) (fun hb => ?_)
  · replace hb := Nrm.nrm hb
    refine zAc ?_
    iterate 2 (refine zp E (zAe E rfl rfl) ?_; clear E a; intro a E)
    have S := S.front5 (A := [(q, _)]) (by repeat (first | exact pk1 | apply zAa)) (B := Cd) (by repeat (first | exact pk1 | apply zAa)) (C := Cw) (by repeat (first | exact pk1 | apply zAa)) (D := dd1 y) (by repeat (first | exact pk1 | apply zAa)) (F := y.C) (by repeat (first | exact pk1 | apply zAa))
    refine zAr E rfl rfl (by decide) rfl Tryz.func84 rfl (by kernel_rfl) rfl (qwithout_ret q s vd vw Cd Cw J ds ws _ us h1 h2 h3 h4 hok hwo hwsl n x hx y hy true _ _ S.hp) ?_
    rintro v13 w ⟨vw', Cw', us', vs', C', hB, hW, hC', hvl, hvs, hT⟩; clear E a; intro a E
    have S := S.all hT
    rw [if_pos rfl, ← hnw] at hvs
    refine wpList_nil ?_
    refine zAh hK ?_; clear hK; clear K
    refine wp_seq_k ?_; intro K hK
    refine zAc ?_
    refine zp E (zAe E rfl rfl) ?_; clear E a; intro a E
    refine zp E (zAg E rfl rfl) ?_; clear E a; intro a E
    refine wpList_nil ?_
    refine zAh hK ?_; clear hK; clear K
    refine wp_ret ?_
    refine ret1 E rfl rfl ?_
    have hne : flE s x.failed ≠ 0 ∨ flE s x.failed = 0 := by omega
    first
    | (have hfl : flE s x.failed = 0 := hb
       have hset : setD ds x.d (fun y => { y with pl := x.now }) = ds.set n { x with pl := x.now } := zJn _ hok.1 hx
       have S := S.front6 (A := [(q, qcl s vd vw')]) (by repeat (first | exact pk1 | apply zAa)) (B := Cd) (by repeat (first | exact pk1 | apply zAa)) (C := Cw') (by repeat (first | exact pk1 | apply zAa)) (D := J) (by repeat (first | exact pk1 | apply zAa)) (F := dd1 y) (by repeat (first | exact pk1 | apply zAa)) (G := C') (by repeat (first | exact pk1 | apply zAa))
       have S := zGq (Ls := []) (rf_in (y := { y with C := C', vs := vs' }) S)
       have hdd : DdOk J { x with pl := x.now } { y with C := C', vs := vs' } := ⟨y1, hC', by show 128 * vs'.length = x.now.length; omega, hvs⟩
       have hsw := dd_swap h3 hdd
       rw [hAl] at hsw
       refine ⟨_, rfl, rfl, _, ⟨vd, vw', Cd, Cw', J, _, us', ?_, hB, ?_, ?_, rfl⟩, S.tr⟩
       · simpa using h1
       · simp only [Rk.flush, flP, hfl, if_true]; rw [hset]; exact hsw
       · simp only [Rk.flush, flP, flW, hfl, if_true]; exact dw_set hW _ _ fun _ => rfl)
    | (have hfl : flE s x.failed ≠ 0 := hb
       have hset : setD ds x.d (fun y => { y with pl := x.pl }) = ds := by rw [zJn _ hok.1 hx]; exact set_self hx
       refine ⟨_, rfl, rfl, C0, ⟨vd, vw, Cd, Cw, J, _, us, h1, h2, ?_, ?_, hC0⟩, by rw [hC0]; rw [hC0] at S; exact (zGq (Ls := []) (rf_in S)).tr⟩
       · simp only [Rk.flush, flP, if_neg hfl]; rw [hset]; exact h3
       · simp only [Rk.flush, flP, flW, if_neg hfl]; rw [hset]; exact h4)
  · replace hb := Nrm.nrm hb
    refine wp_skip ?_
    refine zAh hK ?_; clear hK; clear K
    refine wp_seq_k ?_; intro K hK
    refine zAc ?_
    refine zp E (zAe E rfl rfl) ?_; clear E a; intro a E
    refine zp E (zAg E rfl rfl) ?_; clear E a; intro a E
    refine wpList_nil ?_
    refine zAh hK ?_; clear hK; clear K
    refine wp_ret ?_
    refine ret1 E rfl rfl ?_
    have hne : flE s x.failed ≠ 0 ∨ flE s x.failed = 0 := by omega
    first
    | (have hfl : flE s x.failed = 0 := hb
       have hset : setD ds x.d (fun y => { y with pl := x.now }) = ds.set n { x with pl := x.now } := zJn _ hok.1 hx
       have S := S.front6 (A := [(q, qcl s vd vw')]) (by repeat (first | exact pk1 | apply zAa)) (B := Cd) (by repeat (first | exact pk1 | apply zAa)) (C := Cw') (by repeat (first | exact pk1 | apply zAa)) (D := J) (by repeat (first | exact pk1 | apply zAa)) (F := dd1 y) (by repeat (first | exact pk1 | apply zAa)) (G := C') (by repeat (first | exact pk1 | apply zAa))
       have S := zGq (Ls := []) (rf_in (y := { y with C := C', vs := vs' }) S)
       have hdd : DdOk J { x with pl := x.now } { y with C := C', vs := vs' } := ⟨y1, hC', by show 128 * vs'.length = x.now.length; omega, hvs⟩
       have hsw := dd_swap h3 hdd
       rw [hAl] at hsw
       refine ⟨_, rfl, rfl, _, ⟨vd, vw', Cd, Cw', J, _, us', ?_, hB, ?_, ?_, rfl⟩, S.tr⟩
       · simpa using h1
       · simp only [Rk.flush, flP, hfl, if_true]; rw [hset]; exact hsw
       · simp only [Rk.flush, flP, flW, hfl, if_true]; exact dw_set hW _ _ fun _ => rfl)
    | (have hfl : flE s x.failed ≠ 0 := hb
       have hset : setD ds x.d (fun y => { y with pl := x.pl }) = ds := by rw [zJn _ hok.1 hx]; exact set_self hx
       refine ⟨_, rfl, rfl, C0, ⟨vd, vw, Cd, Cw, J, _, us, h1, h2, ?_, ?_, hC0⟩, by rw [hC0]; rw [hC0] at S; exact (zGq (Ls := []) (rf_in S)).tr⟩
       · simp only [Rk.flush, flP, if_neg hfl]; rw [hset]; exact h3
       · simp only [Rk.flush, flP, flW, if_neg hfl]; rw [hset]; exact h4)
end Go.Proofs.YtidhehcjafoneaaGreatDoor
namespace Go.Sl
theorem secB_zeros {n i : Nat} (h : 128 * i + 128 ≤ n) : secB (List.replicate n 0) i = List.replicate 128 0 := by
  rw [secB, List.drop_replicate, List.take_replicate]; congr 1; omega
end Go.Sl
namespace Go.Proofs.YtidhehcjafoneaaGreatDoor
open Go.Sl
set_option maxRecDepth 10000
theorem qadd_ret (q : Nat) (R : Rk) (C : zAs) (hC : RfC q R C) (hl : R.ds.length ≤ 1000) (n : Nat) (hn1 : 1 ≤ n) (hn2 : n ≤ 8192) (w0 : World) (H : Hp w0 [C]) :
    Ret Tryz.prog 27 #[ptr q, .int .i64 n] w0 fun u w' => ∃ C', u = .tuple #[.int .i64 R.ds.length, .int .i64 0] ∧ (∀ d gp gn, RfC q (R.add d gp gn n) C') ∧ Trs w0 w' [C] [C'] := by
  obtain ⟨vd, vw, Cd, Cw, J, ys, us, h1, h2, h3, h4, rfl⟩ := hC
  have S := rf_open (St.begin H)
  obtain ⟨s, ws, ds⟩ := R
  simp only at h3 h4 hl
  have hdl := h3.1
  obtain ⟨add, cd, rfl⟩ := h1.slice
  obtain ⟨C0, hC0⟩ : ∃ C0, C0 = (RfL q s (.slice add ys.length cd) vw Cd Cw J ys).flatten := ⟨_, rfl⟩
  have S : St w0 [C0] w0 ([(q, qcl s (.slice add ys.length cd) vw)] :: Cd :: Cw :: J :: (dch ys ++ [])) := by rw [hC0]; exact S
  show Ret _ _ _ _ fun u w' => ∃ C', u = .tuple #[.int .i64 ds.length, .int .i64 0] ∧ (∀ d gp gn, RfC q (Rk.add ⟨s, ws, ds⟩ d gp gn n) C') ∧ Trs w0 w' [(RfL q s (.slice add ys.length cd) vw Cd Cw J ys).flatten] [C']
  rw [← hC0]
  refine zCy 49 Tryz.func27 rfl rfl (by decide) ?_; intro a E
  refine wp_seq_k ?_; intro K hK
  refine zAc ?_
  iterate 2 (refine zp E (zAg E rfl rfl) ?_; clear E a; intro a E)
  refine wpList_nil ?_
  refine zAh hK ?_; clear hK; clear K
  iterate 2 (refine wp_seq_k ?_; intro K hK)
  refine zAc ?_
  refine zp E (zAe E rfl rfl) ?_; clear E a; intro a E
  refine zp E (zCb E rfl rfl rfl) ?_; clear E a; intro a E
  refine zp E (zAe E rfl rfl) ?_; clear E a; intro a E
  refine zCh E (t := 11) rfl ((decide_eq_false (by omega))) (fun hb11 => ?_)
  refine zy E hb11 (zAe E rfl rfl) ?_; clear E a; intro a E
  refine zy E hb11 (zDd E rfl rfl rfl) ?_; clear E a; intro a E
  refine zp E (zAq E rfl rfl hb11 rfl) ?_; clear E a; intro a E
  refine wpList_nil ?_
  refine zAh hK ?_; clear hK; clear K
  refine zBt E rfl ((decide_eq_false (by omega))) ?_
  refine wp_skip ?_
  refine zAh hK ?_; clear hK; clear K
  refine wp_seq_k ?_; intro K hK
  refine zAc ?_
  refine zp E (zCo (cells := [_, _]) E rfl rfl rfl) ?_; clear E a; intro a E
  refine zAo rfl (zCs E S rfl rfl (by decide) rfl rfl ?_); clear E S a; intro a w b16 E S
  refine zp E (zAg E rfl rfl) ?_; clear E a; intro a E
  refine wpList_nil ?_
  refine zAh hK ?_; clear hK; clear K
  iterate 2 (refine wp_seq_k ?_; intro K hK)
  have S := S.addNil
  refine zAc ?_
  refine zp E (zAg E rfl rfl) ?_; clear E a; intro a E
  refine wpList_nil ?_
  refine zAh hK ?_; clear hK; clear K
  refine wp_block ?_
  refine wp_loop_ghost (fun (m : Nat) (a : Act) (w' : World) => ∃ (i : Nat) (vp : Value) (Cp J2 : zAs) (vs : List Value), m = n - i ∧ i ≤ n ∧ Buf Cp 22 1 vp vs.length vs ∧ vs.length = i ∧ (∀ c ∈ J, c ∈ J2) ∧ (∀ (j : Nat) (v : Value), vs[j]? = some v → Rd J2 1 v 128 (byt (List.replicate 128 0))) ∧
   St w0 [C0] w' (Cp :: [(b16, cel [vp, .bool false] 127)] :: [(q, qcl s (.slice add ys.length cd) vw)] :: Cd :: Cw :: J2 :: (dch ys ++ [])) ∧ Fr a 49 [(0, ptr q), (1, .int .i64 n), (6, ptr b16), (7, .int .i64 i)]) (n - 0) ?_ ?_
  · exact ⟨0, _, [], J, [], rfl, by omega, Buf.nil _ _, rfl, fun c h => h, (fun j v h => by simp at h), S, E.keep (zAb rfl (zAb rfl (zAb rfl (zAb rfl zAp))))⟩
  clear E; clear a; (try clear S); rintro m a w ⟨i, vp, Cp, J2, vs, rfl, hi, hCp, hvl, hJ2, hvs, S, E⟩
  iterate 2 (refine wp_seq_k ?_; intro K hK)
  refine zAc ?_
  iterate 2 (refine zp E (zAe E rfl rfl) ?_; clear E a; intro a E)
  refine zp E (zCb E rfl rfl rfl) ?_; clear E a; intro a E
  refine wpList_nil ?_
  refine zAh hK ?_; clear hK; clear K
  refine zBl E rfl (fun hb => ?_) (fun hb => ?_)
  · replace hb := Nrm.nrm hb
    refine wp_skip ?_
    refine zAh hK ?_; clear hK; clear K
    refine wp_seq_k ?_; intro K hK
    refine wp_block ?_
    refine wp_seq_k ?_; intro K hK
    have hin : i < n := by omega
    refine zAc ?_
    refine zAr E rfl rfl (by decide) rfl Tryz.func51 rfl (by kernel_rfl) rfl (noughts_ret _) ?_
    rintro v22 w ⟨vz, Cz, rfl, hz, hT⟩; clear E a; intro a E
    have S := S.fresh hT; obtain ⟨adz, cz, rfl⟩ := hz.slice
    refine zp E (zAg E rfl rfl) ?_; clear E a; intro a E
    refine wpList_nil ?_
    refine zAh hK ?_; clear hK; clear K
    obtain ⟨adp, cp, rfl⟩ := hCp.slice
    refine zAc ?_
    iterate 2 (refine zp E (zAe E rfl rfl) ?_; clear E a; intro a E)
    refine zp E (zAl E rfl rfl) ?_; clear E a; intro a E
    refine zp E (by first | exact zAf (q := 0) E rfl rfl rfl | exact zAi (q := 0) E rfl rfl rfl) ?_; clear E a; intro a E
    refine zp E (by first | exact zAn E rfl rfl rfl (S.get (by repeat (first | exact pk1 | apply zAa))) rfl | exact zAj E rfl rfl rfl (by assumption)) ?_; clear E a; intro a E
    refine zp E (zAe E rfl rfl) ?_; clear E a; intro a E
    refine zAo rfl (zCk (cells := [_]) E S rfl rfl (by decide) rfl rfl rfl rfl rfl (by decide) rfl ?_); clear E S a; intro a w b29 E S
    refine zAo rfl (zCi (by' := 24) E S rfl rfl (by decide) rfl rfl hCp (by repeat (first | exact pk1 | apply zAa)) ((zCr (g := b29) (T := 22) (xs := [.slice adz 128 cz]) (s := 1) (m := 1) rfl (by simp [Value.oneCell']) (by omega) 1).src (S.stab.at (by repeat (first | exact mm1 | assumption | apply List.Mem.tail))) rfl) rfl rfl rfl rfl rfl rfl (by simp only [maxLen]; omega) (by omega) ?_); clear E S a; intro a w v30 C30 E S hB30
    obtain ⟨ad30, c30, rfl⟩ := hB30.slice
    refine zp E (zAl E rfl rfl) ?_; clear E a; intro a E
    refine zp E (by first | exact zAf (q := 0) E rfl rfl rfl | exact zAi (q := 0) E rfl rfl rfl) ?_; clear E a; intro a E
    refine zAo rfl (zBg E S rfl rfl rfl rfl rfl rfl (by repeat (first | exact pk1 | apply zAa)) (by first | exact Nat.le_of_ble_eq_true rfl | (simp; done) | (simp; omega)) ?_); clear E S a; intro a w E S; try dsimp only [List.set] at S
    refine wpList_nil ?_
    refine zBf ?_
    refine zAh hK ?_; clear hK; clear K
    refine zAc ?_
    refine zp E (zAe E rfl rfl) ?_; clear E a; intro a E
    refine zp E (zBu E rfl rfl rfl (by first | exact zCj (y := 1) (by omega) | exact w_in (by omega) | exact zBy (by omega) | exact rfl)) ?_; clear E a; intro a E
    refine zp E (zAg E rfl rfl) ?_; clear E a; intro a E
    refine wpList_nil ?_
    refine zBe ?_
    have S := (S.del (A := [(b29, _)]) (by repeat (first | exact pk1 | apply zAa))).gather (A := Cz) (B := J2) (by repeat (first | exact pk1 | apply zAa)) (by repeat (first | exact pk1 | apply zAa))
    have S := S.front6 (A := C30) (by repeat (first | exact pk1 | apply zAa)) (B := [(b16, _)]) (by repeat (first | exact pk1 | apply zAa)) (C := [(q, _)]) (by repeat (first | exact pk1 | apply zAa)) (D := Cd) (by repeat (first | exact pk1 | apply zAa)) (F := Cw) (by repeat (first | exact pk1 | apply zAa)) (G := Cz ++ J2) (by repeat (first | exact pk1 | apply zAa))
    refine ⟨_, by omega, i + 1, .slice ad30 (vs.length + 1) c30, C30, Cz ++ J2, vs ++ [.slice adz 128 cz], rfl, by omega, by rw [List.length_append, List.length_singleton]; exact hB30, by rw [List.length_append, List.length_singleton, hvl], fun c hc => List.mem_append_right _ (hJ2 c hc), ?_, S, E.keep (zAb rfl (zAb rfl (zAb rfl (zAb rfl zAp))))⟩
    intro j v hv
    rcases Nat.lt_or_ge j vs.length with h | h
    · rw [List.getElem?_append_left h] at hv; exact (hvs j v hv).sub fun c hc => List.mem_append_right _ hc
    · rw [List.getElem?_append_right h] at hv
      have h0 := (List.getElem?_eq_some_iff.1 hv).1
      rw [show j - vs.length = 0 by simp at h0; omega] at hv
      cases hv; exact hz.rd.sub fun c hc => List.mem_append_left _ hc
  · replace hb := Nrm.nrm hb
    refine wp_exit ?_
    refine zBb ?_; clear hK; clear K
    refine zBb ?_
    refine zCm ?_
    refine zAh hK ?_; clear hK; clear K
    refine wp_seq_k ?_; intro K hK
    obtain rfl : i = n := by omega
    obtain ⟨adp, cp, rfl⟩ := hCp.slice
    refine zAc ?_
    iterate 2 (refine zp E (zAe E rfl rfl) ?_; clear E a; intro a E)
    refine zp E (zAl E rfl rfl) ?_; clear E a; intro a E
    refine zp E (by first | exact zAf (q := 0) E rfl rfl rfl | exact zAi (q := 0) E rfl rfl rfl) ?_; clear E a; intro a E
    refine zp E (by first | exact zAn E rfl rfl rfl (S.get (by repeat (first | exact pk1 | apply zAa))) rfl | exact zAj E rfl rfl rfl (by assumption)) ?_; clear E a; intro a E
    refine zp E (zAe E rfl rfl) ?_; clear E a; intro a E
    refine zAo rfl (zCk (cells := [_]) E S rfl rfl (by decide) rfl rfl rfl rfl rfl (by decide) rfl ?_); clear E S a; intro a w b39 E S
    refine zAo rfl (zCi (by' := 8) E S rfl rfl (by decide) rfl rfl h1 (by repeat (first | exact pk1 | apply zAa)) ((zCr (g := b39) (T := 125) (xs := [ptr b16]) (s := 1) (m := 1) rfl (by simp [Value.oneCell']) (by omega) 1).src (S.stab.at (by repeat (first | exact mm1 | assumption | apply List.Mem.tail))) rfl) rfl rfl rfl rfl rfl rfl (by simp only [maxLen]; omega) (by omega) ?_); clear E S a; intro a w v40 C40 E S hB40
    obtain ⟨ad40, c40, rfl⟩ := hB40.slice
    refine zp E (zAl E rfl rfl) ?_; clear E a; intro a E
    refine zp E (by first | exact zAf (q := 0) E rfl rfl rfl | exact zAi (q := 0) E rfl rfl rfl) ?_; clear E a; intro a E
    refine zAo rfl (zBg E S rfl rfl rfl rfl rfl rfl (by repeat (first | exact pk1 | apply zAa)) (by first | exact Nat.le_of_ble_eq_true rfl | (simp; done) | (simp; omega)) ?_); clear E S a; intro a w E S; try dsimp only [List.set] at S
    refine wpList_nil ?_
    refine zAh hK ?_; clear hK; clear K
    refine wp_seq_k ?_; intro K hK
    refine zAc ?_
    refine zp E (zAe E rfl rfl) ?_; clear E a; intro a E
    refine zp E (zAl E rfl rfl) ?_; clear E a; intro a E
    refine zp E (by first | exact zAf (q := 0) E rfl rfl rfl | exact zAi (q := 0) E rfl rfl rfl) ?_; clear E a; intro a E
    refine zp E (by first | exact zAn E rfl rfl rfl (S.get (by repeat (first | exact pk1 | apply zAa))) rfl | exact zAj E rfl rfl rfl (by assumption)) ?_; clear E a; intro a E
    refine zp E (by first | exact zCa E rfl rfl rfl | exact zBa E rfl rfl rfl | exact zAt E rfl rfl rfl) ?_; clear E a; intro a E
    refine zp E (zDf E rfl rfl rfl (by first | exact zEx (y := 1) (by omega) (by omega) | exact w_in (by omega) | exact zBy (by omega) | exact rfl)) ?_; clear E a; intro a E
    iterate 2 (refine zp E (zAg E rfl rfl) ?_; clear E a; intro a E)
    refine wpList_nil ?_
    refine zAh hK ?_; clear hK; clear K
    refine wp_ret ?_
    refine ret2 E rfl rfl rfl ?_
    obtain ⟨y, hy⟩ : ∃ y : Dd, y = ⟨b16, .slice adp vs.length cp, Cp, vs, false⟩ := ⟨_, rfl⟩
    have S := (S.del (A := [(b39, _)]) (by repeat (first | exact pk1 | apply zAa))).front6 (A := [(q, qcl s (.slice ad40 (ys.length + 1) c40) vw)]) (by repeat (first | exact pk1 | apply zAa)) (B := C40) (by repeat (first | exact pk1 | apply zAa)) (C := Cw) (by repeat (first | exact pk1 | apply zAa)) (D := J2) (by repeat (first | exact pk1 | apply zAa)) (F := [(b16, cel [.slice adp vs.length cp, .bool false] 127)]) (by repeat (first | exact pk1 | apply zAa)) (G := Cp) (by repeat (first | exact pk1 | apply zAa))
    have S : St w0 [C0] w ([(q, qcl s (.slice ad40 (ys.length + 1) c40) vw)] :: C40 :: Cw :: J2 :: dd1 y :: y.C :: (dch ys ++ [])) := by rw [hy]; exact S
    have e9 : dch ys ++ [] = dch (ys ++ []) ++ [] := by rw [List.append_nil ys]
    rw [e9] at S
    have S := zGq (Ls := []) (rf_in (A := ys) (B := []) S)
    refine ⟨_, rfl, _, by rw [hdl]; rfl, fun d gp gn => ⟨.slice ad40 (ys.length + 1) c40, vw, C40, Cw, J2, ys ++ [y], us, ?_, h2, ?_, ?_, rfl⟩, S.tr⟩
    · rw [List.length_append, List.length_singleton, List.map_append, List.map_singleton, hy]; exact hB40
    · simp only [Rk.add]
      refine (h3.imp fun _ _ h => h.sub hJ2).snoc ?_
      rw [hy]
      refine ⟨rfl, hCp, by show 128 * vs.length = (List.replicate (i * 128) (0 : UInt8)).length; rw [List.length_replicate]; omega, fun j v hv => ?_⟩
      have hj := (List.getElem?_eq_some_iff.1 hv).1
      show Rd J2 1 v 128 (byt (secB (List.replicate (i * 128) 0) j))
      rw [secB_zeros (by simp only at hj; omega)]; exact hvs j v hv
    · simp only [Rk.add]
      exact h4.imp fun w u ⟨⟨x, g1, g2⟩, g3, g4⟩ => ⟨⟨x, by rw [List.getElem?_append_left (List.getElem?_eq_some_iff.1 g1).1]; exact g1, g2⟩, g3, g4.sub hJ2⟩
end Go.Proofs.YtidhehcjafoneaaGreatDoor
namespace Go.Sl
theorem nowW_out (d e : Nat) (ws : List Wt) (pl : List UInt8) : nowW d (outW e ws) pl = if d = e then pl else nowW d ws pl := by
  unfold nowW outW
  rw [List.filter_filter]
  by_cases h : d = e
  · rw [if_pos h]
    have : ws.filter (fun a => decide (a.d = d) && decide (a.d ≠ e)) = [] := by
      rw [List.filter_eq_nil_iff]; intro a _; simp; omega
    rw [this]; rfl
  · rw [if_neg h]
    congr 1
    apply List.filter_congr
    intro a _
    by_cases h2 : a.d = d <;> simp [h2, h]
theorem nowW_none {d : Nat} {ws : List Wt} (h : ∀ w ∈ ws, w.d ≠ d) (pl : List UInt8) : nowW d ws pl = pl := by
  unfold nowW
  rw [show ws.filter (fun w => decide (w.d = d)) = [] from by rw [List.filter_eq_nil_iff]; intro a ha; simpa using h a ha]
  rfl
theorem nowW_app {d : Nat} (ws t : List Wt) (pl : List UInt8) (h : ∀ w ∈ t, w.d ≠ d) : nowW d (ws ++ t) pl = nowW d ws pl := by
  unfold nowW
  rw [List.filter_append, show t.filter (fun w => decide (w.d = d)) = [] from by rw [List.filter_eq_nil_iff]; intro a ha; simpa using h a ha, List.append_nil]
theorem wrN_now {d a : Nat} {b pl : List UInt8} : ∀ (k i : Nat) (s : Pw) (nw : List UInt8) (ws : List Wt), 128 * (i + k) ≤ b.length → nw = nowW d ws pl → (wrN d a b k i s nw ws).2.1 = nowW d (wrN d a b k i s nw ws).2.2.1 pl
  | 0, i, s, nw, ws, _, h => h
  | k + 1, i, s, nw, ws, hb, h => by
    rw [wrN]
    split
    · exact h
    · refine wrN_now k (i + 1) _ _ _ (by omega) ?_
      rw [nowW_snoc, if_pos (show (mkW d (a + i) (secB b i)).d = d from rfl), ← h]
      show setS nw (a + i) (secB b i) = setS nw (a + i) (pad (secB b i))
      rw [pad_id (zDj (by omega))]
theorem wrS_app (d n : Nat) (at_ : Int) (b : List UInt8) (s : Pw) (f : Bool) (nw : List UInt8) (ws : List Wt) : ∃ t, (wrS d n at_ b s f nw ws).2.2.1 = ws ++ t ∧ ∀ w ∈ t, w.d = d := by
  unfold wrS
  split
  · exact ⟨[], by simp, by simp⟩
  split
  · exact ⟨[], by simp, by simp⟩
  split
  · exact ⟨[], by simp, by simp⟩
  · exact wrN_app _ _ _ _ _
theorem wrS_now {d n : Nat} {at_ : Int} {b pl : List UInt8} (s : Pw) (f : Bool) (nw : List UInt8) (ws : List Wt) (h : nw = nowW d ws pl) : (wrS d n at_ b s f nw ws).2.1 = nowW d (wrS d n at_ b s f nw ws).2.2.1 pl := by
  unfold wrS
  split; exact h
  split; exact h
  split; exact h
  exact wrN_now _ _ _ _ _ (by omega) h
end Go.Sl
namespace Go.Proofs.YtidhehcjafoneaaGreatDoor
open Go.Sl
theorem mem_setD {ds : List Dk} {d : Nat} {g : Dk → Dk} {z : Dk} (h : z ∈ setD ds d g) : ∃ y ∈ ds, z = if y.d = d then g y else y := by
  obtain ⟨y, h1, h2⟩ := List.mem_map.1 h
  exact ⟨y, h1, h2.symm⟩
theorem now_set {R : Rk} (hok : DkOk R.ds) (h : zKw R) {x : Dk} (hx : x ∈ R.ds) (s' : Pw) (ws' : List Wt) (g : Dk → Dk) (hgd : (g x).d = x.d) (hx' : (g x).now = nowW x.d ws' (g x).pl ∧ (g x).pl.length % 128 = 0) (hy' : ∀ d pl, d ≠ x.d → nowW d ws' pl = nowW d R.ws pl) : zKw ⟨s', ws', setD R.ds x.d g⟩ := by
  intro z hz
  obtain ⟨y, hy, rfl⟩ := mem_setD hz
  by_cases hd : y.d = x.d
  · rw [if_pos hd, zHi hok.1 hy hx hd, hgd]; exact hx'
  · rw [if_neg hd]
    show y.now = nowW y.d ws' y.pl ∧ _
    rw [hy' y.d y.pl hd]; exact h y hy
theorem now_write {R : Rk} (hok : DkOk R.ds) (h : zKw R) {x : Dk} (hx : x ∈ R.ds) (at_ : Int) (b : List UInt8) : zKw (R.write x at_ b) := by
  obtain ⟨h1, h2⟩ := h x hx
  refine now_set hok h hx _ _ _ rfl ⟨wrS_now _ _ _ _ h1, h2⟩ fun d pl hd => ?_
  obtain ⟨t, e, ht⟩ := wrS_app x.d x.pl.length at_ b R.pw x.failed x.now R.ws
  rw [e]; exact nowW_app _ _ _ fun w hw q => hd (by rw [← q, ht w hw])
theorem now_flush {R : Rk} (hok : DkOk R.ds) (h : zKw R) {x : Dk} (hx : x ∈ R.ds) : zKw (R.flush x) := by
  obtain ⟨h1, h2⟩ := h x hx
  have hl := (hok.2 x hx).1
  refine now_set hok h hx _ _ _ rfl ?_ fun d pl hd => ?_
  · simp only [flW, flP]
    by_cases hf : flE R.pw x.failed = 0
    · simp only [if_pos hf]; rw [nowW_out, if_pos rfl]; exact ⟨rfl, by rw [hl]; exact h2⟩
    · simp only [if_neg hf]; exact ⟨h1, h2⟩
  · simp only [flW]; split
    · rw [nowW_out, if_neg hd]
    · rfl
theorem now_add {R : Rk} (hwo : WtOk R.ws R.ds) (h : zKw R) (d gp gn n : Nat) (hd : ∀ y ∈ R.ds, y.d ≠ d) : zKw (R.add d gp gn n) := by
  intro z hz
  rcases List.mem_append.1 hz with hz | hz
  · exact h z hz
  · rw [List.mem_singleton.1 hz]
    refine ⟨?_, by simp only [List.length_replicate]; omega⟩
    show List.replicate (n * 128) 0 = nowW d R.ws (List.replicate (n * 128) 0)
    rw [nowW_none]
    intro w hw q
    obtain ⟨⟨y, h1, h2⟩, -⟩ := hwo w hw
    exact hd y h1 (h2.trans q)
end Go.Proofs.YtidhehcjafoneaaGreatDoor
namespace Go.Sl
end Go.Sl
namespace Go.Proofs.YtidhehcjafoneaaGreatDoor
open Go.Sl
set_option maxRecDepth 10000
theorem dlbencode_ret (O : zAs) (v : Value) (l : Lbl) (hO : Rd O 3 v l.tops.length (l.tops.flatMap Tp.lay)) (ho : l.Ok) (w0 : World) (H : Hp w0 [O]) :
    Ret Tryz.prog 60 #[lbagg l v] w0 fun u w' => ∃ v C, u = .tuple #[v, .int .i64 (lbE l)] ∧ Buf C 5 1 v (lbO l).length (byt (lbO l)) ∧ Trs w0 w' [O] [C, O] := by
  have S := St.begin H
  have hO0 := hO
  have o1 := ho.pool
  have hl4 : lLet.length = 4 := rfl
  have hHl := zHk l
  obtain ⟨ad, c, rfl⟩ := hO.slice
  refine zDc 66 Tryz.func60 rfl rfl (by decide) ?_; intro a E
  refine wp_seq_k ?_; intro K hK
  refine zAc ?_
  refine zAo rfl (zCs E S rfl rfl (by decide) rfl rfl ?_); clear E S a; intro a w b1 E S
  iterate 2 (refine zp E (zAg E rfl rfl) ?_; clear E a; intro a E)
  refine wpList_nil ?_
  refine zAh hK ?_; clear hK; clear K
  refine wp_seq_k ?_; intro K hK
  refine zAc ?_
  refine zp E (zBw (vs := [_, _, _, _]) E rfl rfl rfl (S.get (by repeat (first | exact pk1 | apply zAa))) rfl rfl) ?_; clear E a; intro a E
  refine zAr E rfl rfl (by decide) rfl Tryz.func80 rfl (by kernel_rfl) rfl (dlbcheck_ret O _ l hO0 _ (S.hp.sel (zAd (by repeat (first | exact pk1 | apply zAa)) (zAk _)))) ?_
  rintro v8 w ⟨rfl, hT⟩; clear E a; intro a E
  have S := S.call1 (zAd (by repeat (first | exact pk1 | apply zAa)) (zAk _)) hT
  refine zp E (zAg E rfl rfl) ?_; clear E a; intro a E
  refine wpList_nil ?_
  refine zAh hK ?_; clear hK; clear K
  iterate 2 (refine wp_seq_k ?_; intro K hK)
  refine zAc ?_
  refine zp E (zAe E rfl rfl) ?_; clear E a; intro a E
  refine zp E (by first | exact zCu E rfl rfl rfl | exact zAz E rfl rfl rfl rfl | exact zBj E rfl rfl rfl rfl | exact zBd E rfl rfl rfl) ?_; clear E a; intro a E
  refine wpList_nil ?_
  refine zAh hK ?_; clear hK; clear K
  refine zBl E rfl (fun hb => ?_) (fun hb => ?_)
  · replace hb := Nrm.nrm hb
    refine wp_seq_k ?_; intro K hK
    refine zAc ?_
    refine zp E (zAe E rfl rfl) ?_; clear E a; intro a E
    iterate 2 (refine zp E (zAg E rfl rfl) ?_; clear E a; intro a E)
    refine wpList_nil ?_
    refine zAh hK ?_; clear hK; clear K
    refine wp_ret ?_
    refine zBi ?_; clear hK; clear K
    refine ret2 E rfl rfl rfl ?_
    exact ⟨_, rfl, .slice none 0 0, [], rfl, by rw [lbO_no hb]; exact Buf.nil _ _, (S.addNil.only (Bs := [[], O]) (zAd (by repeat (first | exact pk1 | apply zAa)) (zAd (by repeat (first | exact pk1 | apply zAa)) (zAk _)))).tr⟩
  · replace hb := Nrm.nrm hb
    refine wp_skip ?_
    refine zAh hK ?_; clear hK; clear K
    refine wp_seq_k ?_; intro K hK
    have hpe := hb
    obtain ⟨hh, hmm⟩ := (zHd l).1 hb
    have hpl := zLm hh hmm
    obtain ⟨m1, m2, m3, m4, m5, m6⟩ := hh
    obtain ⟨g, off, rfl⟩ := hO.addr (by omega)
    obtain ⟨tn, htn⟩ : ∃ n : Nat, l.top = n := ⟨l.top.toNat, by omega⟩
    obtain ⟨pn, hpn⟩ : ∃ n : Nat, l.place = n := ⟨l.place.toNat, by omega⟩
    have hH : lbH l = lLet ++ zCv l.pool 8 ++ [UInt8.ofNat tn, UInt8.ofNat pn, UInt8.ofNat l.tops.length] := by simp [lbH, htn, hpn, form1]
    have hsm := zKf hpe
    refine zAc ?_
    refine zAo rfl (zCk (cells := [_, _, _, _]) E S rfl rfl (by decide) rfl rfl rfl rfl rfl (by decide) rfl ?_); clear E S a; intro a w b12 E S
    refine zAo rfl (wp_mark E S rfl rfl rfl (by decide) rfl rfl rfl (by repeat (first | exact pk1 | apply zAa)) ?_); clear E S a; intro a w E S
    refine zp E (zAg E rfl rfl) ?_; clear E a; intro a E
    refine wpList_nil ?_
    refine zAh hK ?_; clear hK; clear K
    refine wp_seq_k ?_; intro K hK
    refine zAc ?_
    refine zp E (zAe E rfl rfl) ?_; clear E a; intro a E
    refine zp E (by first | exact zAf (q := 0) E rfl rfl rfl | exact zAi (q := 0) E rfl rfl rfl) ?_; clear E a; intro a E
    refine zp E (by first | exact zAn E rfl rfl rfl (S.get (by repeat (first | exact pk1 | apply zAa))) rfl | exact zAj E rfl rfl rfl (by assumption)) ?_; clear E a; intro a E
    refine zAr E rfl rfl (by decide) rfl Tryz.func81 rfl (by kernel_rfl) rfl (dnumf_ret b12 lLet _ l.pool 8 (rd_mark lLet (by omega)) (by omega) o1 (by omega) (by omega) _ (S.hp.sel (zAd (by repeat (first | exact pk1 | apply zAa)) (zAk _)))) ?_
    rintro v17 w ⟨C1, hC1, hT⟩; clear E a; intro a E
    have S := S.call1 (zAd (by repeat (first | exact pk1 | apply zAa)) (zAk _)) hT
    refine zp E (zAg E rfl rfl) ?_; clear E a; intro a E
    refine wpList_nil ?_
    refine zAh hK ?_; clear hK; clear K
    refine wp_seq_k ?_; intro K hK
    have hq1 : (lLet ++ zCv l.pool 8).length = 12 := by rw [List.length_append, zBz]; omega
    have hq2 : [UInt8.ofNat tn, UInt8.ofNat pn, UInt8.ofNat l.tops.length].length = 3 := rfl
    refine zAc ?_
    refine zp E (zAe E rfl rfl) ?_; clear E a; intro a E
    refine zp E (by first | exact zAf (q := 2) E rfl rfl rfl | exact zAi (q := 2) E rfl rfl rfl) ?_; clear E a; intro a E
    refine zp E (by first | exact zAn E rfl rfl rfl (S.get (by repeat (first | exact pk1 | apply zAa))) rfl | exact zAj E rfl rfl rfl (by assumption)) ?_; clear E a; intro a E
    rw [htn] at E
    refine zp E (zBv E rfl rfl rfl rfl (w8 _)) ?_; clear E a; intro a E
    refine zp E (by first | exact zAf (q := 3) E rfl rfl rfl | exact zAi (q := 3) E rfl rfl rfl) ?_; clear E a; intro a E
    refine zp E (by first | exact zAn E rfl rfl rfl (S.get (by repeat (first | exact pk1 | apply zAa))) rfl | exact zAj E rfl rfl rfl (by assumption)) ?_; clear E a; intro a E
    rw [hpn] at E
    refine zp E (zBv E rfl rfl rfl rfl (w8 _)) ?_; clear E a; intro a E
    refine zp E (by first | exact zAf (q := 1) E rfl rfl rfl | exact zAi (q := 1) E rfl rfl rfl) ?_; clear E a; intro a E
    refine zp E (by first | exact zAn E rfl rfl rfl (S.get (by repeat (first | exact pk1 | apply zAa))) rfl | exact zAj E rfl rfl rfl (by assumption)) ?_; clear E a; intro a E
    refine zp E (by first | exact zCa E rfl rfl rfl | exact zBa E rfl rfl rfl | exact zAt E rfl rfl rfl) ?_; clear E a; intro a E
    refine zp E (zBv E rfl rfl rfl rfl (w8 _)) ?_; clear E a; intro a E
    refine zAo rfl (zCk (cells := [_, _, _]) E S rfl rfl (by decide) rfl rfl rfl rfl rfl (by decide) rfl ?_); clear E S a; intro a w b29 E S
    refine zAo rfl (zCi (by' := 1) E S rfl rfl (by decide) rfl rfl hC1 (by repeat (first | exact pk1 | apply zAa)) ((zGf b29 [UInt8.ofNat tn, UInt8.ofNat pn, UInt8.ofNat l.tops.length] 5 (by simp)).rd.src (S.stab.at (by repeat (first | exact mm1 | assumption | apply List.Mem.tail))) rfl) rfl rfl rfl rfl rfl rfl (by simp only [maxLen]; omega) (by omega) ?_); clear E S a; intro a w v30 C30 E S hB30
    refine zp E (zAg E rfl rfl) ?_; clear E a; intro a E
    refine wpList_nil ?_
    have hC2 : Buf C30 5 1 v30 (lbH l).length (byt (lbH l)) := by rw [hH, zCx, List.length_append]; exact hB30
    refine zAh hK ?_; clear hK; clear K
    iterate 2 (refine wp_seq_k ?_; intro K hK)
    replace E := E.keep (e' := [(1, _), (2, _), (3, _), (5, _)]) (zAb rfl (zAb rfl (zAb rfl (zAb rfl (zAp)))))
    refine zAc ?_
    refine zp E (zAg E rfl rfl) ?_; clear E a; intro a E
    refine wpList_nil ?_
    refine zAh hK ?_; clear hK; clear K
    refine wp_block ?_
    refine wp_loop_ghost (fun (m : Nat) (a : Act) (w' : World) => ∃ (i : Nat) (v : Value) (C' : zAs), m = l.tops.length - i ∧ i ≤ l.tops.length ∧ Buf C' 5 1 v (lbH l ++ (l.tops.take i).flatMap tpB).length (byt (lbH l ++ (l.tops.take i).flatMap tpB)) ∧ (∃ Ls, St w0 [O] w' (C' :: [(b1, cel [.int .u64 l.pool, .slice (some ⟨g, off, none⟩) l.tops.length c, .int .i64 l.top, .int .i64 l.place] 77)] :: O :: Ls)) ∧ Fr a 66 [(1, ptr b1), (5, v), (6, .int .i64 i)]) (l.tops.length - 0) ?_ ?_
    · exact ⟨0, v30, C30, rfl, by omega, by simpa using hC2, ⟨_, S.front3 (by repeat (first | exact pk1 | apply zAa)) (B := [(b1, _)]) (by repeat (first | exact pk1 | apply zAa)) (C := O) (by repeat (first | exact pk1 | apply zAa))⟩, E.keep (zAb rfl (zAb rfl (zAb rfl zAp)))⟩
    clear E; clear a; (try clear S); rintro m a w ⟨i, v, C', rfl, hi, hC', ⟨Ls, S⟩, E⟩
    iterate 2 (refine wp_seq_k ?_; intro K hK)
    refine zAc ?_
    refine zp E (zAe E rfl rfl) ?_; clear E a; intro a E
    refine zp E (by first | exact zAf (q := 1) E rfl rfl rfl | exact zAi (q := 1) E rfl rfl rfl) ?_; clear E a; intro a E
    refine zp E (by first | exact zAn E rfl rfl rfl (S.get (by repeat (first | exact pk1 | apply zAa))) rfl | exact zAj E rfl rfl rfl (by assumption)) ?_; clear E a; intro a E
    refine zp E (by first | exact zCa E rfl rfl rfl | exact zBa E rfl rfl rfl | exact zAt E rfl rfl rfl) ?_; clear E a; intro a E
    refine zp E (zCb E rfl rfl rfl) ?_; clear E a; intro a E
    refine wpList_nil ?_
    refine zAh hK ?_; clear hK; clear K
    refine zBl E rfl (fun hb => ?_) (fun hb => ?_)
    · replace hb := Nrm.nrm hb
      refine wp_skip ?_
      refine zAh hK ?_; clear hK; clear K
      refine wp_seq_k ?_; intro K hK
      refine wp_block ?_
      refine wp_seq_k ?_; intro K hK
      have hib : i < l.tops.length := by omega
      have hmd := hmm _ (List.getElem_mem hib)
      have hst := zHo l.tops hib
      have htl := zJk (l.tops.take i)
      rw [List.length_take, Nat.min_eq_left (by omega)] at htl
      unfold Tp.made at hmd
      obtain ⟨kn, hkn⟩ : ∃ n : Nat, l.tops[i].kind = n := ⟨l.tops[i].kind.toNat, by omega⟩
      obtain ⟨vn, hvn⟩ : ∃ n : Nat, l.tops[i].leaves = n := ⟨l.tops[i].leaves.toNat, by omega⟩
      obtain ⟨sn, hsn⟩ : ∃ n : Nat, l.tops[i].sectors = n := ⟨l.tops[i].sectors.toNat, by omega⟩
      have hB : tpB l.tops[i] = [UInt8.ofNat kn, UInt8.ofNat vn] ++ zCv sn 4 := by simp [tpB, hkn, hvn, hsn, form1]
      have hq3 : (lbH l ++ (l.tops.take i).flatMap tpB).length = 15 + 6 * i := by rw [List.length_append, htl, hHl]
      have hq4 : [UInt8.ofNat kn, UInt8.ofNat vn].length = 2 := rfl
      refine zBo S (.ofL [(0, 0), (1, 0), (2, 0), (3, 0), (4, 0), (5, 0), (6, 0), (7, 0), (8, 0), (9, 0), (10, 0), (11, 0), (12, 0), (13, 0), (14, 0), (15, 1), (16, 3), (17, 2)]) (by kernel_rfl) (by kernel_rfl) ?_
      clear S; intro w S
      refine zm E rfl (fun w h => zAe E rfl rfl) ?_; clear E a; intro a E
      refine zm E rfl (fun w h => by first | exact zAf (q := 1) E rfl rfl rfl | exact zAi (q := 1) E rfl rfl rfl) ?_; clear E a; intro a E
      refine zm E rfl (fun w h => by first | exact zAn E rfl rfl rfl (h.one (by repeat (first | exact mm1 | assumption | apply List.Mem.tail))) rfl | exact zAj E rfl rfl rfl (by assumption)) ?_; clear E a; intro a E
      refine zm E rfl (fun w h => zAe E rfl rfl) ?_; clear E a; intro a E
      refine zm E rfl (fun w h => by first | exact zBk E rfl rfl rfl rfl rfl rfl (by omega) | exact zBn E rfl rfl rfl rfl rfl rfl (by omega) | exact zAx E rfl rfl rfl rfl rfl rfl (by omega)) ?_; clear E a; intro a E
      refine zm E rfl (fun w h => by first | exact zAf (q := 0) E rfl rfl rfl | exact zAi (q := 0) E rfl rfl rfl) ?_; clear E a; intro a E
      refine zm E rfl (fun w h => zAj E rfl rfl rfl (hO.elem (lay := Tp.lay) Tp.lay_len (h.at (by repeat (first | exact mm1 | assumption | apply List.Mem.tail))) (i := i) hib 0 _ rfl)) ?_; clear E a; intro a E
      rw [hkn] at E
      refine zm E rfl (fun w h => zBv E rfl rfl rfl rfl (w8 _)) ?_; clear E a; intro a E
      refine zm E rfl (fun w h => by first | exact zAf (q := 1) E rfl rfl rfl | exact zAi (q := 1) E rfl rfl rfl) ?_; clear E a; intro a E
      refine zm E rfl (fun w h => by first | exact zAn E rfl rfl rfl (h.one (by repeat (first | exact mm1 | assumption | apply List.Mem.tail))) rfl | exact zAj E rfl rfl rfl (by assumption)) ?_; clear E a; intro a E
      refine zm E rfl (fun w h => zAe E rfl rfl) ?_; clear E a; intro a E
      refine zm E rfl (fun w h => by first | exact zBk E rfl rfl rfl rfl rfl rfl (by omega) | exact zBn E rfl rfl rfl rfl rfl rfl (by omega) | exact zAx E rfl rfl rfl rfl rfl rfl (by omega)) ?_; clear E a; intro a E
      refine zm E rfl (fun w h => by first | exact zAf (q := 1) E rfl rfl rfl | exact zAi (q := 1) E rfl rfl rfl) ?_; clear E a; intro a E
      refine zm E rfl (fun w h => zAj E rfl rfl rfl (hO.elem (lay := Tp.lay) Tp.lay_len (h.at (by repeat (first | exact mm1 | assumption | apply List.Mem.tail))) (i := i) hib 1 _ rfl)) ?_; clear E a; intro a E
      rw [hvn] at E
      refine zm E rfl (fun w h => zBv E rfl rfl rfl rfl (w8 _)) ?_; clear E a; intro a E
      refine zDp rfl rfl (zCk (cells := [_, _]) E S rfl rfl (by decide) rfl rfl rfl rfl rfl (by decide) rfl ?_); clear E S a; intro a w b53 E S; refine ⟨S.stab.sub (by first | (simp; done) | (simp +contextual; done) | (simp [*]; done)), ?_⟩
      refine zCq rfl rfl (zCi (by' := 1) E S rfl rfl (by decide) rfl rfl hC' (by repeat (first | exact pk1 | apply zAa)) ((zGf b53 [UInt8.ofNat kn, UInt8.ofNat vn] 5 (by simp)).rd.src (S.stab.at (by repeat (first | exact mm1 | assumption | apply List.Mem.tail))) rfl) rfl rfl rfl rfl rfl rfl (by simp only [maxLen]; omega) (by omega) ?_); clear E S a; intro a w v54 C54 E S hB54
      refine zCl E rfl rfl rfl (by decide) (fun w => zAg E rfl rfl) ?_; clear E a; intro a E
      refine zBs ?_
      have hC3 : Buf C54 5 1 v54 (lbH l ++ (l.tops.take i).flatMap tpB ++ [UInt8.ofNat kn, UInt8.ofNat vn]).length (byt (lbH l ++ (l.tops.take i).flatMap tpB ++ [UInt8.ofNat kn, UInt8.ofNat vn])) := by rw [zCx, List.length_append]; exact hB54
      refine zAh hK ?_; clear hK; clear K
      refine zAc ?_
      refine zp E (zAe E rfl rfl) ?_; clear E a; intro a E
      refine zp E (by first | exact zAf (q := 1) E rfl rfl rfl | exact zAi (q := 1) E rfl rfl rfl) ?_; clear E a; intro a E
      refine zp E (by first | exact zAn E rfl rfl rfl (S.get (by repeat (first | exact pk1 | apply zAa))) rfl | exact zAj E rfl rfl rfl (by assumption)) ?_; clear E a; intro a E
      refine zp E (zAe E rfl rfl) ?_; clear E a; intro a E
      refine zp E (by first | exact zBk E rfl rfl rfl rfl rfl rfl (by omega) | exact zBn E rfl rfl rfl rfl rfl rfl (by omega) | exact zAx E rfl rfl rfl rfl rfl rfl (by omega)) ?_; clear E a; intro a E
      refine zp E (by first | exact zAf (q := 2) E rfl rfl rfl | exact zAi (q := 2) E rfl rfl rfl) ?_; clear E a; intro a E
      refine zp E (zAj E rfl rfl rfl (hO.elem (lay := Tp.lay) Tp.lay_len (S.stab.at (by repeat (first | exact mm1 | assumption | apply List.Mem.tail))) (i := i) hib 2 _ rfl)) ?_; clear E a; intro a E
      rw [hsn] at E
      refine zp E (by first | exact zBv E rfl rfl rfl rfl (by first | exact wu8 _ | exact zHs (by omega) | exact zFa (by omega) | exact w_in (by omega) | exact zBy (by omega) | exact rfl) | exact zDe E rfl rfl rfl rfl rfl (by assumption) (S.stab.at (by simp))) ?_; clear E a; intro a E
      refine zAr E rfl rfl (by decide) rfl Tryz.func81 rfl (by kernel_rfl) rfl (zIe _ _ C54 sn 4 hC3 (by simp only [List.length_append, List.length_cons, List.length_nil]; omega) (by omega) (by omega) _ (S.hp.sel (zAd (by repeat (first | exact pk1 | apply zAa)) (zAk _)))) ?_
      rintro v63 w ⟨C4, hC4, hT⟩; clear E a; intro a E
      have S := S.call1 (zAd (by repeat (first | exact pk1 | apply zAa)) (zAk _)) hT
      refine zp E (zAg E rfl rfl) ?_; clear E a; intro a E
      refine wpList_nil ?_
      refine zBf ?_
      refine zAh hK ?_; clear hK; clear K
      refine zAc ?_
      refine zp E (zAe E rfl rfl) ?_; clear E a; intro a E
      refine zp E (zBu E rfl rfl rfl (by first | exact zCj (y := 1) (by omega) | exact w_in (by omega) | exact zBy (by omega) | exact rfl)) ?_; clear E a; intro a E
      refine zp E (zAg E rfl rfl) ?_; clear E a; intro a E
      refine wpList_nil ?_
      refine zBe ?_
      have e : lbH l ++ (l.tops.take (i + 1)).flatMap tpB = lbH l ++ (l.tops.take i).flatMap tpB ++ [UInt8.ofNat kn, UInt8.ofNat vn] ++ zCv sn 4 := by rw [hst, hB]; simp only [List.append_assoc]
      rw [← e] at hC4
      exact ⟨_, by omega, i + 1, _, C4, rfl, by omega, hC4, ⟨_, S.front3 (by repeat (first | exact pk1 | apply zAa)) (B := [(b1, _)]) (by repeat (first | exact pk1 | apply zAa)) (C := O) (by repeat (first | exact pk1 | apply zAa))⟩, E.keep (zAb rfl (zAb rfl (zAb rfl zAp)))⟩
    · replace hb := Nrm.nrm hb
      refine wp_exit ?_
      refine zBb ?_; clear hK; clear K
      refine zBb ?_
      refine zCm ?_
      refine zAh hK ?_; clear hK; clear K
      refine wp_seq_k ?_; intro K hK
      obtain rfl : i = l.tops.length := by omega
      rw [List.take_length] at hC'
      refine zAc ?_
      refine zp E (zAe E rfl rfl) ?_; clear E a; intro a E
      refine zAr E rfl rfl (by decide) rfl Tryz.func82 rfl (by kernel_rfl) rfl (dsummed_ret _ (lbB l) C' hC' (by omega) _ (S.hp.sel (zAd (by repeat (first | exact pk1 | apply zAa)) (zAk _)))) ?_
      rintro v65 w ⟨C6, hC6, hT⟩; clear E a; intro a E
      have S := S.call1 (zAd (by repeat (first | exact pk1 | apply zAa)) (zAk _)) hT
      iterate 2 (refine zp E (zAg E rfl rfl) ?_; clear E a; intro a E)
      refine wpList_nil ?_
      refine zAh hK ?_; clear hK; clear K
      refine wp_ret ?_
      refine ret2 E rfl rfl rfl ?_
      exact ⟨_, rfl, _, C6, by rw [hpe], by rw [lbO_ok hpe]; exact hC6, (S.only (Bs := [C6, O]) (zAd (by repeat (first | exact pk1 | apply zAa)) (zAd (by repeat (first | exact pk1 | apply zAa)) (zAk _)))).tr⟩
end Go.Proofs.YtidhehcjafoneaaGreatDoor
namespace Go.Sl
theorem wrN_len {d a n : Nat} {b : List UInt8} : ∀ (k i : Nat) (s : Pw) (nw : List UInt8) (ws : List Wt), nw.length = n → 128 * (a + i + k) ≤ n → 128 * (i + k) ≤ b.length → (wrN d a b k i s nw ws).2.1.length = n
  | 0, _, _, _, _, h, _, _ => h
  | k + 1, i, s, nw, ws, h, h2, h3 => by
    rw [wrN]
    split
    · exact h
    · exact wrN_len k (i + 1) _ _ _ (by rw [zEh (by omega) (zDj (by omega))]; exact h) (by omega) (by omega)
theorem wrS_len {d n : Nat} {at_ : Int} {b : List UInt8} (s : Pw) (f : Bool) (nw : List UInt8) (ws : List Wt) (h : nw.length = n) : (wrS d n at_ b s f nw ws).2.1.length = n := by
  unfold wrS
  split
  · exact h
  · split
    · exact h
    · split
      · exact h
      · rename_i hm
        have hm : zEu n at_ b := Classical.byContradiction fun q => hm q
        obtain ⟨m1, m2, m3, m4⟩ := hm
        exact wrN_len _ _ _ _ _ h (by omega) (by omega)
theorem setD_atI {ds : List Dk} {i : Nat} {x : Dk} {g : Dk → Dk} (h : ds[i]? = some x) : (setD ds x.d g)[i]? = some (g x) := by
  rw [setD, List.getElem?_map, h]; simp
end Go.Sl
namespace Go.Proofs.YtidhehcjafoneaaGreatDoor
open Go.Sl
set_option maxRecDepth 10000
theorem ok_write {R : Rk} (h3 : DkOk R.ds) (h4 : WtOk R.ws R.ds) {x : Dk} (hx : x ∈ R.ds) (at_ : Int) (b : List UInt8) : DkOk (R.write x at_ b).ds ∧ WtOk (R.write x at_ b).ws (R.write x at_ b).ds := by
  obtain ⟨s, ws, ds⟩ := R
  simp only at h3 h4 hx
  obtain ⟨A, B, rfl⟩ := List.append_of_mem hx
  have hxl := h3.2 x hx
  have hl : (wrS x.d x.pl.length at_ b s x.failed x.now ws).2.1.length = x.pl.length := wrS_len s x.failed x.now ws hxl.1
  have hs : Same x { x with now := (wrS x.d x.pl.length at_ b s x.failed x.now ws).2.1 } := ⟨rfl, rfl, rfl, rfl, hl⟩
  have hfit := wrS_fit (d := x.d) (n := x.pl.length) (at_ := at_) (b := b) (fun w => (∃ y ∈ A ++ x :: B, y.d = w.d) ∧ ∀ y ∈ A ++ x :: B, y.d = w.d → 128 * w.at_ + 128 ≤ y.pl.length) (fun j b' hj => ⟨⟨x, hx, rfl⟩, fun y hy hyd => by rw [zHi h3.1 hy hx hyd]; exact hj⟩) s x.failed x.now ws h4
  have hset : setD (A ++ x :: B) x.d (fun y => { y with now := (wrS x.d x.pl.length at_ b s x.failed x.now ws).2.1 }) = A ++ { x with now := (wrS x.d x.pl.length at_ b s x.failed x.now ws).2.1 } :: B := zHu _ h3.1
  simp only [Rk.write]
  rw [hset]
  exact ⟨zIp h3 hs, zIq hfit hs⟩
theorem ok_flush {R : Rk} (h3 : DkOk R.ds) (h4 : WtOk R.ws R.ds) {x : Dk} (hx : x ∈ R.ds) : DkOk (R.flush x).ds ∧ WtOk (R.flush x).ws (R.flush x).ds := by
  obtain ⟨s, ws, ds⟩ := R
  simp only at h3 h4 hx
  obtain ⟨A, B, rfl⟩ := List.append_of_mem hx
  have hxl := h3.2 x hx
  have hl : (flP s x.failed x.pl x.now).length = x.pl.length := by unfold flP; split; exact hxl.1; rfl
  have hs : Same x { x with pl := flP s x.failed x.pl x.now } := ⟨rfl, rfl, rfl, hl, hxl.1⟩
  have hset : setD (A ++ x :: B) x.d (fun y => { y with pl := flP s x.failed x.pl x.now }) = A ++ { x with pl := flP s x.failed x.pl x.now } :: B := zHu _ h3.1
  simp only [Rk.flush]
  rw [hset]
  exact ⟨zIp h3 hs, zIq (wt_sub h4 fun w => flW_mem) hs⟩
structure RqOk (R : Rk) : Prop where
  dk : DkOk R.ds
  wt : WtOk R.ws R.ds
  now : zKw R
  on : On R
theorem RqOk.write {R : Rk} (h : RqOk R) {x : Dk} (hx : x ∈ R.ds) {at_ : Int} {b : List UInt8} (hO : On (R.write x at_ b)) : RqOk (R.write x at_ b) :=
  ⟨(ok_write h.dk h.wt hx at_ b).1, (ok_write h.dk h.wt hx at_ b).2, now_write h.dk h.now hx at_ b, hO⟩
theorem RqOk.flush {R : Rk} (h : RqOk R) {x : Dk} (hx : x ∈ R.ds) : RqOk (R.flush x) :=
  ⟨(ok_flush h.dk h.wt hx).1, (ok_flush h.dk h.wt hx).2, now_flush h.dk h.now hx, ⟨h.on.off, h.on.left⟩⟩
section
variable (q : Nat) (R : Rk) (C : zAs) (hC : RfC q R C)
include hC
theorem zJc (i : Nat) (x : Dk) (hx : R.ds[i]? = some x) (w0 : World) (H : Hp w0 [C]) :
    Ret Tryz.prog 61 #[ptr q, .int .i64 i] w0 fun u w' => u = .int .i64 (x.pl.length / 128 : Nat) ∧ Trs w0 w' [C] [C] := by
  obtain ⟨vd, vw, Cd, Cw, J, ys, us, h1, h2, h3, h4, rfl⟩ := hC
  obtain ⟨y, hy, hyo⟩ := h3.at hx
  obtain ⟨A, B, rfl, hAi⟩ := zHh hy
  have S := rf_out (rf_open (St.begin H))
  obtain ⟨hy1, hy2, hy3, hy4⟩ := hyo
  obtain ⟨ad, c, hv⟩ := h1.slice
  subst hv
  have hil : i < (A ++ y :: B).length := by simp; omega
  obtain ⟨g, rfl⟩ := h1.addr (by omega)
  obtain ⟨b1, b2, hvp⟩ := hy2.slice
  have hcell : ((A ++ y :: B).map fun y => ptr y.b)[i]? = some (ptr y.b) := by rw [List.getElem?_map, hy]; rfl
  have hpl : x.pl.length / 128 = y.vs.length := by omega
  refine zCy 16 Tryz.func61 rfl rfl (by decide) ?_; intro a E
  refine wp_seq_k ?_; intro K hK
  refine zAc ?_
  refine zp E (zAg E rfl rfl) ?_; clear E a; intro a E
  refine wpList_nil ?_
  refine zAh hK ?_; clear hK; clear K
  refine wp_seq_k ?_; intro K hK
  refine zAc ?_
  refine zp E (zAe E rfl rfl) ?_; clear E a; intro a E
  refine zp E (zAl E rfl rfl) ?_; clear E a; intro a E
  refine zp E (by first | exact zAf (q := 0) E rfl rfl rfl | exact zAi (q := 0) E rfl rfl rfl) ?_; clear E a; intro a E
  refine zp E (by first | exact zAn E rfl rfl rfl (S.get (by repeat (first | exact pk1 | apply zAa))) rfl | exact zAj E rfl rfl rfl (by assumption)) ?_; clear E a; intro a E
  refine zp E (zAe E rfl rfl) ?_; clear E a; intro a E
  refine zp E (by first | exact zBk E rfl rfl rfl rfl rfl rfl (by omega) | exact zBn E rfl rfl rfl rfl rfl rfl (by omega) | exact zAx E rfl rfl rfl rfl rfl rfl (by omega)) ?_; clear E a; intro a E
  refine zp E (zAj E rfl rfl rfl (h1.rd.cells (S.stab.at (by repeat (first | exact mm1 | assumption | apply List.Mem.tail))) rfl i _ hcell)) ?_; clear E a; intro a E
  refine zp E (zAl E rfl rfl) ?_; clear E a; intro a E
  refine zp E (by first | exact zAf (q := 0) E rfl rfl rfl | exact zAi (q := 0) E rfl rfl rfl) ?_; clear E a; intro a E
  refine zp E (by first | exact zAn E rfl rfl rfl (S.get (by repeat (first | exact pk1 | apply zAa))) rfl | exact zAj E rfl rfl rfl (by assumption)) ?_; clear E a; intro a E
  rw [hvp] at E
  refine zp E (by first | exact zCa E rfl rfl rfl | exact zBa E rfl rfl rfl | exact zAt E rfl rfl rfl) ?_; clear E a; intro a E
  refine zp E (zAg E rfl rfl) ?_; clear E a; intro a E
  refine wpList_nil ?_
  refine zAh hK ?_; clear hK; clear K
  refine wp_ret ?_
  refine ret1 E rfl rfl ?_
  exact ⟨_, rfl, by rw [hpl], (zGq (rf_in (S.front6 (A := [(q, _)]) (by repeat (first | exact pk1 | apply zAa)) (B := Cd) (by repeat (first | exact pk1 | apply zAa)) (C := Cw) (by repeat (first | exact pk1 | apply zAa)) (D := J) (by repeat (first | exact pk1 | apply zAa)) (F := dd1 y) (by repeat (first | exact pk1 | apply zAa)) (G := y.C) (by repeat (first | exact pk1 | apply zAa))))).tr⟩
end
theorem dplaces_ret (n : Nat) (h18 : 18 ≤ n) (hn : n ≤ 8192) (w0 : World) :
    Ret Tryz.prog 63 #[.int .i64 n] w0 fun u w' => u = .agg #[.int .i64 (plc n 0), .int .i64 (plc n 1), .int .i64 (plc n 2), .int .i64 (plc n 3)] ∧ Trs w0 w' [] [] := by
  have S := St.begin (zEt w0)
  refine zDc 8 Tryz.func63 rfl rfl (by decide) ?_; intro a E
  refine wp_seq_k ?_; intro K hK
  refine zAc ?_
  refine zAo rfl (zCc E S rfl rfl (by decide) rfl rfl rfl ?_); clear E S a; intro a w b2 E S
  refine wpList_nil ?_
  refine zAh hK ?_; clear hK; clear K
  refine wp_seq_k ?_; intro K hK
  refine zAc ?_
  refine zp E (zAe E rfl rfl) ?_; clear E a; intro a E
  refine zp E (zDf E rfl rfl rfl (by first | exact zEx (y := 18) (by omega) (by omega) | exact w_in (by omega) | exact zBy (by omega) | exact rfl)) ?_; clear E a; intro a E
  refine zp E (zAe E rfl rfl) ?_; clear E a; intro a E
  refine zp E (zDf E rfl rfl rfl (by first | exact zEx (y := 9) (by omega) (by omega) | exact w_in (by omega) | exact zBy (by omega) | exact rfl)) ?_; clear E a; intro a E
  refine zp E (zCo (cells := [_, _, _, _]) E rfl rfl rfl) ?_; clear E a; intro a E
  refine zAo rfl (zCg E S rfl rfl rfl rfl (by simp [Value.oneCell']) rfl (by repeat (first | exact pk1 | apply zAa)) (by simp) ?_); clear E S a; intro a w E S; simp only [List.take_succ_cons, List.take_zero, List.drop_succ_cons, List.drop_zero, List.cons_append, List.nil_append, List.append_nil, List.length_cons, List.length_nil, Nat.zero_add, Nat.add_zero] at S
  refine wpList_nil ?_
  refine zAh hK ?_; clear hK; clear K
  refine wp_ret ?_
  refine zKa E rfl rfl (S.get (by repeat (first | exact pk1 | apply zAa))) rfl ?_
  exact ⟨_, rfl, by simp [plc], (S.only (Bs := []) (zAk _)).tr⟩
end Go.Proofs.YtidhehcjafoneaaGreatDoor
namespace Go.Sl
theorem Wrote.atI {R R' : Rk} {x : Dk} {k : Nat} {nw : List UInt8} (h : Wrote R x k nw R') {i : Nat} (hx : R.ds[i]? = some x) : R'.ds[i]? = some { x with now := nw } := by
  rw [h.ds]; exact setD_atI (g := fun y => { y with now := nw }) hx
end Go.Sl
namespace Go.Proofs.YtidhehcjafoneaaGreatDoor
open Go.Sl
set_option maxRecDepth 10000
def DlC (p q i : Nat) (L : zAs) : Prop := ∃ u1 u2 u3 u4 u5 u6 u7, L = [(p, cel [ptr q, .int .i64 i, u1, u2, u3, u4, u5, u6, u7] 142)]
theorem dwon_ret (q : Nat) (R : Rk) (C : zAs) (hC : RfC q R C) (hR : RqOk R) (i : Nat) (x : Dk) (hx : R.ds[i]? = some x) (hf : x.failed = false) (hws : R.ws.length + 8192 ≤ 244335861110) (hwr : R.pw.wr ≤ 1000000000000000000) (at_ : Nat) (v : Value) (b : List UInt8) (D : zAs) (hD : Rd D 1 v b.length (byt b)) (hcap : ∃ ad c, v = .slice ad b.length c ∧ b.length ≤ c)
    (hm : zEu x.pl.length at_ b) (hmod : x.pl.length % 128 = 0) (w0 : World) (H : Hp w0 [C, D]) :
    Ret Tryz.prog 62 #[ptr q, .int .i64 i, .int .i64 at_, v] w0 fun u w' => u = .int .i64 0 ∧ ∃ R' C', Wrote R x (b.length / 128) (zHn x.now at_ b) R' ∧ RqOk R' ∧ RfC q R' C' ∧ Trs w0 w' [C, D] [C', D] := by
  have hxm := List.mem_of_getElem? hx
  have hl := hR.dk.2 x hxm
  obtain ⟨m1, m2, m3, m4⟩ := id hm
  refine (qwrite_ret q R C hC hR.dk i x hx hmod hws hwr (by rw [hR.on.left]; decide) at_ (by omega) v b D hD hcap w0 H).mono fun u w' ⟨C', hu, hC', hT⟩ => ?_
  obtain ⟨h1, h2⟩ := wrote_one hR.on hf hl.1 hm
  rw [h1] at hu
  exact ⟨hu, _, C', h2, hR.write hxm h2.on, hC', hT⟩
theorem dformat_ret (q : Nat) (R : Rk) (C : zAs) (hC : RfC q R C) (hR : RqOk R) (i : Nat) (x : Dk) (hx : R.ds[i]? = some x) (hf : x.failed = false) (hws : R.ws.length + 16384 ≤ 244335861110) (hwr : R.pw.wr ≤ 900000000000000000)
    (n : Nat) (hn : x.pl.length = n * 128) (O : zAs) (v : Value) (l : Lbl) (hT : Rd O 3 v l.tops.length (l.tops.flatMap Tp.lay)) (ho : l.Ok) (hl : lbE l = 0) (hsec : (l.tops.getD l.top.toNat zIf).sectors = n) (w0 : World) (H : Hp w0 [C, O]) :
    Ret Tryz.prog 30 #[ptr q, .int .i64 i, lbagg l v] w0 fun u w' => ∃ p L R' C' F, u = .tuple #[ptr p, .int .i64 0] ∧ DlC p q i L ∧ RfC q R' C' ∧ RqOk R' ∧ Wrote.Fl R x 296 F R' ∧ Trs w0 w' [C, O] [L, C', O] := by
  have S := St.begin H
  obtain ⟨y1, y2, y3, y4, y5, y6, y7⟩ := labeled hl
  have htl : l.top.toNat < l.tops.length := by omega
  have hn4 : 324 ≤ n ∧ n ≤ 8192 := by
    have := y7 (l.tops.getD l.top.toNat zIf) (by rw [List.getD_eq_getElem?_getD, List.getElem?_eq_getElem htl]; exact List.getElem_mem htl)
    obtain ⟨q1, q2, -⟩ := this
    rw [hsec] at q1 q2
    omega
  have hxm := List.mem_of_getElem? hx
  have hxl := hR.dk.2 x hxm
  have hnd := hR.dk.1
  have hd : x.pl.length / 128 = n := by omega
  have hmod : x.pl.length % 128 = 0 := by omega
  have hbl := lbO_len hl
  obtain ⟨lb, hlb⟩ : ∃ lb, lb = lbO l := ⟨_, rfl⟩
  rw [← hlb] at hbl
  obtain ⟨ad, c, rfl⟩ := hT.slice
  obtain ⟨ob, oo, rfl⟩ := hT.addr (by omega)
  obtain ⟨tn, htn⟩ : ∃ tn : Nat, l.top = tn := ⟨l.top.toNat, by omega⟩
  have hsl : (l.tops.flatMap Tp.lay)[tn * 3 + 2]? = some (.int .i64 n) := by
    have h := flat_at (lay := Tp.lay) (s := 3) Tp.lay_len l.tops tn (by omega) 2 (.int .i64 n) (by
      rw [htn, Int.toNat_natCast, List.getD_eq_getElem?_getD, List.getElem?_eq_getElem (by omega : tn < l.tops.length), Option.getD_some] at hsec
      rw [← hsec]; rfl)
    exact h
  have hz : List.replicate 35072 (.int .u8 0) = byt (List.replicate 35072 0) := (zGz 35072).symm
  have hzl : (List.replicate 35072 (0 : UInt8)).length = 35072 := List.length_replicate
  obtain ⟨zs, hzs⟩ : ∃ zs, zs = List.replicate 35072 (0 : UInt8) := ⟨_, rfl⟩
  rw [← hzs] at hz hzl
  have hy : List.replicate 2304 (.int .u8 0) = byt (List.replicate 2304 0) := (zGz 2304).symm
  have hyl : (List.replicate 2304 (0 : UInt8)).length = 2304 := List.length_replicate
  obtain ⟨zy, hzy⟩ : ∃ zy, zy = List.replicate 2304 (0 : UInt8) := ⟨_, rfl⟩
  rw [← hzy] at hy hyl
  have hW0 := Wrote.zero hR.on hnd hxm hxl.1
  refine zEs 77 Tryz.func30 rfl rfl (by decide) ?_; intro a E
  refine wp_seq_k ?_; intro K hK
  refine zAc ?_
  refine zAo rfl (zCs E S rfl rfl (by decide) rfl rfl ?_); clear E S a; intro a w b5 E S
  iterate 2 (refine zp E (zAg E rfl rfl) ?_; clear E a; intro a E)
  refine wpList_nil ?_
  refine zAh hK ?_; clear hK; clear K
  refine wp_seq_k ?_; intro K hK
  refine zAc ?_
  refine zp E (zBw (vs := [_, _, _, _]) E rfl rfl rfl (S.get (by repeat (first | exact pk1 | apply zAa))) rfl rfl) ?_; clear E a; intro a E
  refine zAr E rfl rfl (by decide) rfl Tryz.func60 rfl (by kernel_rfl) rfl (dlbencode_ret O _ l hT ho _ (S.hp.sel (zAd (by repeat (first | exact pk1 | apply zAa)) (zAk _)))) ?_
  rintro v15 w ⟨vb, D, rfl, hD, hT'⟩; clear E a; intro a E
  have S := S.call2 (zAd (by repeat (first | exact pk1 | apply zAa)) (zAk _)) hT'; rw [hl] at E; rw [← hlb] at hD
  obtain ⟨add, cd, rfl⟩ := hD.slice
  have hcd := hD.cap_le
  refine zp E (zAe E rfl rfl) ?_; clear E a; intro a E
  iterate 2 (refine zp E (zBx E rfl rfl rfl) ?_; clear E a; intro a E)
  iterate 2 (refine zp E (zAg E rfl rfl) ?_; clear E a; intro a E)
  refine wpList_nil ?_
  refine zAh hK ?_; clear hK; clear K
  iterate 2 (refine wp_seq_k ?_; intro K hK)
  refine zAc ?_
  refine zp E (zAe E rfl rfl) ?_; clear E a; intro a E
  refine zp E (by first | exact zCu E rfl rfl rfl | exact zAz E rfl rfl rfl rfl | exact zBj E rfl rfl rfl rfl | exact zBd E rfl rfl rfl) ?_; clear E a; intro a E
  refine wpList_nil ?_
  refine zAh hK ?_; clear hK; clear K
  refine zBt E rfl (rfl) ?_
  refine wp_skip ?_
  refine zAh hK ?_; clear hK; clear K
  refine wp_seq_k ?_; intro K hK
  refine zAc ?_
  iterate 2 (refine zp E (zAe E rfl rfl) ?_; clear E a; intro a E)
  refine zAr E rfl rfl (by decide) rfl Tryz.func61 rfl (by kernel_rfl) rfl (zJc q R C hC i x hx _ (S.hp.sel (zAd (by repeat (first | exact pk1 | apply zAa)) (zAk _)))) ?_
  rintro v23 w ⟨rfl, hT'⟩; clear E a; intro a E
  have S := S.call1 (zAd (by repeat (first | exact pk1 | apply zAa)) (zAk _)) hT'; rw [hd] at E
  refine zp E (zAg E rfl rfl) ?_; clear E a; intro a E
  refine wpList_nil ?_
  refine zAh hK ?_; clear hK; clear K
  iterate 2 (refine wp_seq_k ?_; intro K hK)
  refine zAc ?_
  refine zp E (by first | exact zAf (q := 1) E rfl rfl rfl | exact zAi (q := 1) E rfl rfl rfl) ?_; clear E a; intro a E
  refine zp E (by first | exact zAn E rfl rfl rfl (S.get (by repeat (first | exact pk1 | apply zAa))) rfl | exact zAj E rfl rfl rfl (by assumption)) ?_; clear E a; intro a E
  refine zp E (by first | exact zAf (q := 2) E rfl rfl rfl | exact zAi (q := 2) E rfl rfl rfl) ?_; clear E a; intro a E
  refine zp E (by first | exact zAn E rfl rfl rfl (S.get (by repeat (first | exact pk1 | apply zAa))) rfl | exact zAj E rfl rfl rfl (by assumption)) ?_; clear E a; intro a E
  refine zp E (zBn (i := tn) E rfl rfl rfl rfl rfl htn (by omega)) ?_; clear E a; intro a E
  refine zp E (by first | exact zAf (q := 2) E rfl rfl rfl | exact zAi (q := 2) E rfl rfl rfl) ?_; clear E a; intro a E
  refine zp E (zAj E rfl rfl rfl (hT.cells (S.stab.at (by repeat (first | exact mm1 | assumption | apply List.Mem.tail))) rfl (tn * 3 + 2) _ hsl)) ?_; clear E a; intro a E
  refine zp E (zAe E rfl rfl) ?_; clear E a; intro a E
  refine zp E (by first | exact zCu E rfl rfl rfl | exact zAz E rfl rfl rfl rfl | exact zBj E rfl rfl rfl rfl | exact zBd E rfl rfl rfl) ?_; clear E a; intro a E
  refine wpList_nil ?_
  refine zAh hK ?_; clear hK; clear K
  refine zBt E rfl ((by simp)) ?_
  refine wp_skip ?_
  refine zAh hK ?_; clear hK; clear K
  refine wp_seq_k ?_; intro K hK
  replace E := E.keep (e' := [(0, _), (1, _), (5, _), (6, _), (7, _), (8, _), (9, _), (10, _)]) (zAb rfl (zAb rfl (zAb rfl (zAb rfl (zAb rfl (zAb rfl (zAb rfl (zAb rfl (zAp)))))))))
  refine zAc ?_
  iterate 2 (refine zp E (zAe E rfl rfl) ?_; clear E a; intro a E)
  refine zAo rfl (zDq (by' := 1) E S rfl rfl (by decide) rfl rfl rfl rfl rfl rfl rfl rfl rfl rfl rfl (k := 35072) (mkb (by omega)) (by simp only [maxLen]; omega) ?_); clear E S a; intro a w g35 E S
  rw [hz] at S
  refine zAr E rfl rfl (by decide) rfl Tryz.func62 rfl (by kernel_rfl) rfl (dwon_ret q R C hC hR i x hx hf (by omega) (by omega) 0 _ zs [(g35, _)] (by rw [hzl]; exact zCr (T := 5) (by rw [zBm, hzl]) (zDv _) (by omega) _) ⟨_, _, by rw [hzl], by rw [hzl]; exact Nat.le_refl _⟩ (by unfold zEu; rw [hzl]; omega) hmod _ (S.hp.sel (zAd (by repeat (first | exact pk1 | apply zAa)) (zAd (by repeat (first | exact pk1 | apply zAa)) (zAk _))))) ?_
  rintro v36 w ⟨rfl, R1, C1, hW1, hR1, hC1, hT'⟩; clear E a; intro a E
  have S := S.call2 (zAd (by repeat (first | exact pk1 | apply zAa)) (zAd (by repeat (first | exact pk1 | apply zAa)) (zAk _))) hT'; rw [hzl] at hW1
  refine zp E (zAg E rfl rfl) ?_; clear E a; intro a E
  refine wpList_nil ?_
  refine zAh hK ?_; clear hK; clear K
  iterate 2 (refine wp_seq_k ?_; intro K hK)
  refine zAc ?_
  refine zp E (zAe E rfl rfl) ?_; clear E a; intro a E
  refine zp E (by first | exact zCf E rfl rfl rfl | exact zAu E rfl rfl rfl rfl | exact zBc E rfl rfl rfl rfl | exact zAw E rfl rfl rfl) ?_; clear E a; intro a E
  refine wpList_nil ?_
  refine zAh hK ?_; clear hK; clear K
  refine zDa E rfl (rfl) ?_
  obtain ⟨t1, ht1, ht2, ht3⟩ := hW1.ws
  have hx1 := hW1.atI hx
  have hb1 : R1.ws.length + 8192 ≤ 244335861110 := by rw [ht1, List.length_append]; omega
  have hb2 : R1.pw.wr ≤ 1000000000000000000 := by rw [hW1.wr]; omega
  refine zAc ?_
  iterate 3 (refine zp E (zAe E rfl rfl) ?_; clear E a; intro a E)
  refine zp E (zDf E rfl rfl rfl (by first | exact zEx (y := 18) (by omega) (by omega) | exact w_in (by omega) | exact zBy (by omega) | exact rfl)) ?_; clear E a; intro a E
  refine zAo rfl (zDq (by' := 1) E S rfl rfl (by decide) rfl rfl rfl rfl rfl rfl rfl rfl rfl rfl rfl (k := 2304) (mkb (by omega)) (by simp only [maxLen]; omega) ?_); clear E S a; intro a w g43 E S
  rw [hy] at S
  refine zAr E rfl rfl (by decide) rfl Tryz.func62 rfl (by kernel_rfl) rfl (dwon_ret q R1 C1 hC1 hR1 i _ hx1 hf hb1 hb2 (n - 18) _ zy [(g43, _)] (by rw [hyl]; exact zCr (T := 5) (by rw [zBm, hyl]) (zDv _) (by omega) _) ⟨_, _, by rw [hyl], by rw [hyl]; exact Nat.le_refl _⟩ (by show zEu x.pl.length ((n - 18 : Nat) : Int) zy; unfold zEu; rw [hyl]; omega) hmod _ (S.hp.sel (zAd (by repeat (first | exact pk1 | apply zAa)) (zAd (by repeat (first | exact pk1 | apply zAa)) (zAk _))))) ?_
  rintro v44 w ⟨rfl, R2, C2, hW2, hR2, hC2, hT'⟩; clear E a; intro a E
  have S := S.call2 (zAd (by repeat (first | exact pk1 | apply zAa)) (zAd (by repeat (first | exact pk1 | apply zAa)) (zAk _))) hT'; rw [hyl] at hW2; have hW2 := hW1.more hW2
  refine zp E (zAg E rfl rfl) ?_; clear E a; intro a E
  refine wpList_nil ?_
  refine zAh hK ?_; clear hK; clear K
  refine wp_seq_k ?_; intro K hK
  refine zAc ?_
  refine zp E (zAe E rfl rfl) ?_; clear E a; intro a E
  refine zAr E rfl rfl (by decide) rfl Tryz.func63 rfl (by kernel_rfl) rfl (dplaces_ret n (by omega) (by omega) _) ?_
  rintro v46 w ⟨rfl, hT'⟩; clear E a; intro a E
  have S := S.quiet hT'
  refine zAo rfl (zCc E S rfl rfl (by decide) rfl rfl rfl ?_); clear E S a; intro a w b11 E S
  refine zAo rfl (zCg E S rfl rfl rfl rfl (by simp [Value.oneCell']) rfl (by repeat (first | exact pk1 | apply zAa)) (by simp) ?_); clear E S a; intro a w E S; simp only [List.take_succ_cons, List.take_zero, List.drop_succ_cons, List.drop_zero, List.cons_append, List.nil_append, List.append_nil, List.length_cons, List.length_nil, Nat.zero_add, Nat.add_zero] at S
  refine wpList_nil ?_
  refine zAh hK ?_; clear hK; clear K
  iterate 2 (refine wp_seq_k ?_; intro K hK)
  replace E := E.keep (e' := [(0, _), (1, _), (5, _), (6, _), (7, _), (8, _), (9, _), (11, _)]) (zAb rfl (zAb rfl (zAb rfl (zAb rfl (zAb rfl (zAb rfl (zAb rfl (zAb rfl (zAp)))))))))
  refine zAc ?_
  refine zp E (zAg E rfl rfl) ?_; clear E a; intro a E
  refine wpList_nil ?_
  refine zAh hK ?_; clear hK; clear K
  refine wp_block ?_
  refine wp_loop_ghost (fun (m : Nat) (a : Act) (w' : World) => ∃ (k : Nat) (R' : Rk) (C' : zAs) (nw : List UInt8), m = 4 - k ∧ k ≤ 4 ∧ RfC q R' C' ∧ RqOk R' ∧ Wrote R x (292 + k) nw R' ∧ (∃ Xs, St w0 [C, O] w' (C' :: D :: [(b11, cel [.int .i64 (plc n 0), .int .i64 (plc n 1), .int .i64 (plc n 2), .int .i64 (plc n 3)] 133)] :: [(b5, cel [.int .u64 l.pool, .slice (some ⟨ob, oo, none⟩) l.tops.length c, .int .i64 l.top, .int .i64 l.place] 77)] :: O :: Xs)) ∧ Fr a 77 [(0, ptr q), (1, .int .i64 i), (5, ptr b5), (8, .slice add lb.length cd), (9, .int .i64 0), (11, ptr b11), (12, .int .i64 k)]) (4 - 0) ?_ ?_
  · exact ⟨0, R2, C2, _, rfl, by omega, hC2, hR2, hW2, ⟨_, S.front5 (A := C2) (by repeat (first | exact pk1 | apply zAa)) (B := D) (by repeat (first | exact pk1 | apply zAa)) (C := [(b11, _)]) (by repeat (first | exact pk1 | apply zAa)) (D := [(b5, _)]) (by repeat (first | exact pk1 | apply zAa)) (F := O) (by repeat (first | exact pk1 | apply zAa))⟩, E.keep (zAb rfl (zAb rfl (zAb rfl (zAb rfl (zAb rfl (zAb rfl (zAb rfl zAp)))))))⟩
  clear E; clear a; (try clear S); rintro m a w ⟨k, R', C', nw, rfl, hk, hC', hR', hW, ⟨Xs, S⟩, E⟩
  iterate 2 (refine wp_seq_k ?_; intro K hK)
  refine zAc ?_
  refine zp E (zAe E rfl rfl) ?_; clear E a; intro a E
  refine zp E (zCb E rfl rfl rfl) ?_; clear E a; intro a E
  refine wpList_nil ?_
  refine zAh hK ?_; clear hK; clear K
  refine zBl E rfl (fun hb => ?_) (fun hb => ?_)
  · replace hb := Nrm.nrm hb
    refine wp_skip ?_
    refine zAh hK ?_; clear hK; clear K
    refine wp_seq_k ?_; intro K hK
    refine wp_block ?_
    refine wp_seq_k ?_; intro K hK
    refine zAc ?_
    refine zp E (zAe E rfl rfl) ?_; clear E a; intro a E
    refine zp E (by first | exact zCf E rfl rfl rfl | exact zAu E rfl rfl rfl rfl | exact zBc E rfl rfl rfl rfl | exact zAw E rfl rfl rfl) ?_; clear E a; intro a E
    refine wpList_nil ?_
    refine zAh hK ?_; clear hK; clear K
    refine zDa E rfl (rfl) ?_
    have hk4 : k < 4 := by omega
    obtain ⟨t1, ht1, ht2, ht3⟩ := hW.ws
    have hx1 := hW.atI hx
    have hb1 : R'.ws.length + 8192 ≤ 244335861110 := by rw [ht1, List.length_append]; omega
    have hb2 : R'.pw.wr ≤ 1000000000000000000 := by rw [hW.wr]; omega
    have hpk : plc n k + 1 ≤ n := by unfold plc; split; omega; split; omega; split <;> omega
    refine zAc ?_
    iterate 3 (refine zp E (zAe E rfl rfl) ?_; clear E a; intro a E)
    refine zp E (by first | exact zBk E rfl rfl rfl rfl rfl rfl (by omega) | exact zBn E rfl rfl rfl rfl rfl rfl (by omega) | exact zAx E rfl rfl rfl rfl rfl rfl (by omega)) ?_; clear E a; intro a E
    refine zp E (zAj E rfl rfl rfl (zCt (S.get (show List.Perm _ ([(b11, _)] :: _) from (by repeat (first | exact pk1 | apply zAa)))) (v := .int .i64 (plc n k)) (by rcases (show k = 0 ∨ k = 1 ∨ k = 2 ∨ k = 3 by omega) with rfl | rfl | rfl | rfl <;> rfl))) ?_; clear E a; intro a E
    refine zp E (zAe E rfl rfl) ?_; clear E a; intro a E
    refine zAr E rfl rfl (by decide) rfl Tryz.func62 rfl (by kernel_rfl) rfl (dwon_ret q R' C' hC' hR' i _ hx1 hf hb1 hb2 (plc n k) _ lb D hD.rd ⟨_, _, rfl, hcd⟩ (by show zEu x.pl.length (plc n k : Int) lb; unfold zEu; omega) hmod _ (S.hp.sel (zAd (by repeat (first | exact pk1 | apply zAa)) (zAd (by repeat (first | exact pk1 | apply zAa)) (zAk _))))) ?_
    rintro v59 w ⟨rfl, R3, C3, hW3, hR3, hC3, hT'⟩; clear E a; intro a E
    have S := S.call2 (zAd (by repeat (first | exact pk1 | apply zAa)) (zAd (by repeat (first | exact pk1 | apply zAa)) (zAk _))) hT'; rw [hbl] at hW3; have hW3 := hW.more hW3
    refine zp E (zAg E rfl rfl) ?_; clear E a; intro a E
    refine wpList_nil ?_
    refine zBf ?_
    refine zAh hK ?_; clear hK; clear K
    refine zAc ?_
    refine zp E (zAe E rfl rfl) ?_; clear E a; intro a E
    refine zp E (zBu E rfl rfl rfl (by first | exact zCj (y := 1) (by omega) | exact w_in (by omega) | exact zBy (by omega) | exact rfl)) ?_; clear E a; intro a E
    refine zp E (zAg E rfl rfl) ?_; clear E a; intro a E
    refine wpList_nil ?_
    refine zBe ?_
    exact ⟨_, by omega, k + 1, R3, C3, _, rfl, by omega, hC3, hR3, hW3, ⟨_, S.front5 (A := C3) (by repeat (first | exact pk1 | apply zAa)) (B := D) (by repeat (first | exact pk1 | apply zAa)) (C := [(b11, _)]) (by repeat (first | exact pk1 | apply zAa)) (D := [(b5, _)]) (by repeat (first | exact pk1 | apply zAa)) (F := O) (by repeat (first | exact pk1 | apply zAa))⟩, E.keep (zAb rfl (zAb rfl (zAb rfl (zAb rfl (zAb rfl (zAb rfl (zAb rfl zAp)))))))⟩
  · replace hb := Nrm.nrm hb
    refine wp_exit ?_
    refine zBb ?_; clear hK; clear K
    refine zBb ?_
    refine zCm ?_
    refine zAh hK ?_; clear hK; clear K
    iterate 2 (refine wp_seq_k ?_; intro K hK)
    refine zAc ?_
    refine zp E (zAe E rfl rfl) ?_; clear E a; intro a E
    refine zp E (by first | exact zCf E rfl rfl rfl | exact zAu E rfl rfl rfl rfl | exact zBc E rfl rfl rfl rfl | exact zAw E rfl rfl rfl) ?_; clear E a; intro a E
    refine wpList_nil ?_
    refine zAh hK ?_; clear hK; clear K
    refine zDa E rfl (rfl) ?_
    obtain rfl : k = 4 := by omega
    obtain ⟨t1, ht1, ht2, ht3⟩ := hW.ws
    have hx1 := hW.atI hx
    have hx1m := List.mem_of_getElem? hx1
    refine zAc ?_
    iterate 2 (refine zp E (zAe E rfl rfl) ?_; clear E a; intro a E)
    refine zAr E rfl rfl (by decide) rfl Tryz.func64 rfl (by kernel_rfl) rfl (qflush_ret q R' C' hC' hR'.dk hR'.wt hR'.now (by rw [ht1, List.length_append]; omega) i _ hx1 _ (S.hp.sel (zAd (by repeat (first | exact pk1 | apply zAa)) (zAk _)))) ?_
    rintro v64 w ⟨rfl, C3, hC3, hT'⟩; clear E a; intro a E
    have S := S.call1 (zAd (by repeat (first | exact pk1 | apply zAa)) (zAk _)) hT'; obtain ⟨h0, hFl⟩ := hW.flush hf; rw [h0] at E
    refine zp E (zAg E rfl rfl) ?_; clear E a; intro a E
    refine wpList_nil ?_
    refine zAh hK ?_; clear hK; clear K
    iterate 2 (refine wp_seq_k ?_; intro K hK)
    refine zAc ?_
    refine zp E (zAe E rfl rfl) ?_; clear E a; intro a E
    refine zp E (by first | exact zCu E rfl rfl rfl | exact zAz E rfl rfl rfl rfl | exact zBj E rfl rfl rfl rfl | exact zBd E rfl rfl rfl) ?_; clear E a; intro a E
    refine wpList_nil ?_
    refine zAh hK ?_; clear hK; clear K
    refine zBt E rfl (rfl) ?_
    refine wp_skip ?_
    refine zAh hK ?_; clear hK; clear K
    refine wp_seq_k ?_; intro K hK
    refine zAc ?_
    refine zp E (by first | exact zAf (q := 1) E rfl rfl rfl | exact zAi (q := 1) E rfl rfl rfl) ?_; clear E a; intro a E
    refine zp E (by first | exact zAn E rfl rfl rfl (S.get (by repeat (first | exact pk1 | apply zAa))) rfl | exact zAj E rfl rfl rfl (by assumption)) ?_; clear E a; intro a E
    have S := S.addNil
    refine zAo rfl (zCi (by' := 24) E S rfl rfl (by decide) rfl rfl (Buf.nil 131 3) (by repeat (first | exact pk1 | apply zAa)) (hT.src (S.stab.at (by repeat (first | exact mm1 | assumption | apply List.Mem.tail))) rfl) rfl rfl rfl rfl rfl rfl (by simp only [maxLen]; omega) (by omega) ?_); clear E S a; intro a w v70 C70 E S hB70
    obtain ⟨adt, ct, rfl⟩ := hB70.slice
    refine zp E (by first | exact zAf (q := 1) E rfl rfl rfl | exact zAi (q := 1) E rfl rfl rfl) ?_; clear E a; intro a E
    refine zAo rfl (zBg E S rfl rfl rfl rfl rfl rfl (by repeat (first | exact pk1 | apply zAa)) (by first | exact Nat.le_of_ble_eq_true rfl | (simp; done) | (simp; omega)) ?_); clear E S a; intro a w E S; try dsimp only [List.set] at S
    refine wpList_nil ?_
    refine zAh hK ?_; clear hK; clear K
    refine wp_seq_k ?_; intro K hK
    refine zAc ?_
    iterate 2 (refine zp E (zAe E rfl rfl) ?_; clear E a; intro a E)
    refine zp E (zBw (vs := [_, _, _, _]) E rfl rfl rfl (S.get (by repeat (first | exact pk1 | apply zAa))) rfl rfl) ?_; clear E a; intro a E
    refine zp E (zCo (cells := [_, _, _, _, _, _, _, _, _]) E rfl rfl rfl) ?_; clear E a; intro a E
    refine zAo rfl (zCs E S rfl rfl (by decide) rfl rfl ?_); clear E S a; intro a w b76 E S
    iterate 2 (refine zp E (zAg E rfl rfl) ?_; clear E a; intro a E)
    refine wpList_nil ?_
    refine zAh hK ?_; clear hK; clear K
    refine wp_ret ?_
    refine ret2 E rfl rfl rfl ?_
    exact ⟨_, rfl, b76, _, _, C3, nw, rfl, ⟨_, _, _, _, _, _, _, rfl⟩, hC3, hR'.flush hx1m, hFl, (S.only (Bs := [[(b76, _)], C3, O]) (zAd (by repeat (first | exact pk1 | apply zAa)) (zAd (by repeat (first | exact pk1 | apply zAa)) (zAd (by repeat (first | exact pk1 | apply zAa)) (zAk _))))).tr⟩
end Go.Proofs.YtidhehcjafoneaaGreatDoor
namespace Go.Proofs.YtidhehcjafoneaaGreatDoor
open Go.Sl
set_option maxRecDepth 10000
structure Fresh (i : Nat) (R : Rk) : Prop where
  on : On R
  len : R.ds.length = i
  ws : R.ws = []
  wr : R.pw.wr = 296 * i
  ok : ∀ y ∈ R.ds, y.failed = false ∧ y.pl.length = 41472
  dk : DkOk R.ds
theorem Fresh.zero : Fresh 0 ⟨⟨-1, false, 0⟩, [], []⟩ := ⟨⟨rfl, rfl⟩, rfl, rfl, rfl, by simp, by simp [DkOk]⟩
structure Added (R : Rk) (x : Dk) (R' : Rk) : Prop where
  pw : R'.pw = R.pw
  ws : R'.ws = R.ws
  ds : R'.ds = R.ds ++ [x]
  ne : ∀ y ∈ R.ds, y.d ≠ x.d
  fl : x.failed = false
  pl : x.pl.length = 41472
  nw : x.now.length = 41472
theorem added {R : Rk} {d gp gn : Nat} (h : ∀ y ∈ R.ds, y.d ≠ d) : ∃ x, x.d = d ∧ Added R x (R.add d gp gn 324) :=
  ⟨⟨d, gp, gn, List.replicate (324 * 128) 0, List.replicate (324 * 128) 0, false⟩, rfl, rfl, rfl, rfl, h, rfl, List.length_replicate, List.length_replicate⟩
theorem Added.dk {R R' : Rk} {x : Dk} (h : Added R x R') (hd : DkOk R.ds) : DkOk R'.ds := by
  obtain ⟨h1, h2⟩ := hd
  rw [h.ds]
  refine ⟨?_, fun y hy => ?_⟩
  · rw [List.map_append, List.nodup_append]
    refine ⟨h1, by simp, fun a ha b hb => ?_⟩
    simp only [List.map_cons, List.map_nil, List.mem_singleton] at hb
    subst hb
    obtain ⟨y, hy, rfl⟩ := List.mem_map.1 ha
    exact h.ne y hy
  · rcases List.mem_append.1 hy with hy | hy
    · exact h2 y hy
    · rw [List.mem_singleton.1 hy, h.pl, h.nw]; omega
theorem Added.at {R R' : Rk} {x : Dk} (h : Added R x R') : x ∈ R'.ds := by rw [h.ds]; simp
theorem Added.on {R R' : Rk} {x : Dk} (h : Added R x R') (hO : On R) : On R' := ⟨by rw [h.pw]; exact hO.off, by rw [h.pw]; exact hO.left⟩
theorem Fresh.step {i : Nat} {R R1 R2 : Rk} {x : Dk} {F : List UInt8} (h : Fresh i R) (ha : Added R x R1) (hf : Wrote.Fl R1 x 296 F R2) : Fresh (i + 1) R2 ∧ R2.ds.map Dk.d = R.ds.map Dk.d ++ [x.d] := by
  have hds : R2.ds = R.ds ++ [{ x with pl := F, now := F }] := by
    rw [hf.ds, ha.ds, setD, List.map_append]
    congr 1
    · conv => rhs; rw [← List.map_id R.ds]
      exact List.map_congr_left fun y hy => by rw [if_neg (ha.ne y hy)]; rfl
    · simp
  refine ⟨⟨hf.on, by rw [hds]; simp [h.len], by rw [hf.ws, ha.ws, h.ws]; rfl, by rw [hf.wr, ha.pw, h.wr]; omega, fun y hy => ?_, ?_⟩, by rw [hds]; simp⟩
  · rw [hds] at hy
    rcases List.mem_append.1 hy with hy | hy
    · exact h.ok y hy
    · rw [List.mem_singleton.1 hy]; exact ⟨ha.fl, by rw [← ha.pl, ← hf.ln]⟩
  · have h1 := (ha.dk h.dk).1
    refine ⟨?_, fun y hy => ?_⟩
    · rw [hds]; rw [ha.ds] at h1; simpa using h1
    · rw [hds] at hy
      rcases List.mem_append.1 hy with hy | hy
      · exact h.dk.2 y hy
      · rw [List.mem_singleton.1 hy]
        have h5 := hf.ln
        have h6 := ha.pl
        exact ⟨rfl, by show F.length ≤ _; omega⟩
def lab0 : Lbl := ⟨3, [⟨1, 1, 324⟩], 0, 0⟩
theorem lab0_ok : lab0.Ok := ⟨by decide, by decide, by decide, fun t ht => by
  rw [show lab0.tops = [⟨1, 1, 324⟩] from rfl, List.mem_singleton] at ht; subst ht; exact ⟨by decide, by decide, by decide⟩⟩
theorem lab0_e : lbE lab0 = 0 := by decide
theorem lab0_sec : (lab0.tops.getD lab0.top.toNat zIf).sectors = (324 : Nat) := rfl
theorem label_ret (w0 : World) : Ret Tryz.prog 29 #[] w0 fun u w' => ∃ v O, u = lbagg lab0 v ∧ Rd O 3 v lab0.tops.length (lab0.tops.flatMap Tp.lay) ∧ Trs w0 w' [] [O] := by
  have S := St.begin (zEt w0)
  refine zKx 4 Tryz.func29 rfl rfl ?_; intro a E
  refine wp_seq_k ?_; intro K hK
  refine zAc ?_
  refine zAo rfl (zCc E S rfl rfl (by decide) rfl rfl rfl ?_); clear E S a; intro a w b0 E S
  refine wpList_nil ?_
  refine zAh hK ?_; clear hK; clear K
  refine wp_seq_k ?_; intro K hK
  refine zAc ?_
  refine zp E (zCo (cells := [_, _, _]) E rfl rfl rfl) ?_; clear E a; intro a E
  refine zAo rfl (zCk (cells := [.int .i64 1, .int .i64 1, .int .i64 324]) E S rfl rfl (by decide) rfl rfl rfl rfl rfl (by decide) rfl ?_); clear E S a; intro a w b2 E S
  refine zp E (zCo (cells := [_, _, _, _]) E rfl rfl rfl) ?_; clear E a; intro a E
  refine zAo rfl (zCg E S rfl rfl rfl rfl (by simp [Value.oneCell']) rfl (by repeat (first | exact pk1 | apply zAa)) (by simp) ?_); clear E S a; intro a w E S; simp only [List.take_succ_cons, List.take_zero, List.drop_succ_cons, List.drop_zero, List.cons_append, List.nil_append, List.append_nil, List.length_cons, List.length_nil, Nat.zero_add, Nat.add_zero] at S
  refine wpList_nil ?_
  refine zAh hK ?_; clear hK; clear K
  refine wp_ret ?_
  refine zKa E rfl rfl (S.get (by repeat (first | exact pk1 | apply zAa))) rfl ?_
  exact ⟨_, rfl, _, [(b2, _)], rfl, zCr (T := 131) (xs := [.int .i64 1, .int .i64 1, .int .i64 324]) (s := 3) (m := 1) rfl (by simp [Value.oneCell']) (by omega) 1, (S.only (Bs := [[(b2, _)]]) (zAd (by repeat (first | exact pk1 | apply zAa)) (zAk _))).tr⟩
theorem newd_ret (p : Nat) (R : Rk) (C : zAs) (hC : RkC p R C) (hl : R.ds.length ≤ 1000) (w0 : World) (H : Hp w0 [C]) :
    Ret Tryz.prog 26 #[ptr p, .int .i64 324] w0 fun u w' => ∃ x R' C', u = .tuple #[ptr x.d, .int .i64 0] ∧ Added R x R' ∧ RkC p R' C' ∧ Trs w0 w' [C] [C'] := by
  refine (rk_new p R C hC hl 324 (by omega) (by omega) w0 H).mono fun u w' ⟨d, gp, gn, C', hu, hne, hC', hT⟩ => ?_
  obtain ⟨x, hxd, hA⟩ := added (gp := gp) (gn := gn) hne
  exact ⟨x, _, C', by rw [hxd]; exact hu, hA, hC', hT⟩
theorem exists_above (l : List Nat) : ∃ d, ∀ y ∈ l, y ≠ d := by
  suffices h : ∃ d, ∀ y ∈ l, y < d by obtain ⟨d, hd⟩ := h; exact ⟨d, fun y hy => Nat.ne_of_lt (hd y hy)⟩
  induction l with
  | nil => exact ⟨0, by simp⟩
  | cons a r ih =>
    obtain ⟨d, hd⟩ := ih
    refine ⟨d + a + 1, fun y hy => ?_⟩
    rcases List.mem_cons.1 hy with rfl | hy
    · omega
    · have := hd y hy; omega
theorem qnewd_ret (q : Nat) (R : Rk) (C : zAs) (hC : RfC q R C) (hR : RqOk R) (hl : R.ds.length ≤ 1000) (w0 : World) (H : Hp w0 [C]) :
    Ret Tryz.prog 27 #[ptr q, .int .i64 324] w0 fun u w' => ∃ x R' C', u = .tuple #[.int .i64 R.ds.length, .int .i64 0] ∧ Added R x R' ∧ RqOk R' ∧ RfC q R' C' ∧ Trs w0 w' [C] [C'] := by
  refine (qadd_ret q R C hC hl 324 (by omega) (by omega) w0 H).mono fun u w' ⟨C', hu, hC', hT⟩ => ?_
  obtain ⟨d, hd⟩ := exists_above (R.ds.map Dk.d)
  have hne : ∀ y ∈ R.ds, y.d ≠ d := fun y hy => hd _ (List.mem_map_of_mem hy)
  obtain ⟨x, hxd, hA⟩ := added (gp := 0) (gn := 0) hne
  refine ⟨x, _, C', hu, hA, ⟨hA.dk hR.dk, fun w hw => ?_, now_add hR.wt hR.now d 0 0 324 hne, hA.on hR.on⟩, hC' d 0 0, hT⟩
  obtain ⟨⟨y, hy, hyd⟩, h2⟩ := hR.wt w hw
  refine ⟨⟨y, by rw [hA.ds]; exact List.mem_append_left _ hy, hyd⟩, fun z hz hzd => ?_⟩
  rw [hA.ds] at hz
  rcases List.mem_append.1 hz with hz | hz
  · exact h2 z hz hzd
  · rw [List.mem_singleton.1 hz] at hzd
    exact absurd (hyd.trans hzd.symm) (hA.ne y hy)
end Go.Proofs.YtidhehcjafoneaaGreatDoor
namespace Go.Proofs.YtidhehcjafoneaaGreatDoor
open Go.Sl
set_option maxRecDepth 10000
def DvC (q : Nat) : List (Nat × Nat) → zAs → Prop
  | [], C => C = []
  | m :: r, C => ∃ L C', DlC m.1 q m.2 L ∧ DvC q r C' ∧ C = L ++ C'
theorem DvC.at {q : Nat} : ∀ {ms : List (Nat × Nat)} {C : zAs} (_ : DvC q ms C) {i : Nat} {x : Nat × Nat} (_ : ms[i]? = some x), ∃ A L B, C = A ++ (L ++ B) ∧ DlC x.1 q x.2 L
  | m :: r, C, h, i, x, hi => by
    obtain ⟨L0, C', h1, h2, rfl⟩ := h
    cases i with
    | zero => simp at hi; subst hi; exact ⟨[], L0, C', rfl, h1⟩
    | succ i =>
      obtain ⟨A, L, B, rfl, g2⟩ := DvC.at (ms := r) h2 (i := i) (by simpa using hi)
      exact ⟨L0 ++ A, L, B, by rw [List.append_assoc], g2⟩
  | [], _, _, i, x, hi => by simp at hi
theorem DvC.snoc {q : Nat} : ∀ {ms : List (Nat × Nat)} {C : zAs} (_ : DvC q ms C) {x : Nat × Nat} {L : zAs} (_ : DlC x.1 q x.2 L), DvC q (ms ++ [x]) (C ++ L)
  | [], C, h, x, L, hL => by
    have h : C = [] := h
    subst h
    exact ⟨L, [], hL, rfl, by simp⟩
  | y :: r, C, h, x, L, hL => by
    obtain ⟨L0, C', h1, h2, rfl⟩ := h
    exact ⟨L0, C' ++ L, h1, DvC.snoc (ms := r) h2 hL, by rw [List.append_assoc]⟩
section
variable (q : Nat) (R : Rk) (C : zAs) (hC : RfC q R C) (ms : List (Nat × Nat)) (Dv : zAs) (hDv : DvC q ms Dv) (hds : ∀ m ∈ ms, ∃ x, R.ds[m.2]? = some x ∧ x.pl.length = 41472)
include hC hDv hds
theorem dlsize_in (i : Nat) (x : Nat × Nat) (hx : ms[i]? = some x) (w0 : World) (H : Hp w0 [C, Dv]) :
    Ret Tryz.prog 85 #[ptr x.1] w0 fun u w' => u = .int .i64 32 ∧ Trs w0 w' [C, Dv] [C, Dv] := by
  obtain ⟨y, hy, hyl⟩ := hds x (List.mem_of_getElem? hx)
  obtain ⟨A, L, B, rfl, u1, u2, u3, u4, u5, u6, u7, rfl⟩ := hDv.at hx
  have S := ((St.begin H).perm2).openMid
  suffices h : ∀ w1, Hp w1 [C, [(x.1, cel [ptr q, .int .i64 x.2, u1, u2, u3, u4, u5, u6, u7] 142)]] → Ret Tryz.prog 85 #[ptr x.1] w1 fun u w' => u = .int .i64 32 ∧ Trs w1 w' [C, [(x.1, cel [ptr q, .int .i64 x.2, u1, u2, u3, u4, u5, u6, u7] 142)]] [C, [(x.1, cel [ptr q, .int .i64 x.2, u1, u2, u3, u4, u5, u6, u7] 142)]] by
    refine (h w0 (S.hp.sel (zAd (by repeat (first | exact pk1 | apply zAa)) (zAd (by repeat (first | exact pk1 | apply zAa)) (zAk _))))).mono fun u w' ⟨hu, hT⟩ => ?_
    have S := S.call2 (zAd (by repeat (first | exact pk1 | apply zAa)) (zAd (by repeat (first | exact pk1 | apply zAa)) (zAk _))) hT
    exact ⟨hu, ((S.front3 (A := [(x.1, _)]) (by repeat (first | exact pk1 | apply zAa)) (B := A) (by repeat (first | exact pk1 | apply zAa)) (C := B) (by repeat (first | exact pk1 | apply zAa))).closeMid.perm2).tr⟩
  clear S H w0
  intro w0 H
  have S := St.begin H
  refine zDc 13 Tryz.func85 rfl rfl (by decide) ?_; intro a E
  refine wp_seq_k ?_; intro K hK
  refine zAc ?_
  refine zp E (zAg E rfl rfl) ?_; clear E a; intro a E
  refine wpList_nil ?_
  refine zAh hK ?_; clear hK; clear K
  refine wp_seq_k ?_; intro K hK
  refine zBo S (.ofL [(0, 0), (1, 0), (2, 0), (3, 0), (4, 0), (5, 0), (6, 0), (7, 0), (8, 3), (9, 2), (10, 2)]) (by kernel_rfl) (by kernel_rfl) ?_
  clear S; intro w S
  refine zm E rfl (fun w h => zAe E rfl rfl) ?_; clear E a; intro a E
  refine zm E rfl (fun w h => zAl E rfl rfl) ?_; clear E a; intro a E
  refine zm E rfl (fun w h => by first | exact zAf (q := 0) E rfl rfl rfl | exact zAi (q := 0) E rfl rfl rfl) ?_; clear E a; intro a E
  refine zm E rfl (fun w h => by first | exact zAn E rfl rfl rfl (h.one (by repeat (first | exact mm1 | assumption | apply List.Mem.tail))) rfl | exact zAj E rfl rfl rfl (by assumption)) ?_; clear E a; intro a E
  refine zm E rfl (fun w h => zAe E rfl rfl) ?_; clear E a; intro a E
  refine zm E rfl (fun w h => zAl E rfl rfl) ?_; clear E a; intro a E
  refine zm E rfl (fun w h => by first | exact zAf (q := 1) E rfl rfl rfl | exact zAi (q := 1) E rfl rfl rfl) ?_; clear E a; intro a E
  refine zm E rfl (fun w h => by first | exact zAn E rfl rfl rfl (h.one (by repeat (first | exact mm1 | assumption | apply List.Mem.tail))) rfl | exact zAj E rfl rfl rfl (by assumption)) ?_; clear E a; intro a E
  refine zDl E rfl rfl rfl (by decide) rfl Tryz.func61 rfl (by kernel_rfl) rfl (zJc q R C hC x.2 y hy _ (S.hp.sel (zAd (by repeat (first | exact pk1 | apply zAa)) (zAk _)))) ?_
  rintro v11 w ⟨rfl, hT⟩; clear E a; intro a E
  have S := S.call1 (zAd (by repeat (first | exact pk1 | apply zAa)) (zAk _)) hT; rw [hyl] at E
  refine zCl E rfl rfl rfl (by decide) (fun w => zDf E rfl rfl rfl (show _ = (32 : Int) by rfl)) ?_; clear E a; intro a E
  refine zCl E rfl rfl rfl (by decide) (fun w => zAg E rfl rfl) ?_; clear E a; intro a E
  refine zBs ?_
  refine zAh hK ?_; clear hK; clear K
  refine wp_ret ?_
  refine ret1 E rfl rfl ?_
  exact ⟨_, rfl, rfl, (S.only (Bs := [C, _]) (zAd (by repeat (first | exact pk1 | apply zAa)) (zAd (by repeat (first | exact pk1 | apply zAa)) (zAk _)))).tr⟩
theorem alike_ret (O : zAs) (v : Value) (hO : Rd O 1 v ms.length (ms.map fun m => ptr m.1)) (hl : ms.length ≤ 1000) (w0 : World) (H : Hp w0 [C, Dv, O]) :
    Ret Tryz.prog 66 #[v] w0 fun u w' => ∃ z : Int, (0 < ms.length → z = 32) ∧ u = .tuple #[.int .i64 z, .int .i64 ms.length] ∧ Trs w0 w' [C, Dv, O] [C, Dv, O] := by
  have S := St.begin H
  obtain ⟨ad, c, rfl⟩ := hO.slice
  refine zDc 39 Tryz.func66 rfl rfl (by decide) ?_; intro a E
  refine wp_seq_k ?_; intro K hK
  refine zAc ?_
  iterate 2 (refine zp E (zAg E rfl rfl) ?_; clear E a; intro a E)
  refine wpList_nil ?_
  refine zAh hK ?_; clear hK; clear K
  refine wp_seq_k ?_; intro K hK
  refine zAc ?_
  refine zp E (zAg E rfl rfl) ?_; clear E a; intro a E
  refine wpList_nil ?_
  refine zAh hK ?_; clear hK; clear K
  refine wp_seq_k ?_; intro K hK
  refine zAc ?_
  refine zp E (zAg E rfl rfl) ?_; clear E a; intro a E
  refine wpList_nil ?_
  refine zAh hK ?_; clear hK; clear K
  iterate 2 (refine wp_seq_k ?_; intro K hK)
  refine zAc ?_
  refine zp E (zAg E rfl rfl) ?_; clear E a; intro a E
  refine wpList_nil ?_
  refine zAh hK ?_; clear hK; clear K
  refine wp_block ?_
  refine wp_loop_ghost (fun (m : Nat) (a : Act) (w' : World) => ∃ (i : Nat) (z : Int), m = ms.length - i ∧ i ≤ ms.length ∧ (0 < i → z = 32) ∧ St w0 [C, Dv, O] w' [C, Dv, O] ∧ Fr a 39 [(0, .slice ad ms.length c), (4, .int .i64 z), (5, .int .i64 i), (6, .int .i64 i)]) (ms.length - 0) ?_ ?_
  · exact ⟨0, 0, rfl, by omega, fun q => absurd q (by omega), S, E.keep (zAb rfl (zAb rfl (zAb rfl (zAb rfl zAp))))⟩
  clear E; clear a; (try clear S); rintro m a w ⟨i, z, rfl, hi, hz, S, E⟩
  iterate 2 (refine wp_seq_k ?_; intro K hK)
  refine zAc ?_
  iterate 2 (refine zp E (zAe E rfl rfl) ?_; clear E a; intro a E)
  refine zp E (by first | exact zCa E rfl rfl rfl | exact zBa E rfl rfl rfl | exact zAt E rfl rfl rfl) ?_; clear E a; intro a E
  refine zp E (zCb E rfl rfl rfl) ?_; clear E a; intro a E
  refine wpList_nil ?_
  refine zAh hK ?_; clear hK; clear K
  refine zBl E rfl (fun hb => ?_) (fun hb => ?_)
  · replace hb := Nrm.nrm hb
    refine wp_skip ?_
    refine zAh hK ?_; clear hK; clear K
    refine wp_seq_k ?_; intro K hK
    refine wp_block ?_
    iterate 2 (refine wp_seq_k ?_; intro K hK)
    have hil : i < ms.length := by omega
    have hat : ms[i]? = some ms[i] := List.getElem?_eq_getElem hil
    have hcell : (ms.map fun m => ptr m.1)[i]? = some (ptr ms[i].1) := by rw [List.getElem?_map, hat]; rfl
    obtain ⟨g, off, rfl⟩ := hO.addr (by omega)
    refine zAc ?_
    iterate 2 (refine zp E (zAe E rfl rfl) ?_; clear E a; intro a E)
    refine zp E (by first | exact zBk E rfl rfl rfl rfl rfl rfl (by omega) | exact zBn E rfl rfl rfl rfl rfl rfl (by omega) | exact zAx E rfl rfl rfl rfl rfl rfl (by omega)) ?_; clear E a; intro a E
    refine zp E (zAj E rfl rfl rfl (hO.cells (S.stab.at (by repeat (first | exact mm1 | assumption | apply List.Mem.tail))) rfl i _ hcell)) ?_; clear E a; intro a E
    refine zp E (by first | exact zCf E rfl rfl rfl | exact zAu E rfl rfl rfl rfl | exact zBc E rfl rfl rfl rfl | exact zAw E rfl rfl rfl) ?_; clear E a; intro a E
    refine wpList_nil ?_
    refine zAh hK ?_; clear hK; clear K
    refine zBt E rfl (rfl) ?_
    refine wp_skip ?_
    refine zAh hK ?_; clear hK; clear K
    iterate 2 (refine wp_seq_k ?_; intro K hK)
    refine zFe (fun (a : Act) (w' : World) => St w0 [C, Dv, O] w' [C, Dv, O] ∧ Fr a 39 [(0, .slice (some ⟨g, off, none⟩) ms.length c), (4, .int .i64 z), (5, .int .i64 i), (6, .int .i64 i), (28, .bool false)]) ?_ ?_
    · skip
      refine zAc ?_
      refine zp E (zAe E rfl rfl) ?_; clear E a; intro a E
      refine zp E (zDd E rfl rfl rfl) ?_; clear E a; intro a E
      refine zp E (zAe E rfl rfl) ?_; clear E a; intro a E
      refine zAy E (t := 20) rfl (fun hb20 => ?_) (fun hb20 => ?_)
      · have hb20n := hb20; replace hb20n := Nrm.nrm hb20n
        iterate 2 (refine zy E hb20 (zAe E rfl rfl) ?_; clear E a; intro a E)
        refine zy E hb20 (by first | exact zBk E rfl rfl rfl rfl rfl rfl (by omega) | exact zBn E rfl rfl rfl rfl rfl rfl (by omega) | exact zAx E rfl rfl rfl rfl rfl rfl (by omega)) ?_; clear E a; intro a E
        refine zy E hb20 (zAj E rfl rfl rfl (hO.cells (S.stab.at (by repeat (first | exact mm1 | assumption | apply List.Mem.tail))) rfl i _ hcell)) ?_; clear E a; intro a E
        refine zDg E rfl rfl rfl rfl hb20 ?_; refine zEe E rfl (by decide) rfl Tryz.func85 rfl (by kernel_rfl) rfl (dlsize_in q R C hC ms Dv hDv hds i ms[i] hat _ (S.hp.sel (zAd (by repeat (first | exact pk1 | apply zAa)) (zAd (by repeat (first | exact pk1 | apply zAa)) (zAk _))))) ?_
        rintro v25 w ⟨rfl, hT⟩; clear E a; intro a E
        have S := S.call2 (zAd (by repeat (first | exact pk1 | apply zAa)) (zAd (by repeat (first | exact pk1 | apply zAa)) (zAk _))) hT
        refine zy E hb20 (zAe E rfl rfl) ?_; clear E a; intro a E
        refine zy E hb20 (by first | exact zCu E rfl rfl rfl | exact zAz E rfl rfl rfl rfl | exact zBj E rfl rfl rfl rfl | exact zBd E rfl rfl rfl) ?_; clear E a; intro a E
        refine zp E (zAm E rfl rfl hb20 rfl) ?_; clear E a; intro a E
        refine wpList_nil ?_
        refine zBp ?_
        rw [show z = 32 from hz (by omega)] at E ⊢; exact ⟨S, E.keep (zAb rfl (zAb rfl (zAb rfl (zAb rfl (zAb rfl zAp)))))⟩
      · have hb20n := hb20; replace hb20n := Nrm.nrm hb20n
        iterate 7 (refine zn E hb20 ?_; clear E a; intro a E)
        refine zp E (zAq E rfl rfl hb20 rfl) ?_; clear E a; intro a E
        refine wpList_nil ?_
        refine zBp ?_
        exact ⟨S, E.keep (zAb rfl (zAb rfl (zAb rfl (zAb rfl (zAb rfl zAp)))))⟩
    · clear E S a; intro a w J; obtain ⟨S, E⟩ := J
      refine zAh hK ?_; clear hK; clear K
      refine zBt E rfl (rfl) ?_
      refine wp_skip ?_
      refine zAh hK ?_; clear hK; clear K
      refine wp_seq_k ?_; intro K hK
      refine zAc ?_
      iterate 2 (refine zp E (zAe E rfl rfl) ?_; clear E a; intro a E)
      refine zp E (by first | exact zBk E rfl rfl rfl rfl rfl rfl (by omega) | exact zBn E rfl rfl rfl rfl rfl rfl (by omega) | exact zAx E rfl rfl rfl rfl rfl rfl (by omega)) ?_; clear E a; intro a E
      refine zp E (zAj E rfl rfl rfl (hO.cells (S.stab.at (by repeat (first | exact mm1 | assumption | apply List.Mem.tail))) rfl i _ hcell)) ?_; clear E a; intro a E
      refine zAr E rfl rfl (by decide) rfl Tryz.func85 rfl (by kernel_rfl) rfl (dlsize_in q R C hC ms Dv hDv hds i ms[i] hat _ (S.hp.sel (zAd (by repeat (first | exact pk1 | apply zAa)) (zAd (by repeat (first | exact pk1 | apply zAa)) (zAk _))))) ?_
      rintro v34 w ⟨rfl, hT⟩; clear E a; intro a E
      have S := S.call2 (zAd (by repeat (first | exact pk1 | apply zAa)) (zAd (by repeat (first | exact pk1 | apply zAa)) (zAk _))) hT
      refine zp E (zAg E rfl rfl) ?_; clear E a; intro a E
      refine wpList_nil ?_
      refine zAh hK ?_; clear hK; clear K
      refine zAc ?_
      refine zp E (zAe E rfl rfl) ?_; clear E a; intro a E
      refine zp E (zBu E rfl rfl rfl (w_in (by omega))) ?_; clear E a; intro a E
      refine zp E (zAg E rfl rfl) ?_; clear E a; intro a E
      refine wpList_nil ?_
      refine zBf ?_
      refine zAh hK ?_; clear hK; clear K
      refine zAc ?_
      refine zp E (zAe E rfl rfl) ?_; clear E a; intro a E
      refine zp E (zBu E rfl rfl rfl (w_in (by omega))) ?_; clear E a; intro a E
      refine zp E (zAg E rfl rfl) ?_; clear E a; intro a E
      refine wpList_nil ?_
      refine zBe ?_
      exact ⟨_, by omega, i + 1, 32, rfl, by omega, fun _ => rfl, S, E.keep (zAb rfl (zAb rfl (zAb rfl (zAb rfl zAp))))⟩
  · replace hb := Nrm.nrm hb
    refine wp_exit ?_
    refine zBb ?_; clear hK; clear K
    refine zBb ?_
    refine zCm ?_
    refine zAh hK ?_; clear hK; clear K
    refine wp_seq_k ?_; intro K hK
    obtain rfl : i = ms.length := by omega
    refine zAc ?_
    iterate 2 (refine zp E (zAe E rfl rfl) ?_; clear E a; intro a E)
    iterate 2 (refine zp E (zAg E rfl rfl) ?_; clear E a; intro a E)
    refine wpList_nil ?_
    refine zAh hK ?_; clear hK; clear K
    refine wp_ret ?_
    refine ret2 E rfl rfl rfl ?_
    exact ⟨_, rfl, z, hz, rfl, S.tr⟩
theorem dmnew_ret (O : zAs) (v : Value) (hO : Rd O 1 v ms.length (ms.map fun m => ptr m.1)) (hl : 1 ≤ ms.length ∧ ms.length ≤ 5) (w0 : World) (H : Hp w0 [C, Dv, O]) :
    Ret Tryz.prog 32 #[v] w0 fun u w' => ∃ t X, u = .tuple #[ptr t, .int .i64 0] ∧ Trs w0 w' [C, Dv, O] [X, C, Dv, O] := by
  have S := St.begin H
  obtain ⟨ad, c, rfl⟩ := hO.slice
  refine zDc 35 Tryz.func32 rfl rfl (by decide) ?_; intro a E
  refine wp_seq_k ?_; intro K hK
  refine zAc ?_
  iterate 2 (refine zp E (zAg E rfl rfl) ?_; clear E a; intro a E)
  refine wpList_nil ?_
  refine zAh hK ?_; clear hK; clear K
  refine wp_seq_k ?_; intro K hK
  refine zAc ?_
  refine zp E (zAe E rfl rfl) ?_; clear E a; intro a E
  refine zAr E rfl rfl (by decide) rfl Tryz.func66 rfl (by kernel_rfl) rfl (alike_ret q R C hC ms Dv hDv hds O _ hO (by omega) _ S.hp) ?_
  rintro v8 w ⟨z, hz, rfl, hT⟩; clear E a; intro a E
  have S := S.all hT; obtain rfl := hz (by omega)
  refine zp E (zAe E rfl rfl) ?_; clear E a; intro a E
  iterate 2 (refine zp E (zBx E rfl rfl rfl) ?_; clear E a; intro a E)
  iterate 2 (refine zp E (zAg E rfl rfl) ?_; clear E a; intro a E)
  refine wpList_nil ?_
  refine zAh hK ?_; clear hK; clear K
  iterate 2 (refine wp_seq_k ?_; intro K hK)
  refine zAc ?_
  refine zp E (zAe E rfl rfl) ?_; clear E a; intro a E
  refine zp E (by first | exact zCa E rfl rfl rfl | exact zBa E rfl rfl rfl | exact zAt E rfl rfl rfl) ?_; clear E a; intro a E
  refine zp E (zCb E rfl rfl rfl) ?_; clear E a; intro a E
  refine zp E (zAe E rfl rfl) ?_; clear E a; intro a E
  refine zCh E (t := 14) rfl ((by simp; omega)) (fun hb14 => ?_)
  refine zy E hb14 (zAe E rfl rfl) ?_; clear E a; intro a E
  refine zy E hb14 (by first | exact zCa E rfl rfl rfl | exact zBa E rfl rfl rfl | exact zAt E rfl rfl rfl) ?_; clear E a; intro a E
  refine zy E hb14 (zDd E rfl rfl rfl) ?_; clear E a; intro a E
  refine zp E (zAq E rfl rfl hb14 rfl) ?_; clear E a; intro a E
  refine zp E (zAe E rfl rfl) ?_; clear E a; intro a E
  refine zCh E (t := 19) rfl ((by simp; omega)) (fun hb19 => ?_)
  refine zy E hb19 (zAe E rfl rfl) ?_; clear E a; intro a E
  refine zy E hb19 (by first | exact zCf E rfl rfl rfl | exact zAu E rfl rfl rfl rfl | exact zBc E rfl rfl rfl rfl | exact zAw E rfl rfl rfl) ?_; clear E a; intro a E
  refine zp E (zAq E rfl rfl hb19 rfl) ?_; clear E a; intro a E
  refine zp E (zAe E rfl rfl) ?_; clear E a; intro a E
  refine zCh E (t := 23) rfl ((by have h1 := hl.1; simp only [beq_eq_false_iff_ne, ne_eq]; omega)) (fun hb23 => ?_)
  refine zy E hb23 (zAe E rfl rfl) ?_; clear E a; intro a E
  refine zy E hb23 (zCb E rfl rfl rfl) ?_; clear E a; intro a E
  refine zp E (zAq E rfl rfl hb23 rfl) ?_; clear E a; intro a E
  refine wpList_nil ?_
  refine zAh hK ?_; clear hK; clear K
  refine zBt E rfl (rfl) ?_
  refine wp_skip ?_
  refine zAh hK ?_; clear hK; clear K
  refine wp_seq_k ?_; intro K hK
  replace E := E.keep (e' := [(0, _), (2, _), (3, _), (4, _)]) (zAb rfl (zAb rfl (zAb rfl (zAb rfl (zAp)))))
  have S := S.addNil
  refine zDt S (.cons (0, 0) (.cons (2, 0) (.cons (3, 0) (.cons (5, 0) (.fork 1 (.ofL [(4, 1), (6, 0), (7, 3), (8, 2), (9, 2)]) 4 (.ofL [(1, 1), (6, 0), (7, 3), (8, 2), (9, 2)])))))) [O] (fun h => h.sub (by first | (simp; done) | (simp +contextual; done) | (simp [*]; done))) (by kernel_rfl) (by kernel_rfl) ?_
  clear S; intro w S
  iterate 2 (refine zm E rfl (fun w h => zAe E rfl rfl) ?_; clear E a; intro a E)
  refine zm E rfl (fun w h => by first | exact zCa E rfl rfl rfl | exact zBa E rfl rfl rfl | exact zAt E rfl rfl rfl) ?_; clear E a; intro a E
  refine zm E rfl (fun w h => zAe E rfl rfl) ?_; clear E a; intro a E
  refine ⟨?_, ?_⟩
  · skip
    refine zDp rfl rfl (zCi (by' := 8) E S rfl rfl (by decide) rfl rfl (Buf.nil 79 1) (by repeat (first | exact pk1 | apply zAa)) (hO.src (S.stab.at (by repeat (first | exact mm1 | assumption | apply List.Mem.tail))) rfl) rfl rfl rfl rfl rfl rfl (by simp only [maxLen]; omega) (by omega) ?_); clear E S a; intro a w v28 C28 E S hB28; refine ⟨S.stab.sub (by first | (simp; done) | (simp +contextual; done) | (simp [*]; done)), ?_⟩
    obtain ⟨ad1, c1, rfl⟩ := hB28.slice
    refine zDp rfl rfl (zFt E S rfl rfl (by decide) rfl rfl rfl rfl rfl rfl rfl (zHg ms.length) (by show 24 * ms.length ≤ _; omega) (by simp only [maxLen]; omega) ?_); clear E S a; intro a w v31 C31 E S hB31 hv31; refine ⟨S.stab.sub (by first | (simp; done) | (simp +contextual; done) | (simp [*]; done)), ?_⟩
    obtain ⟨ad2, c2, rfl⟩ := hB31.slice
    refine zm E rfl (fun w h => zCo (cells := [_, _, _]) E rfl rfl rfl) ?_; clear E a; intro a E
    refine zCq rfl rfl (zCs E S rfl rfl (by decide) rfl rfl ?_); clear E S a; intro a w b34 E S
    iterate 2 (refine zCl E rfl rfl rfl (by decide) (fun w => zAg E rfl rfl) ?_; clear E a; intro a E)
    refine zBs ?_
    refine zAh hK ?_; clear hK; clear K
    refine wp_ret ?_
    refine ret2 E rfl rfl rfl ?_
    exact ⟨_, rfl, _, [(b34, _)], rfl, (S.only (Bs := [[(b34, _)], C, Dv, O]) (zAd (by repeat (first | exact pk1 | apply zAa)) (zAd (by repeat (first | exact pk1 | apply zAa)) (zAd (by repeat (first | exact pk1 | apply zAa)) (zAd (by repeat (first | exact pk1 | apply zAa)) (zAk _)))))).tr⟩
  · skip
    refine zDp rfl rfl (zFt E S rfl rfl (by decide) rfl rfl rfl rfl rfl rfl rfl (zHg ms.length) (by show 24 * ms.length ≤ _; omega) (by simp only [maxLen]; omega) ?_); clear E S a; intro a w v31 C31 E S hB31 hv31; refine ⟨S.stab.sub (by first | (simp; done) | (simp +contextual; done) | (simp [*]; done)), ?_⟩
    obtain ⟨ad2, c2, rfl⟩ := hB31.slice
    refine zDp rfl rfl (zCi (by' := 8) E S rfl rfl (by decide) rfl rfl (Buf.nil 79 1) (by repeat (first | exact pk1 | apply zAa)) (hO.src (S.stab.at (by repeat (first | exact mm1 | assumption | apply List.Mem.tail))) rfl) rfl rfl rfl rfl rfl rfl (by simp only [maxLen]; omega) (by omega) ?_); clear E S a; intro a w v28 C28 E S hB28; refine ⟨S.stab.sub (by first | (simp; done) | (simp +contextual; done) | (simp [*]; done)), ?_⟩
    obtain ⟨ad1, c1, rfl⟩ := hB28.slice
    refine zm E rfl (fun w h => zCo (cells := [_, _, _]) E rfl rfl rfl) ?_; clear E a; intro a E
    refine zCq rfl rfl (zCs E S rfl rfl (by decide) rfl rfl ?_); clear E S a; intro a w b34 E S
    iterate 2 (refine zCl E rfl rfl rfl (by decide) (fun w => zAg E rfl rfl) ?_; clear E a; intro a E)
    refine zBs ?_
    refine zAh hK ?_; clear hK; clear K
    refine wp_ret ?_
    refine ret2 E rfl rfl rfl ?_
    exact ⟨_, rfl, _, [(b34, _)], rfl, (S.only (Bs := [[(b34, _)], C, Dv, O]) (zAd (by repeat (first | exact pk1 | apply zAa)) (zAd (by repeat (first | exact pk1 | apply zAa)) (zAd (by repeat (first | exact pk1 | apply zAa)) (zAd (by repeat (first | exact pk1 | apply zAa)) (zAk _)))))).tr⟩
end
end Go.Proofs.YtidhehcjafoneaaGreatDoor
