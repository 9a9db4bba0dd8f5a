/-
  Texts put together (15).
-/
import Derived.Test.YtidhehcjafoneaaGreatDoorZMirrorAlone14
namespace Go.Proofs.YtidhehcjafoneaaGreatDoor
open Go.Sl
set_option maxRecDepth 10000
structure RigOk (n p : Nat) (R : Rk) (C : zAs) (xs : List (Nat × Nat)) (Lv : zAs) : Prop where
  rk : RkC p R C
  fr : Fresh n R
  len : xs.length = n
  ds : R.ds.map Dk.d = xs.map Prod.snd
  lv : LvC (lvs xs) Lv
theorem RigOk.has {n p : Nat} {R : Rk} {C : zAs} {xs : List (Nat × Nat)} {Lv : zAs} (h : RigOk n p R C xs Lv) : ∀ x ∈ xs, R.has x.2 := fun x hx => by
  have : x.2 ∈ R.ds.map Dk.d := by rw [h.ds]; exact List.mem_map_of_mem hx
  obtain ⟨y, h1, h2⟩ := List.mem_map.1 this
  exact ⟨y, h1, h2⟩
theorem RigOk.dk {n p : Nat} {R : Rk} {C : zAs} {xs : List (Nat × Nat)} {Lv : zAs} (h : RigOk n p R C xs Lv) : ∀ x ∈ xs, (dkOf R x.2).failed = false ∧ (dkOf R x.2).pl.length = 41472 := fun x hx =>
  h.fr.ok _ (zDb (h.has x hx)).1
theorem RigOk.size {n p : Nat} {R : Rk} {C : zAs} {xs : List (Nat × Nat)} {Lv : zAs} (h : RigOk n p R C xs Lv) : ∀ x ∈ xs, zEl (dkOf R x.2) = 32 := fun x hx => by
  unfold zEl; rw [(h.dk x hx).2]; rfl
theorem RigOk.nd {n p : Nat} {R : Rk} {C : zAs} {xs : List (Nat × Nat)} {Lv : zAs} (h : RigOk n p R C xs Lv) : (xs.map Prod.snd).Nodup := by rw [← h.ds]; exact h.fr.dk.1
theorem lvs_lv (xs : List (Nat × Nat)) : (lvs xs).map lv = xs.map fun y => ptr y.1 := by simp [lvs, lv]
abbrev rigcl (p : Nat) (vD vL vT v4 v5 v6 v7 : Value) : Obj := cel [ptr p, vD, vL, vT, v4, v5, v6, v7] 44
theorem begun_ret (n : Nat) (hn : 1 ≤ n ∧ n ≤ 5) (w0 : World) : Ret Tryz.prog 6 #[.int .i64 n, .slice none 0 0] w0 fun u w' =>
    ∃ (x p t : Nat) (R : Rk) (C : zAs) (xs : List (Nat × Nat)) (Lv : zAs) (vl vk : Value) (CL CK : zAs) (vD : Value) (CD : zAs) (vL : Value) (CLs : zAs) (v4 v5 v6 v7 : Value),
      u = .tuple #[ptr x, .bool true, .bool true] ∧ RigOk n p R C xs Lv ∧ Buf CL 49 1 vl xs.length ((lvs xs).map lv) ∧ LkB CK vk (List.replicate xs.length zGg) ∧ Buf CD 46 1 vD xs.length (xs.map fun y => ptr y.2) ∧ Buf CLs 49 1 vL xs.length (xs.map fun y => ptr y.1) ∧
      Trs w0 w' [] [[(x, rigcl p vD vL (ptr t) v4 v5 v6 v7)], C, Lv, [(t, mtcl vl vk 32)], CL, CK, CD, CLs] := by
  have S := St.begin (zEt w0)
  refine zCy 164 Tryz.func6 rfl rfl (by decide) ?_; intro a E
  refine wp_seq_k ?_; intro K hK
  refine zAc ?_
  iterate 3 (refine zp E (zAg E rfl rfl) ?_; clear E a; intro a E)
  refine wpList_nil ?_
  refine zAh hK ?_; clear hK; clear K
  refine wp_seq_k ?_; intro K hK
  refine zAc ?_
  refine zAr E rfl rfl (by decide) rfl Tryz.func24 rfl (by kernel_rfl) rfl (rk_newp _) ?_
  rintro v21 w ⟨p, C0, rfl, hC0, hT⟩; clear E a; intro a E
  have S := S.fresh hT
  refine zAr E rfl rfl (by decide) rfl Tryz.func25 rfl (by kernel_rfl) rfl (qnew_ret _) ?_
  rintro v22 w ⟨q, Cq0, rfl, hq0, hT⟩; clear E a; intro a E
  have S := S.fresh hT
  refine zp E (zCo (cells := [_, _, _, _, _, _, _, _]) E rfl rfl rfl) ?_; clear E a; intro a E
  refine zAo rfl (zCs E S rfl rfl (by decide) rfl rfl ?_); clear E S a; intro a w b24 E S
  refine zp E (zAg E rfl rfl) ?_; clear E a; intro a E
  refine wpList_nil ?_
  refine zAh hK ?_; clear hK; clear K
  iterate 2 (refine wp_seq_k ?_; intro K hK)
  refine zAc ?_
  refine zp E (zAe E rfl rfl) ?_; clear E a; intro a E
  refine zp E (zAl E rfl rfl) ?_; clear E a; intro a E
  refine zp E (by first | exact zAf (q := 0) E rfl rfl rfl | exact zAi (q := 0) E rfl rfl rfl) ?_; clear E a; intro a E
  refine zp E (by first | exact zAn E rfl rfl rfl (S.get (by repeat (first | exact pk1 | apply zAa))) rfl | exact zAj E rfl rfl rfl (by assumption)) ?_; clear E a; intro a E
  refine zp E (by first | exact zCf E rfl rfl rfl | exact zAu E rfl rfl rfl rfl | exact zBc E rfl rfl rfl rfl | exact zAw E rfl rfl rfl) ?_; clear E a; intro a E
  refine wpList_nil ?_
  refine zAh hK ?_; clear hK; clear K
  refine zBt E rfl (rfl) ?_
  refine wp_skip ?_
  refine zAh hK ?_; clear hK; clear K
  iterate 2 (refine wp_seq_k ?_; intro K hK)
  refine zAc ?_
  refine zp E (zAg E rfl rfl) ?_; clear E a; intro a E
  refine wpList_nil ?_
  refine zAh hK ?_; clear hK; clear K
  refine wp_block ?_
  refine wp_loop_ghost (fun (m : Nat) (a : Act) (w' : World) => ∃ (i : Nat) (R Rq : Rk) (C Cq : zAs) (xs ms : List (Nat × Nat)) (Lv Dv : zAs) (vD : Value) (CD : zAs) (vL : Value) (CLs : zAs) (vM : Value) (CM : zAs), m = n - i ∧ i ≤ n ∧ RigOk i p R C xs Lv ∧ Fresh i Rq ∧ RfC q Rq Cq ∧ RqOk Rq ∧ ms.map Prod.snd = List.range i ∧ DvC q ms Dv ∧ Buf CD 46 1 vD xs.length (xs.map fun y => ptr y.2) ∧ Buf CLs 49 1 vL xs.length (xs.map fun y => ptr y.1) ∧ Buf CM 79 1 vM ms.length (ms.map fun y => ptr y.1) ∧
    St w0 [] w' [[(b24, rigcl p vD vL (.pointer none) (ptr q) vM (.pointer none) (.slice none 0 0))], C, Lv, CD, CLs, Cq, Dv, CM] ∧ Fr a 164 [(0, .int .i64 n), (1, .slice none 0 0), (7, ptr b24), (8, .int .i64 i)]) (n - 0) ?_ ?_
  · exact ⟨0, _, _, C0, Cq0, [], [], [], [], _, [], _, [], _, [], rfl, by omega, ⟨hC0, Fresh.zero, rfl, rfl, rfl⟩, Fresh.zero, hq0, ⟨by simp [DkOk], fun w hw => by simp at hw, fun z hz => by simp at hz, ⟨rfl, rfl⟩⟩, rfl, rfl, Buf.nil _ _, Buf.nil _ _, Buf.nil _ _, S.addNil.addNil.addNil.addNil.addNil.only (zAd (by repeat (first | exact pk1 | apply zAa)) (zAd (by repeat (first | exact pk1 | apply zAa)) (zAd (by repeat (first | exact pk1 | apply zAa)) (zAd (by repeat (first | exact pk1 | apply zAa)) (zAd (by repeat (first | exact pk1 | apply zAa)) (zAd (by repeat (first | exact pk1 | apply zAa)) (zAd (by repeat (first | exact pk1 | apply zAa)) (zAd (by repeat (first | exact pk1 | apply zAa)) (zAk _))))))))), E.keep (zAb rfl (zAb rfl (zAb rfl (zAb rfl zAp))))⟩
  clear E; clear a; (try clear S); rintro m a w ⟨i, R, Rq, C, Cq, xs, ms, Lv, Dv, vD, CD, vL, CLs, vM, CM, rfl, hi, hG, hFq, hCq, hRq, hms, hDv, hD, hL, hM, S, E⟩
  iterate 2 (refine wp_seq_k ?_; intro K hK)
  refine zFe (fun (a : Act) (w' : World) => St w0 [] w' [[(b24, rigcl p vD vL (.pointer none) (ptr q) vM (.pointer none) (.slice none 0 0))], C, Lv, CD, CLs, Cq, Dv, CM] ∧ Fr a 164 [(0, .int .i64 n), (1, .slice none 0 0), (7, ptr b24), (8, .int .i64 i), (37, .bool (decide (i < n)))]) ?_ ?_
  · skip
    refine zAc ?_
    iterate 2 (refine zp E (zAe E rfl rfl) ?_; clear E a; intro a E)
    refine zp E (zCb E rfl rfl rfl) ?_; clear E a; intro a E
    refine zp E (zAe E rfl rfl) ?_; clear E a; intro a E
    refine zAy E (t := 34) rfl (fun hb34 => ?_) (fun hb34 => ?_)
    · have hb34n := hb34; replace hb34n := Nrm.nrm hb34n
      refine zy E hb34 (zAe E rfl rfl) ?_; clear E a; intro a E
      refine zy E hb34 (zCb E rfl rfl rfl) ?_; clear E a; intro a E
      refine zp E (zAm E rfl rfl hb34 rfl) ?_; clear E a; intro a E
      refine wpList_nil ?_
      refine zBp ?_
      rw [show decide ((i : Int) < 7) = decide (i < n) by rw [decide_eq_decide]; omega] at E; exact ⟨S, E.keep (zAb rfl (zAb rfl (zAb rfl (zAb rfl (zAb rfl zAp)))))⟩
    · have hb34n := hb34; replace hb34n := Nrm.nrm hb34n
      iterate 2 (refine zn E hb34 ?_; clear E a; intro a E)
      refine zp E (zAq E rfl rfl hb34 rfl) ?_; clear E a; intro a E
      refine wpList_nil ?_
      refine zBp ?_
      rw [show decide (i < n) = false by simp; omega]; exact ⟨S, E.keep (zAb rfl (zAb rfl (zAb rfl (zAb rfl (zAb rfl zAp)))))⟩
  · clear E S a; intro a w J; obtain ⟨S, E⟩ := J
    refine zAh hK ?_; clear hK; clear K
    refine zBl E rfl (fun hb => ?_) (fun hb => ?_)
    · replace hb := Nrm.nrm hb
      refine wp_skip ?_
      refine zAh hK ?_; clear hK; clear K
      refine wp_seq_k ?_; intro K hK
      refine wp_block ?_
      refine wp_seq_k ?_; intro K hK
      have hil : i < n := by simpa using hb
      obtain ⟨hC, hFi, hxl, hxd, hLv⟩ := hG
      obtain ⟨hnd, hdk⟩ := hFi.dk
      have hml : ms.length = i := by have := congrArg List.length hms; simpa using this
      refine zAc ?_
      refine zp E (zAe E rfl rfl) ?_; clear E a; intro a E
      refine zp E (zAl E rfl rfl) ?_; clear E a; intro a E
      refine zp E (by first | exact zAf (q := 0) E rfl rfl rfl | exact zAi (q := 0) E rfl rfl rfl) ?_; clear E a; intro a E
      refine zp E (by first | exact zAn E rfl rfl rfl (S.get (by repeat (first | exact pk1 | apply zAa))) rfl | exact zAj E rfl rfl rfl (by assumption)) ?_; clear E a; intro a E
      refine zAr E rfl rfl (by decide) rfl Tryz.func26 rfl (by kernel_rfl) rfl (newd_ret p R C hC (by rw [hFi.len]; omega) _ (S.hp.sel (zAd (by repeat (first | exact pk1 | apply zAa)) (zAk _)))) ?_
      rintro v45 w ⟨d, R1, C1, rfl, hA, hC1, hT⟩; clear E a; intro a E
      have S := S.call1 (zAd (by repeat (first | exact pk1 | apply zAa)) (zAk _)) hT
      refine zp E (zAe E rfl rfl) ?_; clear E a; intro a E
      iterate 2 (refine zp E (zBx E rfl rfl rfl) ?_; clear E a; intro a E)
      iterate 2 (refine zp E (zAg E rfl rfl) ?_; clear E a; intro a E)
      refine wpList_nil ?_
      refine zAh hK ?_; clear hK; clear K
      refine wp_seq_k ?_; intro K hK
      refine zAc ?_
      refine zp E (zAe E rfl rfl) ?_; clear E a; intro a E
      refine zp E (zAl E rfl rfl) ?_; clear E a; intro a E
      refine zp E (by first | exact zAf (q := 4) E rfl rfl rfl | exact zAi (q := 4) E rfl rfl rfl) ?_; clear E a; intro a E
      refine zp E (by first | exact zAn E rfl rfl rfl (S.get (by repeat (first | exact pk1 | apply zAa))) rfl | exact zAj E rfl rfl rfl (by assumption)) ?_; clear E a; intro a E
      refine zAr E rfl rfl (by decide) rfl Tryz.func27 rfl (by kernel_rfl) rfl (qnewd_ret q Rq Cq hCq hRq (by rw [hFq.len]; omega) _ (S.hp.sel (zAd (by repeat (first | exact pk1 | apply zAa)) (zAk _)))) ?_
      rintro v53 w ⟨y, Rq1, Cq1, rfl, hAq, hRq1, hCq1, hT⟩; clear E a; intro a E
      have S := S.call1 (zAd (by repeat (first | exact pk1 | apply zAa)) (zAk _)) hT; rw [hFq.len] at E
      refine zp E (zAe E rfl rfl) ?_; clear E a; intro a E
      iterate 2 (refine zp E (zBx E rfl rfl rfl) ?_; clear E a; intro a E)
      iterate 2 (refine zp E (zAg E rfl rfl) ?_; clear E a; intro a E)
      refine wpList_nil ?_
      refine zAh hK ?_; clear hK; clear K
      iterate 2 (refine wp_seq_k ?_; intro K hK)
      refine zAc ?_
      refine zp E (zAe E rfl rfl) ?_; clear E a; intro a E
      refine zp E (by first | exact zCu E rfl rfl rfl | exact zAz E rfl rfl rfl rfl | exact zBj E rfl rfl rfl rfl | exact zBd E rfl rfl rfl) ?_; clear E a; intro a E
      refine zp E (zAe E rfl rfl) ?_; clear E a; intro a E
      refine zCh E (t := 58) rfl (rfl) (fun hb58 => ?_)
      refine zy E hb58 (zAe E rfl rfl) ?_; clear E a; intro a E
      refine zy E hb58 (by first | exact zCf E rfl rfl rfl | exact zAu E rfl rfl rfl rfl | exact zBc E rfl rfl rfl rfl | exact zAw E rfl rfl rfl) ?_; clear E a; intro a E
      refine zp E (zAq E rfl rfl hb58 rfl) ?_; clear E a; intro a E
      refine wpList_nil ?_
      refine zAh hK ?_; clear hK; clear K
      refine zBt E rfl (rfl) ?_
      refine wp_skip ?_
      refine zAh hK ?_; clear hK; clear K
      refine wp_seq_k ?_; intro K hK
      refine zAc ?_
      refine zp E (zAe E rfl rfl) ?_; clear E a; intro a E
      refine zAr E rfl rfl (by decide) rfl Tryz.func29 rfl (by kernel_rfl) rfl (label_ret _) ?_
      rintro v65 w ⟨vO, O, rfl, hO, hT⟩; clear E a; intro a E
      have S := S.fresh hT
      refine zAr E rfl rfl (by decide) rfl Tryz.func28 rfl (by kernel_rfl) rfl (lformat_ret p R1 C1 hC1 d hA.at (hA.on hFi.on) hA.fl (by rw [hA.ws, hFi.ws, List.length_nil]; omega) (by rw [hA.pw, hFi.wr]; omega) 324 (by rw [hA.pl]) O vO lab0 hO lab0_ok lab0_e lab0_sec _ (S.hp.sel (zAd (by repeat (first | exact pk1 | apply zAa)) (zAd (by repeat (first | exact pk1 | apply zAa)) (zAk _))))) ?_
      rintro v66 w ⟨pl, L, R2, C2, F, rfl, hLl, hC2, hW, hT⟩; clear E a; intro a E
      have S := S.call3 (zAd (by repeat (first | exact pk1 | apply zAa)) (zAd (by repeat (first | exact pk1 | apply zAa)) (zAk _))) hT; obtain ⟨hF2, hds2⟩ := hFi.step hA hW
      refine zp E (zAe E rfl rfl) ?_; clear E a; intro a E
      iterate 2 (refine zp E (zBx E rfl rfl rfl) ?_; clear E a; intro a E)
      iterate 2 (refine zp E (zAg E rfl rfl) ?_; clear E a; intro a E)
      refine wpList_nil ?_
      refine zAh hK ?_; clear hK; clear K
      refine wp_seq_k ?_; intro K hK
      refine zBo S (.ofL [(0, 0), (1, 0), (2, 0), (3, 0), (4, 0), (5, 1), (6, 3), (7, 2), (8, 2), (9, 2), (10, 2), (11, 2)]) (by kernel_rfl) (by kernel_rfl) ?_
      clear S; intro w S
      refine zm E rfl (fun w h => zAe E rfl rfl) ?_; clear E a; intro a E
      refine zm E rfl (fun w h => zAl E rfl rfl) ?_; clear E a; intro a E
      refine zm E rfl (fun w h => by first | exact zAf (q := 4) E rfl rfl rfl | exact zAi (q := 4) E rfl rfl rfl) ?_; clear E a; intro a E
      refine zm E rfl (fun w h => by first | exact zAn E rfl rfl rfl (h.one (by repeat (first | exact mm1 | assumption | apply List.Mem.tail))) rfl | exact zAj E rfl rfl rfl (by assumption)) ?_; clear E a; intro a E
      refine zm E rfl (fun w h => zAe E rfl rfl) ?_; clear E a; intro a E
      refine zCn E rfl rfl rfl (by decide) rfl Tryz.func29 rfl (by kernel_rfl) rfl (label_ret _) ?_
      rintro v75 w ⟨vO2, O2, rfl, hO2, hT⟩; clear E a; intro a E
      have S := S.fresh hT
      refine ⟨S.stab.sub (by first | (simp; done) | (simp +contextual; done) | (simp [*]; done)), ?_⟩
      refine zDl E rfl rfl rfl (by decide) rfl Tryz.func30 rfl (by kernel_rfl) rfl (dformat_ret q Rq1 Cq1 hCq1 hRq1 i y (by rw [hAq.ds, ← hFq.len, List.getElem?_append_right (Nat.le_refl _), Nat.sub_self]; rfl) hAq.fl (by rw [hAq.ws, hFq.ws, List.length_nil]; omega) (by rw [hAq.pw, hFq.wr]; omega) 324 (by rw [hAq.pl]) O2 vO2 lab0 hO2 lab0_ok lab0_e lab0_sec _ (S.hp.sel (zAd (by repeat (first | exact pk1 | apply zAa)) (zAd (by repeat (first | exact pk1 | apply zAa)) (zAk _))))) ?_
      rintro v76 w ⟨pm, Lm, Rq2, Cq2, Fq, rfl, hLm, hCq2, hRq2, hWq, hT⟩; clear E a; intro a E
      have S := S.call3 (zAd (by repeat (first | exact pk1 | apply zAa)) (zAd (by repeat (first | exact pk1 | apply zAa)) (zAk _))) hT; obtain ⟨hFq2, _⟩ := hFq.step hAq hWq
      refine zCl E rfl rfl rfl (by decide) (fun w => zAe E rfl rfl) ?_; clear E a; intro a E
      iterate 2 (refine zCl E rfl rfl rfl (by decide) (fun w => zBx E rfl rfl rfl) ?_; clear E a; intro a E)
      iterate 2 (refine zCl E rfl rfl rfl (by decide) (fun w => zAg E rfl rfl) ?_; clear E a; intro a E)
      refine zBs ?_
      refine zAh hK ?_; clear hK; clear K
      iterate 2 (refine wp_seq_k ?_; intro K hK)
      refine zAc ?_
      refine zp E (zAe E rfl rfl) ?_; clear E a; intro a E
      refine zp E (by first | exact zCu E rfl rfl rfl | exact zAz E rfl rfl rfl rfl | exact zBj E rfl rfl rfl rfl | exact zBd E rfl rfl rfl) ?_; clear E a; intro a E
      refine zp E (zAe E rfl rfl) ?_; clear E a; intro a E
      refine zCh E (t := 81) rfl (rfl) (fun hb81 => ?_)
      refine zy E hb81 (zAe E rfl rfl) ?_; clear E a; intro a E
      refine zy E hb81 (by first | exact zCf E rfl rfl rfl | exact zAu E rfl rfl rfl rfl | exact zBc E rfl rfl rfl rfl | exact zAw E rfl rfl rfl) ?_; clear E a; intro a E
      refine zp E (zAq E rfl rfl hb81 rfl) ?_; clear E a; intro a E
      refine wpList_nil ?_
      refine zAh hK ?_; clear hK; clear K
      refine zBt E rfl (rfl) ?_
      refine wp_skip ?_
      refine zAh hK ?_; clear hK; clear K
      refine wp_seq_k ?_; intro K hK
      obtain ⟨adD, cD, rfl⟩ := hD.slice
      obtain ⟨adL, cL, rfl⟩ := hL.slice
      obtain ⟨adM, cM, rfl⟩ := hM.slice
      refine zAc ?_
      iterate 2 (refine zp E (zAe E rfl rfl) ?_; clear E a; intro a E)
      refine zp E (zAl E rfl rfl) ?_; clear E a; intro a E
      refine zp E (by first | exact zAf (q := 1) E rfl rfl rfl | exact zAi (q := 1) E rfl rfl rfl) ?_; clear E a; intro a E
      refine zp E (by first | exact zAn E rfl rfl rfl (S.get (by repeat (first | exact pk1 | apply zAa))) rfl | exact zAj E rfl rfl rfl (by assumption)) ?_; clear E a; intro a E
      refine zp E (zAe E rfl rfl) ?_; clear E a; intro a E
      refine zAo rfl (zCk (cells := [_]) E S rfl rfl (by decide) rfl rfl rfl rfl rfl (by decide) rfl ?_); clear E S a; intro a w b92 E S
      refine zAo rfl (zCi (by' := 8) E S rfl rfl (by decide) rfl rfl hD (by repeat (first | exact pk1 | apply zAa)) ((zCr (g := b92) (T := 46) (xs := [ptr d.d]) (s := 1) (m := 1) rfl (by simp [Value.oneCell']) (by omega) 1).src (S.stab.at (by repeat (first | exact mm1 | assumption | apply List.Mem.tail))) rfl) rfl rfl rfl rfl rfl rfl (by simp only [maxLen]; omega) (by omega) ?_); clear E S a; intro a w v93 C93 E S hB93
      obtain ⟨ad93, c93, rfl⟩ := hB93.slice
      refine zp E (zAl E rfl rfl) ?_; clear E a; intro a E
      refine zp E (by first | exact zAf (q := 1) E rfl rfl rfl | exact zAi (q := 1) E rfl rfl rfl) ?_; clear E a; intro a E
      refine zAo rfl (zBg E S rfl rfl rfl rfl rfl rfl (by repeat (first | exact pk1 | apply zAa)) (by first | exact Nat.le_of_ble_eq_true rfl | (simp; done) | (simp; omega)) ?_); clear E S a; intro a w E S; try dsimp only [List.set] at S
      refine wpList_nil ?_
      refine zAh hK ?_; clear hK; clear K
      iterate 2 (refine wp_seq_k ?_; intro K hK)
      refine zAc ?_
      iterate 2 (refine zp E (zAe E rfl rfl) ?_; clear E a; intro a E)
      refine zp E (by first | exact zCa E rfl rfl rfl | exact zBa E rfl rfl rfl | exact zAt E rfl rfl rfl) ?_; clear E a; intro a E
      refine zp E (zCb E rfl rfl rfl) ?_; clear E a; intro a E
      refine zp E (zAe E rfl rfl) ?_; clear E a; intro a E
      refine zCh E (t := 100) rfl ((by simp)) (fun hb100 => ?_)
      iterate 4 (refine zn E hb100 ?_; clear E a; intro a E)
      refine zp E (zAq E rfl rfl hb100 rfl) ?_; clear E a; intro a E
      refine wpList_nil ?_
      refine zAh hK ?_; clear hK; clear K
      refine zBt E rfl rfl ?_
      refine wp_skip ?_
      refine zAh hK ?_; clear hK; clear K
      refine wp_seq_k ?_; intro K hK
      refine zAc ?_
      iterate 2 (refine zp E (zAe E rfl rfl) ?_; clear E a; intro a E)
      refine zp E (zAl E rfl rfl) ?_; clear E a; intro a E
      refine zp E (by first | exact zAf (q := 2) E rfl rfl rfl | exact zAi (q := 2) E rfl rfl rfl) ?_; clear E a; intro a E
      refine zp E (by first | exact zAn E rfl rfl rfl (S.get (by repeat (first | exact pk1 | apply zAa))) rfl | exact zAj E rfl rfl rfl (by assumption)) ?_; clear E a; intro a E
      refine zp E (zAe E rfl rfl) ?_; clear E a; intro a E
      refine zAo rfl (zCk (cells := [_]) E S rfl rfl (by decide) rfl rfl rfl rfl rfl (by decide) rfl ?_); clear E S a; intro a w b112 E S
      refine zAo rfl (zCi (by' := 8) E S rfl rfl (by decide) rfl rfl hL (by repeat (first | exact pk1 | apply zAa)) ((zCr (g := b112) (T := 49) (xs := [ptr pl]) (s := 1) (m := 1) rfl (by simp [Value.oneCell']) (by omega) 1).src (S.stab.at (by repeat (first | exact mm1 | assumption | apply List.Mem.tail))) rfl) rfl rfl rfl rfl rfl rfl (by simp only [maxLen]; omega) (by omega) ?_); clear E S a; intro a w v113 C113 E S hB113
      obtain ⟨ad113, c113, rfl⟩ := hB113.slice
      refine zp E (zAl E rfl rfl) ?_; clear E a; intro a E
      refine zp E (by first | exact zAf (q := 2) E rfl rfl rfl | exact zAi (q := 2) E rfl rfl rfl) ?_; clear E a; intro a E
      refine zAo rfl (zBg E S rfl rfl rfl rfl rfl rfl (by repeat (first | exact pk1 | apply zAa)) (by first | exact Nat.le_of_ble_eq_true rfl | (simp; done) | (simp; omega)) ?_); clear E S a; intro a w E S; try dsimp only [List.set] at S
      refine wpList_nil ?_
      refine zAh hK ?_; clear hK; clear K
      refine zAc ?_
      iterate 2 (refine zp E (zAe E rfl rfl) ?_; clear E a; intro a E)
      refine zp E (zAl E rfl rfl) ?_; clear E a; intro a E
      refine zp E (by first | exact zAf (q := 5) E rfl rfl rfl | exact zAi (q := 5) E rfl rfl rfl) ?_; clear E a; intro a E
      refine zp E (by first | exact zAn E rfl rfl rfl (S.get (by repeat (first | exact pk1 | apply zAa))) rfl | exact zAj E rfl rfl rfl (by assumption)) ?_; clear E a; intro a E
      refine zp E (zAe E rfl rfl) ?_; clear E a; intro a E
      refine zAo rfl (zCk (cells := [_]) E S rfl rfl (by decide) rfl rfl rfl rfl rfl (by decide) rfl ?_); clear E S a; intro a w b122 E S
      refine zAo rfl (zCi (by' := 8) E S rfl rfl (by decide) rfl rfl hM (by repeat (first | exact pk1 | apply zAa)) ((zCr (g := b122) (T := 79) (xs := [ptr pm]) (s := 1) (m := 1) rfl (by simp [Value.oneCell']) (by omega) 1).src (S.stab.at (by repeat (first | exact mm1 | assumption | apply List.Mem.tail))) rfl) rfl rfl rfl rfl rfl rfl (by simp only [maxLen]; omega) (by omega) ?_); clear E S a; intro a w v123 C123 E S hB123
      obtain ⟨ad123, c123, rfl⟩ := hB123.slice
      refine zp E (zAl E rfl rfl) ?_; clear E a; intro a E
      refine zp E (by first | exact zAf (q := 5) E rfl rfl rfl | exact zAi (q := 5) E rfl rfl rfl) ?_; clear E a; intro a E
      refine zAo rfl (zBg E S rfl rfl rfl rfl rfl rfl (by repeat (first | exact pk1 | apply zAa)) (by first | exact Nat.le_of_ble_eq_true rfl | (simp; done) | (simp; omega)) ?_); clear E S a; intro a w E S; try dsimp only [List.set] at S
      refine wpList_nil ?_
      refine zBf ?_
      refine zAh hK ?_; clear hK; clear K
      refine zAc ?_
      refine zp E (zAe E rfl rfl) ?_; clear E a; intro a E
      refine zp E (zBu E rfl rfl rfl (w_in (by omega))) ?_; clear E a; intro a E
      refine zp E (zAg E rfl rfl) ?_; clear E a; intro a E
      refine wpList_nil ?_
      refine zBe ?_
      exact ⟨_, by omega, i + 1, R2, Rq2, C2, Cq2, xs ++ [(pl, d.d)], ms ++ [(pm, i)], Lv ++ L, Dv ++ Lm, _, C93, _, C113, _, C123, rfl, by omega, ⟨hC2, hF2, by simp [hxl], by rw [hds2, hxd]; simp, by rw [lvs, List.map_append]; exact hLv.snoc (x := (pl, d.d)) hLl⟩, hFq2, hCq2, hRq2, by rw [List.map_append, hms, List.range_succ]; rfl, hDv.snoc (x := (pm, i)) hLm,
        by rw [List.length_append, List.map_append]; exact hB93, by rw [List.length_append, List.map_append]; exact hB113, by rw [List.length_append, List.map_append]; exact hB123, ((S.gather (A := Lv) (B := L) (by repeat (first | exact pk1 | apply zAa)) (by repeat (first | exact pk1 | apply zAa))).gather (A := Dv) (B := Lm) (by repeat (first | exact pk1 | apply zAa)) (by repeat (first | exact pk1 | apply zAa))).only (zAd (by repeat (first | exact pk1 | apply zAa)) (zAd (by repeat (first | exact pk1 | apply zAa)) (zAd (by repeat (first | exact pk1 | apply zAa)) (zAd (by repeat (first | exact pk1 | apply zAa)) (zAd (by repeat (first | exact pk1 | apply zAa)) (zAd (by repeat (first | exact pk1 | apply zAa)) (zAd (by repeat (first | exact pk1 | apply zAa)) (zAd (by repeat (first | exact pk1 | apply zAa)) (zAk _))))))))), E.keep (zAb rfl (zAb rfl (zAb rfl (zAb rfl zAp))))⟩
    · replace hb := Nrm.nrm hb
      refine wp_exit ?_
      refine zBb ?_; clear hK; clear K
      refine zBb ?_
      refine zCm ?_
      refine zAh hK ?_; clear hK; clear K
      refine wp_seq_k ?_; intro K hK
      obtain rfl : i = n := by omega
      obtain ⟨adL, cL, rfl⟩ := hL.slice
      obtain ⟨adM, cM, rfl⟩ := hM.slice
      have hml : ms.length = i := by have := congrArg List.length hms; simpa using this
      have hGl := hG.len
      refine zAc ?_
      refine zp E (zAe E rfl rfl) ?_; clear E a; intro a E
      refine zp E (zAl E rfl rfl) ?_; clear E a; intro a E
      refine zp E (by first | exact zAf (q := 2) E rfl rfl rfl | exact zAi (q := 2) E rfl rfl rfl) ?_; clear E a; intro a E
      refine zp E (by first | exact zAn E rfl rfl rfl (S.get (by repeat (first | exact pk1 | apply zAa))) rfl | exact zAj E rfl rfl rfl (by assumption)) ?_; clear E a; intro a E
      refine zAr E rfl rfl (by decide) rfl Tryz.func31 rfl (by kernel_rfl) rfl (mnew_ret p R C hG.rk (lvs xs) Lv hG.lv (fun x hx => hG.has x (by simpa [lvs] using hx)) 32 (fun x hx => hG.size x (by simpa [lvs] using hx)) (by omega) ⟨xs[0], by simp [lvs]⟩ (by simp; omega) CLs _ (by rw [lvs_lv, List.length_map]; exact hL.rd) _ (S.hp.sel (zAd (by repeat (first | exact pk1 | apply zAa)) (zAd (by repeat (first | exact pk1 | apply zAa)) (zAd (by repeat (first | exact pk1 | apply zAa)) (zAk _)))))) ?_
      rintro v131 w ⟨t, vl, vk, CL, CK, rfl, hCL, hCK, hT⟩; clear E a; intro a E
      have S := S.call (zAd (by repeat (first | exact pk1 | apply zAa)) (zAd (by repeat (first | exact pk1 | apply zAa)) (zAd (by repeat (first | exact pk1 | apply zAa)) (zAk _)))) hT; simp only [List.cons_append, List.nil_append] at S
      refine zp E (zAe E rfl rfl) ?_; clear E a; intro a E
      iterate 2 (refine zp E (zBx E rfl rfl rfl) ?_; clear E a; intro a E)
      iterate 2 (refine zp E (zAg E rfl rfl) ?_; clear E a; intro a E)
      refine wpList_nil ?_
      refine zAh hK ?_; clear hK; clear K
      refine wp_seq_k ?_; intro K hK
      refine zAc ?_
      refine zp E (zAe E rfl rfl) ?_; clear E a; intro a E
      refine zp E (zAl E rfl rfl) ?_; clear E a; intro a E
      refine zp E (by first | exact zAf (q := 5) E rfl rfl rfl | exact zAi (q := 5) E rfl rfl rfl) ?_; clear E a; intro a E
      refine zp E (by first | exact zAn E rfl rfl rfl (S.get (by repeat (first | exact pk1 | apply zAa))) rfl | exact zAj E rfl rfl rfl (by assumption)) ?_; clear E a; intro a E
      refine zAr E rfl rfl (by decide) rfl Tryz.func32 rfl (by kernel_rfl) rfl (dmnew_ret q Rq Cq hCq ms Dv hDv (fun m hm => by
        have hr : m.2 ∈ List.range i := by rw [← hms]; exact List.mem_map_of_mem hm
        have hlt : m.2 < Rq.ds.length := by rw [hFq.len]; simpa using hr
        exact ⟨_, List.getElem?_eq_getElem hlt, (hFq.ok _ (List.getElem_mem hlt)).2⟩) CM _ hM.rd (by omega) _ (S.hp.sel (zAd (by repeat (first | exact pk1 | apply zAa)) (zAd (by repeat (first | exact pk1 | apply zAa)) (zAd (by repeat (first | exact pk1 | apply zAa)) (zAk _)))))) ?_
      rintro v139 w ⟨tu, X, rfl, hT⟩; clear E a; intro a E
      have S := S.call (zAd (by repeat (first | exact pk1 | apply zAa)) (zAd (by repeat (first | exact pk1 | apply zAa)) (zAd (by repeat (first | exact pk1 | apply zAa)) (zAk _)))) hT; simp only [List.cons_append, List.nil_append] at S
      refine zp E (zAe E rfl rfl) ?_; clear E a; intro a E
      iterate 2 (refine zp E (zBx E rfl rfl rfl) ?_; clear E a; intro a E)
      iterate 2 (refine zp E (zAg E rfl rfl) ?_; clear E a; intro a E)
      refine wpList_nil ?_
      refine zAh hK ?_; clear hK; clear K
      refine wp_seq_k ?_; intro K hK
      replace E := E.keep (e' := [(7, _), (17, _), (18, _), (19, _), (20, _)]) (zAb rfl (zAb rfl (zAb rfl (zAb rfl (zAb rfl (zAp))))))
      refine zAc ?_
      iterate 2 (refine zp E (zAe E rfl rfl) ?_; clear E a; intro a E)
      refine zp E (zAl E rfl rfl) ?_; clear E a; intro a E
      refine zp E (by first | exact zAf (q := 3) E rfl rfl rfl | exact zAi (q := 3) E rfl rfl rfl) ?_; clear E a; intro a E
      refine zAo rfl (zBg E S rfl rfl rfl rfl rfl rfl (by repeat (first | exact pk1 | apply zAa)) (by first | exact Nat.le_of_ble_eq_true rfl | (simp; done) | (simp; omega)) ?_); clear E S a; intro a w E S; try dsimp only [List.set] at S
      refine wpList_nil ?_
      refine zAh hK ?_; clear hK; clear K
      refine wp_seq_k ?_; intro K hK
      refine zAc ?_
      iterate 2 (refine zp E (zAe E rfl rfl) ?_; clear E a; intro a E)
      refine zp E (zAl E rfl rfl) ?_; clear E a; intro a E
      refine zp E (by first | exact zAf (q := 6) E rfl rfl rfl | exact zAi (q := 6) E rfl rfl rfl) ?_; clear E a; intro a E
      refine zAo rfl (zBg E S rfl rfl rfl rfl rfl rfl (by repeat (first | exact pk1 | apply zAa)) (by first | exact Nat.le_of_ble_eq_true rfl | (simp; done) | (simp; omega)) ?_); clear E S a; intro a w E S; try dsimp only [List.set] at S
      refine wpList_nil ?_
      refine zAh hK ?_; clear hK; clear K
      iterate 2 (refine wp_seq_k ?_; intro K hK)
      refine zAc ?_
      iterate 2 (refine zp E (zAe E rfl rfl) ?_; clear E a; intro a E)
      refine zp E (by first | exact zCu E rfl rfl rfl | exact zAz E rfl rfl rfl rfl | exact zBj E rfl rfl rfl rfl | exact zBd E rfl rfl rfl) ?_; clear E a; intro a E
      refine zp E (zAe E rfl rfl) ?_; clear E a; intro a E
      refine zCh E (t := 153) rfl (rfl) (fun hb153 => ?_)
      refine zy E hb153 (zAe E rfl rfl) ?_; clear E a; intro a E
      refine zy E hb153 (by first | exact zCf E rfl rfl rfl | exact zAu E rfl rfl rfl rfl | exact zBc E rfl rfl rfl rfl | exact zAw E rfl rfl rfl) ?_; clear E a; intro a E
      refine zy E hb153 (zAe E rfl rfl) ?_; clear E a; intro a E
      iterate 2 (refine zy E hb153 (by first | exact zCu E rfl rfl rfl | exact zAz E rfl rfl rfl rfl | exact zBj E rfl rfl rfl rfl | exact zBd E rfl rfl rfl) ?_; clear E a; intro a E)
      refine zp E (zAq E rfl rfl hb153 rfl) ?_; clear E a; intro a E
      refine wpList_nil ?_
      refine zAh hK ?_; clear hK; clear K
      refine zBt E rfl (rfl) ?_
      refine wp_skip ?_
      refine zAh hK ?_; clear hK; clear K
      refine wp_seq_k ?_; intro K hK
      refine zAc ?_
      iterate 2 (refine zp E (zAe E rfl rfl) ?_; clear E a; intro a E)
      refine zp E (by first | exact zCf E rfl rfl rfl | exact zAu E rfl rfl rfl rfl | exact zBc E rfl rfl rfl rfl | exact zAw E rfl rfl rfl) ?_; clear E a; intro a E
      iterate 3 (refine zp E (zAg E rfl rfl) ?_; clear E a; intro a E)
      refine wpList_nil ?_
      refine zAh hK ?_; clear hK; clear K
      refine wp_ret ?_
      refine ret3 E rfl rfl rfl rfl ?_
      have hll : (lvs xs).length = xs.length := by simp
      rw [hll] at hCL hCK
      obtain ⟨adD, cD, rfl⟩ := hD.slice
      exact ⟨_, rfl, b24, p, t, R, C, xs, Lv, vl, vk, CL, CK, _, CD, _, CLs, _, _, _, _, rfl, hG, hCL, by unfold LkB; rw [List.length_replicate]; exact hCK, hD, hL, (S.only (Bs := [[(b24, _)], C, Lv, [(t, _)], CL, CK, CD, CLs]) (zAd (by repeat (first | exact pk1 | apply zAa)) (zAd (by repeat (first | exact pk1 | apply zAa)) (zAd (by repeat (first | exact pk1 | apply zAa)) (zAd (by repeat (first | exact pk1 | apply zAa)) (zAd (by repeat (first | exact pk1 | apply zAa)) (zAd (by repeat (first | exact pk1 | apply zAa)) (zAd (by repeat (first | exact pk1 | apply zAa)) (zAd (by repeat (first | exact pk1 | apply zAa)) (zAk _)))))))))).tr⟩
end Go.Proofs.YtidhehcjafoneaaGreatDoor
namespace Go.Proofs.YtidhehcjafoneaaGreatDoor
open Go.Sl
set_option maxRecDepth 10000
theorem dkOf_setD {R R' : Rk} {d : Nat} {g : Dk → Dk} (hg : ∀ y, (g y).d = y.d) (h : R'.ds = setD R.ds d g) (hnd : (R.ds.map Dk.d).Nodup) {e : Nat} (he : R.has e) :
    R'.has e ∧ dkOf R' e = if e = d then g (dkOf R e) else dkOf R e := by
  obtain ⟨h1, h2⟩ := zDb he
  have hm : (if (dkOf R e).d = d then g (dkOf R e) else dkOf R e) ∈ R'.ds := by rw [h]; exact List.mem_map.2 ⟨_, h1, rfl⟩
  have hnd' : (R'.ds.map Dk.d).Nodup := by rw [h, setD_ds hg]; exact hnd
  rw [h2] at hm
  by_cases q : e = d
  · rw [if_pos q] at hm ⊢
    have := dkOf_eq hnd' hm
    rw [hg, h2] at this
    exact ⟨⟨_, hm, by rw [hg, h2]⟩, this⟩
  · rw [if_neg q] at hm ⊢
    have := dkOf_eq hnd' hm
    rw [h2] at this
    exact ⟨⟨_, hm, h2⟩, this⟩
structure Up (R : Rk) (xs : List (Nat × Nat)) (k : Nat) : Prop where
  on : On R
  nd : (R.ds.map Dk.d).Nodup
  has : ∀ x ∈ xs, R.has x.2
  pl : ∀ x ∈ xs, (dkOf R x.2).pl.length = 41472
  nw : ∀ x ∈ xs, (dkOf R x.2).now.length = 41472
  ws : R.ws.length ≤ k
  wr : R.pw.wr ≤ 1480 + k
theorem RigOk.up {n p : Nat} {R : Rk} {C : zAs} {xs : List (Nat × Nat)} {Lv : zAs} (h : RigOk n p R C xs Lv) (hn : n ≤ 5) : Up R xs 0 :=
  ⟨h.fr.on, h.fr.dk.1, h.has, fun x hx => (h.dk x hx).2, fun x hx => by rw [(h.fr.dk.2 _ (zDb (h.has x hx)).1).1]; exact (h.dk x hx).2, by rw [h.fr.ws]; simp, by rw [h.fr.wr]; omega⟩
section
variable {R R' : Rk} {xs : List (Nat × Nat)} {k : Nat}
theorem Up.size (h : Up R xs k) : ∀ x ∈ xs, zEl (dkOf R x.2) = 32 := fun x hx => by unfold zEl; rw [h.pl x hx]; rfl
theorem Up.laid (h : Up R xs k) {D : List Nat} {a : Nat} {b : List UInt8} (hl : LaidOn R D a b R') (hD : D.length ≤ 5) (hb : 128 * a + b.length ≤ 41472) : Up R' xs (k + 40) :=
  ⟨hl.on, hl.nodup h.nd, fun x hx => hl.has (h.has x hx), fun x hx => by rw [hl.at h.nd (h.has x hx)]; split; exact h.pl x hx; exact h.pl x hx,
    fun x hx => by
      rw [hl.at h.nd (h.has x hx)]
      split
      · show (zHn (dkOf R x.2).now a b).length = _
        rw [zIx (by rw [h.nw x hx]; exact hb)]; exact h.nw x hx
      · exact h.nw x hx,
    by have := hl.ws; have := h.ws; omega, by have := hl.wr; have := h.wr; omega⟩
theorem zIn (d : Nat) (ws : List Wt) : (outW d ws).length ≤ ws.length := List.length_filter_le _ _
theorem Up.upd (h : Up R xs k) {y : Nat × Nat} (hy : y ∈ xs) {g : Dk → Dk} (hg : ∀ z, (g z).d = z.d) (hpw : R'.pw = R.pw) (hws : R'.ws.length ≤ R.ws.length) (hds : R'.ds = setD R.ds (dkOf R y.2).d g)
    (hgl : (g (dkOf R y.2)).pl.length = 41472 ∧ (g (dkOf R y.2)).now.length = 41472) : Up R' xs k ∧ ∀ x ∈ xs, dkOf R' x.2 = if x.2 = y.2 then g (dkOf R y.2) else dkOf R x.2 := by
  rw [(zDb (h.has y hy)).2] at hds
  have key : ∀ e, R.has e → R'.has e ∧ dkOf R' e = if e = y.2 then g (dkOf R e) else dkOf R e := fun e he => dkOf_setD hg hds h.nd he
  have key2 : ∀ x ∈ xs, dkOf R' x.2 = if x.2 = y.2 then g (dkOf R y.2) else dkOf R x.2 := fun x hx => by
    rw [(key _ (h.has x hx)).2]
    split
    · rename_i q; rw [q]
    · rfl
  refine ⟨⟨⟨by rw [hpw]; exact h.on.off, by rw [hpw]; exact h.on.left⟩, ?_, fun x hx => (key _ (h.has x hx)).1, fun x hx => ?_, fun x hx => ?_, Nat.le_trans hws h.ws, by rw [hpw]; exact h.wr⟩, key2⟩
  · rw [hds, setD_ds hg]; exact h.nd
  · rw [key2 x hx]; split; exact hgl.1; exact h.pl x hx
  · rw [key2 x hx]; split; exact hgl.2; exact h.nw x hx
theorem Up.fail (h : Up R xs k) {y : Nat × Nat} (hy : y ∈ xs) : Up (R.fail (dkOf R y.2)) xs k ∧ ∀ x ∈ xs, dkOf (R.fail (dkOf R y.2)) x.2 = if x.2 = y.2 then { dkOf R y.2 with now := (dkOf R y.2).pl, failed := true } else dkOf R x.2 :=
  h.upd hy (g := fun z => { z with now := (dkOf R y.2).pl, failed := true }) (fun _ => rfl) rfl (zIn _ _) rfl ⟨h.pl y hy, h.pl y hy⟩
theorem Up.corrupt (h : Up R xs k) {y : Nat × Nat} (hy : y ∈ xs) (at_ : Int) (mask : List UInt8) : Up (R.corrupt (dkOf R y.2) at_ mask) xs k ∧
    ∀ x ∈ xs, (dkOf (R.corrupt (dkOf R y.2) at_ mask) x.2).failed = (dkOf R x.2).failed ∧ (x.2 ≠ y.2 → dkOf (R.corrupt (dkOf R y.2) at_ mask) x.2 = dkOf R x.2) := by
  obtain ⟨h1, h2⟩ := h.upd hy (R' := R.corrupt (dkOf R y.2) at_ mask) (g := fun z => { z with pl := coB (dkOf R y.2).failed (dkOf R y.2).pl.length at_ mask (dkOf R y.2).pl, now := coB (dkOf R y.2).failed (dkOf R y.2).pl.length at_ mask (dkOf R y.2).now }) (fun _ => rfl) rfl
    (by show (coWs _ _ _ _ _ _).length ≤ _; unfold coWs; split; (unfold coW; rw [List.length_map]; exact Nat.le_refl _); exact Nat.le_refl _) rfl ⟨by rw [zHj rfl]; exact h.pl y hy, by rw [zHj (by rw [h.pl y hy]; exact h.nw y hy)]; exact h.pl y hy⟩
  refine ⟨h1, fun x hx => ⟨?_, fun q => ?_⟩⟩
  · rw [h2 x hx]
    split
    · rename_i q; rw [q]
    · rfl
  · rw [h2 x hx, if_neg q]
theorem secC_laid {y : Dk} {a : Nat} {b : List UInt8} (hf : 0 < zDm b.length) (hl : 128 * a + (padM b).length ≤ y.now.length) : secC { y with now := zHn y.now a (padM b) } a (zDm b.length).toNat b.length = b := by
  have hp := zEr hf
  have h2 := zEo b.length
  unfold secC
  show ((List.drop (a * 128) (zHn y.now a (padM b))).take _).take _ = _
  rw [Nat.mul_comm a, ← hp, patch_read hl, padM, List.take_left]
theorem zJo {D : List Nat} {a : Nat} {b : List UInt8} (hl : LaidOn R D a (padM b) R') (h : Up R xs k) {x : Nat × Nat} (hx : x ∈ xs) (hf : 0 < zDm b.length) (hb : 128 * a + (padM b).length ≤ 41472) :
    (dkOf R' x.2).failed = (dkOf R x.2).failed ∧ (x.2 ∈ D → secC (dkOf R' x.2) a (zDm b.length).toNat b.length = b) ∧ (x.2 ∉ D → dkOf R' x.2 = dkOf R x.2) := by
  rw [hl.at h.nd (h.has x hx)]
  refine ⟨by split <;> rfl, fun q => ?_, fun q => if_neg q⟩
  rw [if_pos q]
  exact secC_laid hf (by rw [h.nw x hx]; exact hb)
end
end Go.Proofs.YtidhehcjafoneaaGreatDoor
namespace Go.Proofs.YtidhehcjafoneaaGreatDoor
open Go.Sl
set_option maxRecDepth 10000
abbrev rdK (R : Rk) (a : Nat) (b : List UInt8) : Nat × Nat → Option (List UInt8) := rdC R a (zDm b.length).toNat b.length
section
variable {R R' : Rk} {xs : List (Nat × Nat)} {k a : Nat} {b : List UInt8} {chk : List UInt8 → Bool} {all : Bool} {i : Nat} {e : Int}
structure Kept (R : Rk) (xs : List (Nat × Nat)) (a : Nat) (b : List UInt8) (chk : List UInt8 → Bool) (y : Nat × Nat) : Prop where
  mem : y ∈ xs
  rd : rdK R a b y = some b
  ck : chk b = true
  good : ∀ x ∈ xs, ∀ c, rdK R a b x = some c → chk c = true → c = b
theorem Kept.found {y : Nat × Nat} (h : Kept R xs a b chk y) (hc : CpEnd all xs.length i (cpTo chk (rdK R a b) xs i)) : (cpTo chk (rdK R a b) xs i).1 = some b := by
  obtain ⟨hi, hor⟩ := hc
  obtain ⟨q1, q2, q3, q4, q5⟩ := zFk (chk := chk) (rd := rdK R a b) xs i hi
  cases hg : (cpTo chk (rdK R a b) xs i).1 with
  | none =>
    rcases hor with rfl | ⟨_, hne⟩
    · have := q4 hg y (by rw [List.take_length]; exact h.mem) b h.rd
      rw [h.ck] at this; cases this
    · exact absurd hg hne
  | some g =>
    obtain ⟨h1, x, hx, hr⟩ := q3 g hg
    rw [h.good x (List.mem_of_mem_take hx) g hr h1]
theorem cp_first (hp : 0 < xs.length) (hr : rdK R a b xs[0] = some b) (hk : chk b = true) : ∀ i, 1 ≤ i → i ≤ xs.length → (cpTo chk (rdK R a b) xs i).1 = some b
  | 0, h, _ => absurd h (by omega)
  | 1, _, h => by
    rw [zIi (by omega)]
    unfold zJb
    rw [hr]
    simp only
    rw [if_pos hk]
    show (if (cpTo chk (rdK R a b) xs 0).1.isSome then _ else _ : Option (List UInt8) × List (Nat × Nat)).1 = some b
    rw [show cpTo chk (rdK R a b) xs 0 = (none, []) by simp [cpTo]]; rfl
  | i + 2, _, h => by
    have ih := cp_first hp hr hk (i + 1) (by omega) (by omega)
    rw [zIi (by omega)]
    unfold zJb
    cases rdK R a b xs[i + 1] with
    | none => exact ih
    | some c =>
      simp only
      split
      · rw [if_pos (by rw [ih]; rfl)]; exact ih
      · exact ih
theorem zJd (hp : 0 < xs.length) (hr : rdK R a b xs[0] = some b) (hk : chk b = true) (hc : CpEnd all xs.length i (cpTo chk (rdK R a b) xs i)) : (cpTo chk (rdK R a b) xs i).1 = some b := by
  obtain ⟨hi, hor⟩ := hc
  refine cp_first hp hr hk i ?_ hi
  rcases hor with rfl | ⟨_, hne⟩
  · omega
  · by_cases h0 : i = 0
    · subst h0; exact absurd (by simp [cpTo]) hne
    · omega
theorem look_done (hU : Up R xs k) (hi : i ≤ xs.length) (hx5 : xs.length ≤ 5) (hf : 0 < zDm b.length) (hb : 128 * a + (padM b).length ≤ 41472) (hg : (cpTo chk (rdK R a b) xs i).1 = some b) (hle : LkEnd R (cpTo chk (rdK R a b) xs i) a e R') :
    e = 0 ∧ Up R' xs (k + 40) ∧ (∀ x ∈ xs, (dkOf R' x.2).failed = (dkOf R x.2).failed) ∧ (∀ x ∈ xs, rdK R' a b x = some b ∨ (dkOf R' x.2 = dkOf R x.2)) ∧ (i = xs.length → ∀ x ∈ xs, ∀ c, rdK R a b x = some c → chk c = false → rdK R' a b x = some b) := by
  obtain ⟨q1, q2, q3, q4, q5⟩ := zFk (chk := chk) (rd := rdK R a b) xs i hi
  rcases hle with ⟨hn, _⟩ | ⟨g, hg2, he, hl⟩
  · rw [hg] at hn; cases hn
  rw [hg] at hg2; cases hg2
  have hlen : ((cpTo chk (rdK R a b) xs i).2.map Prod.snd).length ≤ 5 := by
    rw [List.length_map]
    have := (q1.trans (List.take_sublist _ _)).length_le; omega
  have hrd : ∀ x ∈ xs, x.2 ∈ (cpTo chk (rdK R a b) xs i).2.map Prod.snd → (dkOf R x.2).failed = false → rdK R' a b x = some b := fun x hx hm hfl => by
    obtain ⟨s1, s2, s3⟩ := zJo hl hU hx hf hb
    unfold rdK rdC
    rw [s1, hfl, s2 hm]; simp
  have hwf : ∀ y ∈ (cpTo chk (rdK R a b) xs i).2, (dkOf R y.2).failed = false := fun y hy => by
    obtain ⟨c, hc, _⟩ := q2 y hy
    unfold rdK rdC at hc
    cases hq : (dkOf R y.2).failed with
    | false => rfl
    | true => rw [hq] at hc; simp at hc
  refine ⟨he, hU.laid hl hlen hb, fun x hx => (zJo hl hU hx hf hb).1, fun x hx => ?_, fun hin x hx c hc hck => ?_⟩
  · by_cases hm : x.2 ∈ (cpTo chk (rdK R a b) xs i).2.map Prod.snd
    · left
      obtain ⟨y, hy, hye⟩ := List.mem_map.1 hm
      exact hrd x hx hm (by rw [← hye]; exact hwf y hy)
    · right; exact (zJo hl hU hx hf hb).2.2 hm
  · have hm := q5 x (by rw [hin, List.take_length]; exact hx) c hc hck
    exact hrd x hx (List.mem_map_of_mem hm) (hwf x hm)
theorem zGr {x : Nat × Nat} (h : dkOf R' x.2 = dkOf R x.2) : rdK R' a b x = rdK R a b x := by unfold rdK rdC; rw [h]
theorem Kept.after {y : Nat × Nat} (h : Kept R xs a b chk y) (hs : ∀ x ∈ xs, rdK R' a b x = some b ∨ (dkOf R' x.2 = dkOf R x.2)) : Kept R' xs a b chk y := by
  refine ⟨h.mem, ?_, h.ck, fun x hx c hc hk => ?_⟩
  · rcases hs y h.mem with q | q
    · exact q
    · rw [zGr q]; exact h.rd
  · rcases hs x hx with q | q
    · rw [q] at hc; cases hc; rfl
    · rw [zGr q] at hc; exact h.good x hx c hc hk
theorem zJp (hU : Up R xs k) (hall : ∀ x ∈ xs, (dkOf R x.2).failed = false) : ∀ i, i ≤ xs.length →
    (flTo R (lvs xs) i).1.pw = R.pw ∧ ((flTo R (lvs xs) i).1.ds.map Dk.d).Nodup ∧ (flTo R (lvs xs) i).1.ws.length ≤ R.ws.length ∧ (0 < i → (flTo R (lvs xs) i).2 = 0) ∧
      ∀ d, R.has d → (flTo R (lvs xs) i).1.has d ∧ dkOf (flTo R (lvs xs) i).1 d = if d ∈ (xs.take i).map Prod.snd then { dkOf R d with pl := (dkOf R d).now } else dkOf R d
  | 0, _ => ⟨rfl, hU.nd, Nat.le_refl _, fun h => absurd h (by omega), fun d hd => ⟨hd, by simp [flTo]⟩⟩
  | i + 1, hi => by
    obtain ⟨h1, h2, h3, h4, h5⟩ := zJp hU hall i (by omega)
    have hil : i < xs.length := by omega
    have hm : xs[i] ∈ xs := List.getElem_mem hil
    rw [zKk (lvs_at hil)]
    generalize flTo R (lvs xs) i = F at *
    obtain ⟨g1, g2⟩ := h5 _ (hU.has _ hm)
    have hf : (dkOf F.1 xs[i].2).failed = false := by rw [g2]; split <;> exact hall _ hm
    have hE : flE F.1.pw (dkOf F.1 xs[i].2).failed = 0 := by rw [hf, h1]; unfold flE; rw [hU.on.off]; rfl
    have hds : (F.1.flush (dkOf F.1 xs[i].2)).ds = setD F.1.ds xs[i].2 fun y => { y with pl := (dkOf F.1 xs[i].2).now } := by
      show setD F.1.ds _ _ = _
      unfold flP
      rw [if_pos hE, (zDb g1).2]
    have hnow : (dkOf F.1 xs[i].2).now = (dkOf R xs[i].2).now := by rw [g2]; split <;> rfl
    refine ⟨h1, ?_, ?_, fun _ => ?_, fun d hd => ?_⟩
    · show ((F.1.flush _).ds.map Dk.d).Nodup
      rw [hds]
      exact Eq.mpr (congrArg List.Nodup (setD_ds (g := fun y => { y with pl := (dkOf F.1 xs[i].2).now }) (fun _ => rfl))) h2
    · show (flW _ _ _ _).length ≤ _
      unfold flW
      rw [if_pos hE]
      exact Nat.le_trans (zIn _ _) h3
    · show (if (dkOf F.1 xs[i].2).failed then F.2 else 0) = 0
      rw [hf]; rfl
    · obtain ⟨e1, e2⟩ := h5 d hd
      obtain ⟨f1, f2⟩ := dkOf_setD (R := F.1) (R' := F.1.flush (dkOf F.1 xs[i].2)) (g := fun y => { y with pl := (dkOf F.1 xs[i].2).now }) (fun _ => rfl) hds h2 e1
      refine ⟨f1, ?_⟩
      show dkOf (F.1.flush (dkOf F.1 xs[i].2)) d = _
      rw [f2, e2, hnow, ← List.take_append_getElem hil]
      simp only [List.map_append, List.map_cons, List.map_nil, List.mem_append, List.mem_singleton]
      by_cases q : d = xs[i].2
      · rw [if_pos q, if_pos (Or.inr q), q]; split <;> rfl
      · rw [if_neg q]
        by_cases r : d ∈ (xs.take i).map Prod.snd
        · rw [if_pos r, if_pos (Or.inl r)]
        · rw [if_neg r, if_neg (fun t => t.elim r q)]
end
end Go.Proofs.YtidhehcjafoneaaGreatDoor
namespace Go.Proofs.YtidhehcjafoneaaGreatDoor
open Go.Sl
set_option maxRecDepth 10000
section
variable (P : Nat) (R : Rk) (C : zAs) (hC : RkC P R C) (xs : List (Nat × Nat)) (k : Nat) (hU : Up R xs k)
include hC hU
theorem fail_in (x : Nat × Nat) (hx : x ∈ xs) (w0 : World) (H : Hp w0 [C]) : Ret Tryz.prog 9 #[ptr x.2] w0 fun _ w' => ∃ C', RkC P (R.fail (dkOf R x.2)) C' ∧ Trs w0 w' [C] [C'] := by
  obtain ⟨h1, h2⟩ := zDb (hU.has x hx)
  have := rk_fail P R C hC _ h1 w0 H
  rw [h2] at this; exact this
theorem corrupt_in (x : Nat × Nat) (hx : x ∈ xs) (at_ : Int) (v : Value) (mask : List UInt8) (D : zAs) (hD : Rd D 1 v mask.length (byt mask)) (w0 : World) (H : Hp w0 [C, D]) :
    Ret Tryz.prog 10 #[ptr x.2, .int .i64 at_, v] w0 fun u w' => u = .int .i64 (coE (dkOf R x.2).failed 41472 at_ mask) ∧ ∃ C', RkC P (R.corrupt (dkOf R x.2) at_ mask) C' ∧ Trs w0 w' [C, D] [C', D] := by
  obtain ⟨h1, h2⟩ := zDb (hU.has x hx)
  have := rk_corrupt P R C hC _ h1 at_ v mask D hD w0 H
  rw [h2, hU.pl x hx] at this; exact this
variable (hk : k ≤ 1000) (hx5 : xs.length ≤ 5) (hnd : (xs.map Prod.snd).Nodup) (Lv : zAs) (hLv : LvC (lvs xs) Lv) (t : Nat) (vl vk : Value) (CL : zAs) (hCL : Buf CL 49 1 vl xs.length ((lvs xs).map lv))
  (at_ : Int) (ha : -9223372036854775808 ≤ at_ ∧ at_ ≤ 9223372036854775807)
include hk hx5 hnd hLv hCL ha
theorem zIs (hnf : ∀ x ∈ xs, (dkOf R x.2).failed = false) (b : List UInt8) (v : Value) (D : zAs) (hD : Rd D 1 v b.length (byt b)) (h1 : 1 ≤ xs.length) (txg : Int) (ht : 1 ≤ txg ∧ txg ≤ 281474976710656) (hfit : zEj 32 at_ b.length) (w0 : World) (H : Hp w0 [C, Lv, [(t, mtcl vl vk 32)], CL, D]) :
    Ret Tryz.prog 8 #[ptr t, .int .i64 at_, v, .int .u64 txg] w0 fun u w' => u = .int .i64 0 ∧ ∃ R' C' Lv', RkC P R' C' ∧ LvC (lvs xs) Lv' ∧ Up R' xs (k + 40) ∧ (∀ x ∈ xs, (dkOf R' x.2).failed = false ∧ rdK R' (274 + at_).toNat b x = some b) ∧ Trs w0 w' [C, Lv, [(t, mtcl vl vk 32)], CL, D] [C', Lv', [(t, mtcl vl vk 32)], CL, D] := by
  obtain ⟨f1, f2, f3, f4⟩ := id hfit
  obtain ⟨n1, n2, n3, n4⟩ := zEo b.length
  have hws := hU.ws
  have hwr := hU.wr
  refine (mwrite_ret P R C hC hU.on xs hx5 hnd Lv hLv hU.has hnf 32 hU.size (by omega) (by omega) (by omega) t vl vk CL hCL at_ ha b v D hD h1 (by omega) txg ht w0 H).mono fun u w' h => ?_
  rcases h with ⟨h, _⟩ | ⟨_, hu, R', C', Lv', hl, hC', hLv', hT⟩
  · exact absurd hfit h
  · have hpl := zEr f1
    have hfb : 128 * (274 + at_).toNat + (padM b).length ≤ 41472 := by omega
    refine ⟨hu, R', C', Lv', hC', hLv', hU.laid hl (by rw [List.length_map]; exact hx5) hfb, fun x hx => ?_, hT⟩
    obtain ⟨s1, s2, _⟩ := zJo hl hU hx f1 hfb
    refine ⟨by rw [s1]; exact hnf x hx, ?_⟩
    unfold rdK rdC
    rw [s1, hnf x hx, s2 (List.mem_map_of_mem hx)]; simp
theorem mwrite_no (hnf : ∀ x ∈ xs, (dkOf R x.2).failed = false) (b : List UInt8) (hbl : b.length ≤ 9223372036854775807) (v : Value) (D : zAs) (hD : Rd D 1 v b.length (byt b)) (h1 : 1 ≤ xs.length) (txg : Int) (ht : 1 ≤ txg ∧ txg ≤ 281474976710656) (hfit : ¬ zEj 32 at_ b.length) (w0 : World) (H : Hp w0 [C, Lv, [(t, mtcl vl vk 32)], CL, D]) :
    Ret Tryz.prog 8 #[ptr t, .int .i64 at_, v, .int .u64 txg] w0 fun u w' => u = .int .i64 1 ∧ Trs w0 w' [C, Lv, [(t, mtcl vl vk 32)], CL, D] [C, Lv, [(t, mtcl vl vk 32)], CL, D] := by
  have hws := hU.ws
  have hwr := hU.wr
  refine (mwrite_ret P R C hC hU.on xs hx5 hnd Lv hLv hU.has hnf 32 hU.size (by omega) (by omega) (by omega) t vl vk CL hCL at_ ha b v D hD h1 hbl txg ht w0 H).mono fun u w' h => ?_
  rcases h with ⟨_, hu, hT⟩ | ⟨h, _⟩
  · exact ⟨hu, hT⟩
  · exact absurd h hfit
variable (G : zAs) (hG : Tab [G] 2 shaK) (b : List UInt8) (hfit : zEj 32 at_ b.length) (kind : Int) (hkd : kind = 1 ∨ kind = 2) (s : Fs)
include hG hfit hkd
theorem mread_good (hfound : ∀ i, CpEnd false xs.length i (cpTo (chkK kind s) (rdK R (274 + at_).toNat b) xs i) → (cpTo (chkK kind s) (rdK R (274 + at_).toNat b) xs i).1 = some b) (w0 : World) (H : Hp w0 [C, Lv, [(t, mtcl vl vk 32)], CL, G]) :
    Ret Tryz.prog 13 #[ptr t, .int .i64 at_, .int .i64 b.length, .int .i64 kind, s.agg] w0 fun u w' => ∃ v Cg R' C' Lv', u = .tuple #[v, .int .i64 0] ∧ Rd Cg 1 v b.length (byt b) ∧ RkC P R' C' ∧ LvC (lvs xs) Lv' ∧ Up R' xs (k + 40) ∧ (∀ x ∈ xs, (dkOf R' x.2).failed = (dkOf R x.2).failed) ∧
      (∀ x ∈ xs, rdK R' (274 + at_).toNat b x = some b ∨ (dkOf R' x.2 = dkOf R x.2)) ∧ Trs w0 w' [C, Lv, [(t, mtcl vl vk 32)], CL, G] [Cg, C', Lv', [(t, mtcl vl vk 32)], CL, G] := by
  obtain ⟨f1, f2, f3, f4⟩ := id hfit
  obtain ⟨n1, n2, n3, n4⟩ := zEo b.length
  have hpl := zEr f1
  have hws := hU.ws
  have hwr := hU.wr
  refine (mread_ret P R C hC hU.on xs hx5 hnd Lv hLv hU.has 32 hU.size (by omega) (by omega) (by omega) t vl vk CL hCL G hG at_ ha b.length hfit kind hkd s w0 H).mono fun u w' ⟨i, vg, n, e, Cg, R', C', Lv', hce, hu, hRd, hC', hLv', hle, hT⟩ => ?_
  have hg := hfound i hce
  obtain ⟨he, hU', hfl, hs, _⟩ := look_done hU hce.1 hx5 f1 (by omega) hg hle
  subst he
  exact ⟨vg, Cg, R', C', Lv', hu, hRd b hg, hC', hLv', hU', hfl, hs, hT⟩
theorem mscrub_good (hfound : ∀ i, CpEnd true xs.length i (cpTo (chkK kind s) (rdK R (274 + at_).toNat b) xs i) → (cpTo (chkK kind s) (rdK R (274 + at_).toNat b) xs i).1 = some b) (w0 : World) (H : Hp w0 [C, Lv, [(t, mtcl vl vk 32)], CL, G]) :
    Ret Tryz.prog 14 #[ptr t, .int .i64 at_, .int .i64 b.length, .int .i64 kind, s.agg] w0 fun u w' => ∃ (n : Int) (R' : Rk) (C' Lv' : zAs), 0 ≤ n ∧ u = .tuple #[.int .i64 n, .int .i64 0] ∧ RkC P R' C' ∧ LvC (lvs xs) Lv' ∧ Up R' xs (k + 40) ∧ (∀ x ∈ xs, (dkOf R' x.2).failed = (dkOf R x.2).failed) ∧
      (∀ x ∈ xs, rdK R' (274 + at_).toNat b x = some b ∨ (dkOf R' x.2 = dkOf R x.2)) ∧ (∀ x ∈ xs, ∀ c, rdK R (274 + at_).toNat b x = some c → chkK kind s c = false → rdK R' (274 + at_).toNat b x = some b) ∧ Trs w0 w' [C, Lv, [(t, mtcl vl vk 32)], CL, G] [C', Lv', [(t, mtcl vl vk 32)], CL, G] := by
  obtain ⟨f1, f2, f3, f4⟩ := id hfit
  obtain ⟨n1, n2, n3, n4⟩ := zEo b.length
  have hpl := zEr f1
  have hws := hU.ws
  have hwr := hU.wr
  refine (mscrub_ret P R C hC hU.on xs hx5 hnd Lv hLv hU.has 32 hU.size (by omega) (by omega) (by omega) t vl vk CL hCL G hG at_ ha b.length hfit kind hkd s w0 H).mono fun u w' ⟨i, vg, n, e, Cg, R', C', Lv', hce, hn0, hu, hC', hLv', hle, hT⟩ => ?_
  have hg := hfound i hce
  have hin : i = xs.length := hce.2.resolve_right (fun q => by cases q.1)
  obtain ⟨he, hU', hfl, hs, hs2⟩ := look_done hU hce.1 hx5 f1 (by omega) hg hle
  subst he
  have S : St w0 [C, Lv, [(t, mtcl vl vk 32)], CL, G] w' [Cg, C', Lv', [(t, mtcl vl vk 32)], CL, G] := ⟨H, hT⟩
  exact ⟨n, R', C', Lv', hn0, hu, hC', hLv', hU', hfl, hs, hs2 hin, S.tail.tr⟩
end
end Go.Proofs.YtidhehcjafoneaaGreatDoor
namespace Go.Proofs.YtidhehcjafoneaaGreatDoor
open Go.Sl
set_option maxRecDepth 10000
def abcB : List UInt8 := [97, 98, 99]
theorem chkK_self {kind : Int} (hk : kind = 1 ∨ kind = 2) (b : List UInt8) : chkK kind (sumK kind b).1 b = true := by
  unfold chkK
  rw [Fs.eqB_eq, decide_eq_true (sumK_err.2 hk)]; simp
theorem awake_ret (G : zAs) (hG : Tab [G] 2 shaK) (w0 : World) (H : Hp w0 [G]) : Ret Tryz.prog 5 #[] w0 fun u w' => u = .bool true ∧ Trs w0 w' [G] [G] := by
  have S := St.begin H
  have habc : byt abcB = [.int .u8 97, .int .u8 98, .int .u8 99] := rfl
  have hfit : zEj 32 2 abcB.length := by decide
  refine zKx 157 Tryz.func5 rfl rfl ?_; intro a E
  refine wp_seq_k ?_; intro K hK
  refine zAc ?_
  refine zp E (zAg E rfl rfl) ?_; clear E a; intro a E
  refine wpList_nil ?_
  refine zAh hK ?_; clear hK; clear K
  refine wp_seq_k ?_; intro K hK
  refine zAc ?_
  refine zAr E rfl rfl (by decide) rfl Tryz.func6 rfl (by kernel_rfl) rfl (begun_ret 3 (by omega) _) ?_
  rintro v19 w ⟨x, p, t, R, C, xs, Lv, vl, vk, CL, CK, vD, CD, vL, CLs, v4, v5, v6, v7, rfl, hGk, hCL, hCK, hCD, hCLs, hT⟩; clear E a; intro a E
  have S := S.call (zAk _) hT; simp only [List.cons_append, List.nil_append] at S; have hU := hGk.up (by omega); have hlen := hGk.len; have hnd := hGk.nd; have hnf := fun x hx => (hGk.dk x hx).1; obtain ⟨hC, _, _, _, hLv⟩ := hGk
  obtain ⟨adD, cD, rfl⟩ := hCD.slice
  obtain ⟨gD, rfl⟩ := hCD.addr (by omega)
  obtain ⟨adl, cl, rfl⟩ := hCL.slice
  have hm0 : xs[0] ∈ xs := List.getElem_mem _
  have hm2 : xs[2] ∈ xs := List.getElem_mem _
  have hcell : (xs.map fun y => ptr y.2)[2]? = some (ptr xs[2].2) := by rw [List.getElem?_map, List.getElem?_eq_getElem (by omega)]; rfl
  have hne : xs[0].2 ≠ xs[2].2 := fun q => by
    have h1 : (xs.map Prod.snd)[0]'(by simp; omega) = (xs.map Prod.snd)[2]'(by simp; omega) := by simpa using q
    have := (List.getElem_inj hnd).1 h1
    omega
  refine zp E (zAe E rfl rfl) ?_; clear E a; intro a E
  iterate 3 (refine zp E (zBx E rfl rfl rfl) ?_; clear E a; intro a E)
  iterate 3 (refine zp E (zAg E rfl rfl) ?_; clear E a; intro a E)
  refine wpList_nil ?_
  refine zAh hK ?_; clear hK; clear K
  iterate 2 (refine wp_seq_k ?_; intro K hK)
  refine zAc ?_
  refine zp E (zAe E rfl rfl) ?_; clear E a; intro a E
  refine zp E (zEg E rfl rfl) ?_; clear E a; intro a E
  refine wpList_nil ?_
  refine zAh hK ?_; clear hK; clear K
  refine zBt E rfl (rfl) ?_
  refine wp_skip ?_
  refine zAh hK ?_; clear hK; clear K
  refine wp_seq_k ?_; intro K hK
  refine zAc ?_
  refine zp E (zAe E rfl rfl) ?_; clear E a; intro a E
  refine zp E (zAl E rfl rfl) ?_; clear E a; intro a E
  refine zp E (by first | exact zAf (q := 3) E rfl rfl rfl | exact zAi (q := 3) E rfl rfl rfl) ?_; clear E a; intro a E
  refine zp E (by first | exact zAn E rfl rfl rfl (S.get (by repeat (first | exact pk1 | apply zAa))) rfl | exact zAj E rfl rfl rfl (by assumption)) ?_; clear E a; intro a E
  refine zAo rfl (zCk (cells := [_, _, _]) E S rfl rfl (by decide) rfl rfl rfl rfl rfl (by decide) rfl ?_); clear E S a; intro a w b29 E S
  refine zAo rfl (wp_mark E S rfl rfl rfl (by decide) rfl rfl rfl (by repeat (first | exact pk1 | apply zAa)) ?_); clear E S a; intro a w E S
  refine zAr E rfl rfl (by decide) rfl Tryz.func8 rfl (by kernel_rfl) rfl (zIs p R C hC xs 0 hU (by omega) (by omega) hnd Lv hLv t _ vk CL hCL 2 (by omega) hnf abcB _ [(b29, mcel (byt abcB) 5)] (rd_mark abcB (by decide)) (by omega) 5 (by omega) hfit _ (S.hp.sel (zAd (by repeat (first | exact pk1 | apply zAa)) (zAd (by repeat (first | exact pk1 | apply zAa)) (zAd (by repeat (first | exact pk1 | apply zAa)) (zAd (by repeat (first | exact pk1 | apply zAa)) (zAd (by repeat (first | exact pk1 | apply zAa)) (zAk _)))))))) ?_
  rintro v31 w ⟨rfl, R1, C1, Lv1, hC1, hLv1, hU1, hW1, hT⟩; clear E a; intro a E
  have S := S.call (zAd (by repeat (first | exact pk1 | apply zAa)) (zAd (by repeat (first | exact pk1 | apply zAa)) (zAd (by repeat (first | exact pk1 | apply zAa)) (zAd (by repeat (first | exact pk1 | apply zAa)) (zAd (by repeat (first | exact pk1 | apply zAa)) (zAk _)))))) hT; simp only [List.cons_append, List.nil_append] at S
  refine zp E (zAg E rfl rfl) ?_; clear E a; intro a E
  refine wpList_nil ?_
  refine zAh hK ?_; clear hK; clear K
  refine wp_seq_k ?_; intro K hK
  refine zAc ?_
  refine zp E (zAe E rfl rfl) ?_; clear E a; intro a E
  refine zp E (zAl E rfl rfl) ?_; clear E a; intro a E
  refine zp E (by first | exact zAf (q := 1) E rfl rfl rfl | exact zAi (q := 1) E rfl rfl rfl) ?_; clear E a; intro a E
  refine zp E (by first | exact zAn E rfl rfl rfl (S.get (by repeat (first | exact pk1 | apply zAa))) rfl | exact zAj E rfl rfl rfl (by assumption)) ?_; clear E a; intro a E
  refine zp E (zBn (i := 2) E rfl rfl rfl rfl rfl rfl (by omega)) ?_; clear E a; intro a E
  refine zp E (zAj E rfl rfl rfl (hCD.rd.cells (S.stab.at (by repeat (first | exact mm1 | assumption | apply List.Mem.tail))) rfl 2 _ hcell)) ?_; clear E a; intro a E
  refine zAo rfl (zCk (cells := [_]) E S rfl rfl (by decide) rfl rfl rfl rfl rfl (by decide) rfl ?_); clear E S a; intro a w b38 E S
  refine zAr E rfl rfl (by decide) rfl Tryz.func10 rfl (by kernel_rfl) rfl (corrupt_in p R1 C1 hC1 xs 40 hU1 xs[2] hm2 276 _ [1] [(b38, _)] (zCr (T := 5) (xs := byt [1]) (m := 1) (s := 1) rfl (by simp [byt, Value.oneCell']) (by omega) 1) _ (S.hp.sel (zAd (by repeat (first | exact pk1 | apply zAa)) (zAd (by repeat (first | exact pk1 | apply zAa)) (zAk _))))) ?_
  rintro v39 w ⟨rfl, C2, hC2, hT⟩; clear E a; intro a E
  have S := S.call2 (zAd (by repeat (first | exact pk1 | apply zAa)) (zAd (by repeat (first | exact pk1 | apply zAa)) (zAk _))) hT; obtain ⟨hU2, hK2⟩ := hU1.corrupt hm2 276 [1]; rw [show coE (dkOf R1 xs[2].2).failed 41472 276 [1] = 0 by rw [(hW1 _ hm2).1]; rfl] at E
  refine zp E (zAg E rfl rfl) ?_; clear E a; intro a E
  refine wpList_nil ?_
  refine zAh hK ?_; clear hK; clear K
  refine wp_seq_k ?_; intro K hK
  replace E := E.keep (e' := [(0, _), (1, _), (4, _), (5, _)]) (zAb rfl (zAb rfl (zAb rfl (zAb rfl (zAp)))))
  refine zAc ?_
  refine zp E (zAe E rfl rfl) ?_; clear E a; intro a E
  refine zp E (zAl E rfl rfl) ?_; clear E a; intro a E
  refine zp E (by first | exact zAf (q := 1) E rfl rfl rfl | exact zAi (q := 1) E rfl rfl rfl) ?_; clear E a; intro a E
  refine zp E (by first | exact zAn E rfl rfl rfl (S.get (by repeat (first | exact pk1 | apply zAa))) rfl | exact zAj E rfl rfl rfl (by assumption)) ?_; clear E a; intro a E
  refine zp E (zBn (i := 2) E rfl rfl rfl rfl rfl rfl (by omega)) ?_; clear E a; intro a E
  refine zp E (zAj E rfl rfl rfl (hCD.rd.cells (S.stab.at (by repeat (first | exact mm1 | assumption | apply List.Mem.tail))) rfl 2 _ hcell)) ?_; clear E a; intro a E
  refine zAo rfl (zCk (cells := [_]) E S rfl rfl (by decide) rfl rfl rfl rfl rfl (by decide) rfl ?_); clear E S a; intro a w b46 E S
  refine zAr E rfl rfl (by decide) rfl Tryz.func10 rfl (by kernel_rfl) rfl (corrupt_in p (R1.corrupt (dkOf R1 xs[2].2) 276 [1]) C2 hC2 xs 40 hU2 xs[2] hm2 274 _ [1] [(b46, _)] (zCr (T := 5) (xs := byt [1]) (m := 1) (s := 1) rfl (by simp [byt, Value.oneCell']) (by omega) 1) _ (S.hp.sel (zAd (by repeat (first | exact pk1 | apply zAa)) (zAd (by repeat (first | exact pk1 | apply zAa)) (zAk _))))) ?_
  rintro v47 w ⟨rfl, C3, hC3, hT⟩; clear E a; intro a E
  have S := S.call2 (zAd (by repeat (first | exact pk1 | apply zAa)) (zAd (by repeat (first | exact pk1 | apply zAa)) (zAk _))) hT; obtain ⟨hU3, hK3⟩ := hU2.corrupt hm2 274 [1]; rw [show coE (dkOf (R1.corrupt (dkOf R1 xs[2].2) 276 [1]) xs[2].2).failed 41472 274 [1] = 0 by rw [(hK2 _ hm2).1.trans (hW1 _ hm2).1]; rfl] at E
  refine zp E (zAg E rfl rfl) ?_; clear E a; intro a E
  refine wpList_nil ?_
  refine zAh hK ?_; clear hK; clear K
  refine wp_seq_k ?_; intro K hK
  obtain ⟨R3, hR3⟩ : ∃ R3, R3 = ((R1.corrupt (dkOf R1 xs[2].2) 276 [1]).corrupt (dkOf (R1.corrupt (dkOf R1 xs[2].2) 276 [1]) xs[2].2) 274 [1]) := ⟨_, rfl⟩
  rw [← hR3] at hC3 hU3 hK3
  have hd3 : dkOf R3 xs[0].2 = dkOf R1 xs[0].2 := by rw [(hK3 _ hm0).2 hne, (hK2 _ hm0).2 hne]
  have hr3 : rdK R3 276 abcB xs[0] = some abcB := by rw [zGr hd3]; exact (hW1 _ hm0).2
  have hck : chkK 1 (zFh abcB) abcB = true := chkK_self (.inl rfl) abcB
  have hf3 : ∀ x ∈ xs, (dkOf R3 x.2).failed = false := fun x hx => ((hK3 x hx).1.trans (hK2 x hx).1).trans (hW1 x hx).1
  refine zAc ?_
  refine zAo rfl (zCk (cells := [_, _, _]) E S rfl rfl (by decide) rfl rfl rfl rfl rfl (by decide) rfl ?_); clear E S a; intro a w b48 E S
  refine zAo rfl (wp_mark E S rfl rfl rfl (by decide) rfl rfl rfl (by repeat (first | exact pk1 | apply zAa)) ?_); clear E S a; intro a w E S
  refine zAr E rfl rfl (by decide) rfl Tryz.func18 rfl (by kernel_rfl) rfl (zGn [(b48, mcel (byt abcB) 5)] _ abcB (rd_mark abcB (by decide)) (by decide) _ (S.hp.sel (zAd (by repeat (first | exact pk1 | apply zAa)) (zAk _)))) ?_
  rintro v50 w ⟨rfl, hT⟩; clear E a; intro a E
  have S := S.call1 (zAd (by repeat (first | exact pk1 | apply zAa)) (zAk _)) hT
  refine zAo rfl (zCc E S rfl rfl (by decide) rfl rfl rfl ?_); clear E S a; intro a w b7 E S
  refine zAo rfl (zCg E S rfl rfl rfl rfl (by simp [Value.oneCell']) rfl (by repeat (first | exact pk1 | apply zAa)) (by simp) ?_); clear E S a; intro a w E S; simp only [List.take_succ_cons, List.take_zero, List.drop_succ_cons, List.drop_zero, List.cons_append, List.nil_append, List.append_nil, List.length_cons, List.length_nil, Nat.zero_add, Nat.add_zero] at S
  refine wpList_nil ?_
  refine zAh hK ?_; clear hK; clear K
  refine wp_seq_k ?_; intro K hK
  refine zBo S (.ofL [(0, 0), (1, 0), (2, 0), (3, 0), (4, 0), (5, 3), (6, 2), (7, 2), (8, 2), (9, 2), (10, 2)]) (by kernel_rfl) (by kernel_rfl) ?_
  clear S; intro w S
  refine zm E rfl (fun w h => zAe E rfl rfl) ?_; clear E a; intro a E
  refine zm E rfl (fun w h => zAl E rfl rfl) ?_; clear E a; intro a E
  refine zm E rfl (fun w h => by first | exact zAf (q := 3) E rfl rfl rfl | exact zAi (q := 3) E rfl rfl rfl) ?_; clear E a; intro a E
  refine zm E rfl (fun w h => by first | exact zAn E rfl rfl rfl (h.one (by repeat (first | exact mm1 | assumption | apply List.Mem.tail))) rfl | exact zAj E rfl rfl rfl (by assumption)) ?_; clear E a; intro a E
  refine zm E rfl (fun w h => zBw (vs := [_, _, _, _]) E rfl rfl rfl (h.one (by repeat (first | exact mm1 | assumption | apply List.Mem.tail))) rfl rfl) ?_; clear E a; intro a E
  refine zDl E rfl rfl rfl (by decide) rfl Tryz.func13 rfl (by kernel_rfl) rfl (mread_good p R3 C3 hC3 xs 40 hU3 (by omega) (by omega) hnd Lv1 hLv1 t _ vk CL hCL 2 (by omega) G hG abcB hfit 1 (.inl rfl) (zFh abcB) (fun i hce => zJd (by omega) hr3 hck hce) _ (S.hp.sel (zAd (by repeat (first | exact pk1 | apply zAa)) (zAd (by repeat (first | exact pk1 | apply zAa)) (zAd (by repeat (first | exact pk1 | apply zAa)) (zAd (by repeat (first | exact pk1 | apply zAa)) (zAd (by repeat (first | exact pk1 | apply zAa)) (zAk _)))))))) ?_
  rintro v57 w ⟨v8, Cg, R4, C4, Lv4, rfl, hRd, hC4, hLv4, hU4, hf4, hs4, hT⟩; clear E a; intro a E
  have S := S.call (zAd (by repeat (first | exact pk1 | apply zAa)) (zAd (by repeat (first | exact pk1 | apply zAa)) (zAd (by repeat (first | exact pk1 | apply zAa)) (zAd (by repeat (first | exact pk1 | apply zAa)) (zAd (by repeat (first | exact pk1 | apply zAa)) (zAk _)))))) hT; simp only [List.cons_append, List.nil_append] at S
  obtain ⟨ad8, c8, rfl⟩ := hRd.slice
  have hr4 : rdK R4 276 abcB xs[0] = some abcB := (hs4 _ hm0).elim id (fun q => by rw [zGr q]; exact hr3)
  refine zCl E rfl rfl rfl (by decide) (fun w => zAe E rfl rfl) ?_; clear E a; intro a E
  iterate 2 (refine zCl E rfl rfl rfl (by decide) (fun w => zBx E rfl rfl rfl) ?_; clear E a; intro a E)
  iterate 2 (refine zCl E rfl rfl rfl (by decide) (fun w => zAg E rfl rfl) ?_; clear E a; intro a E)
  refine zBs ?_
  refine zAh hK ?_; clear hK; clear K
  refine wp_seq_k ?_; intro K hK
  replace E := E.keep (e' := [(0, _), (1, _), (4, _), (5, _), (6, _), (7, _), (8, _), (9, _)]) (zAb rfl (zAb rfl (zAb rfl (zAb rfl (zAb rfl (zAb rfl (zAb rfl (zAb rfl (zAp)))))))))
  refine zBo S (.ofL [(0, 0), (1, 0), (2, 0), (3, 0), (4, 0), (5, 3), (6, 2), (7, 2), (8, 2), (9, 2), (10, 2)]) (by kernel_rfl) (by kernel_rfl) ?_
  clear S; intro w S
  refine zm E rfl (fun w h => zAe E rfl rfl) ?_; clear E a; intro a E
  refine zm E rfl (fun w h => zAl E rfl rfl) ?_; clear E a; intro a E
  refine zm E rfl (fun w h => by first | exact zAf (q := 3) E rfl rfl rfl | exact zAi (q := 3) E rfl rfl rfl) ?_; clear E a; intro a E
  refine zm E rfl (fun w h => by first | exact zAn E rfl rfl rfl (h.one (by repeat (first | exact mm1 | assumption | apply List.Mem.tail))) rfl | exact zAj E rfl rfl rfl (by assumption)) ?_; clear E a; intro a E
  refine zm E rfl (fun w h => zBw (vs := [_, _, _, _]) E rfl rfl rfl (h.one (by repeat (first | exact mm1 | assumption | apply List.Mem.tail))) rfl rfl) ?_; clear E a; intro a E
  refine zDl E rfl rfl rfl (by decide) rfl Tryz.func14 rfl (by kernel_rfl) rfl (mscrub_good p R4 C4 hC4 xs 80 hU4 (by omega) (by omega) hnd Lv4 hLv4 t _ vk CL hCL 2 (by omega) G hG abcB hfit 1 (.inl rfl) (zFh abcB) (fun i hce => zJd (by omega) hr4 hck hce) _ (S.hp.sel (zAd (by repeat (first | exact pk1 | apply zAa)) (zAd (by repeat (first | exact pk1 | apply zAa)) (zAd (by repeat (first | exact pk1 | apply zAa)) (zAd (by repeat (first | exact pk1 | apply zAa)) (zAd (by repeat (first | exact pk1 | apply zAa)) (zAk _)))))))) ?_
  rintro v66 w ⟨n9, R5, C5, Lv5, hn9, rfl, hC5, hLv5, hU5, hf5, hs5, _, hT⟩; clear E a; intro a E
  have S := S.call (zAd (by repeat (first | exact pk1 | apply zAa)) (zAd (by repeat (first | exact pk1 | apply zAa)) (zAd (by repeat (first | exact pk1 | apply zAa)) (zAd (by repeat (first | exact pk1 | apply zAa)) (zAd (by repeat (first | exact pk1 | apply zAa)) (zAk _)))))) hT; simp only [List.cons_append, List.nil_append] at S
  obtain ⟨_, _, _, h50, _⟩ := zJp hU5 (fun x hx => ((hf5 x hx).trans (hf4 x hx)).trans (hf3 x hx)) xs.length (Nat.le_refl _)
  refine zCl E rfl rfl rfl (by decide) (fun w => zAe E rfl rfl) ?_; clear E a; intro a E
  iterate 2 (refine zCl E rfl rfl rfl (by decide) (fun w => zBx E rfl rfl rfl) ?_; clear E a; intro a E)
  iterate 2 (refine zCl E rfl rfl rfl (by decide) (fun w => zAg E rfl rfl) ?_; clear E a; intro a E)
  refine zBs ?_
  refine zAh hK ?_; clear hK; clear K
  refine wp_seq_k ?_; intro K hK
  refine zAc ?_
  refine zp E (zAe E rfl rfl) ?_; clear E a; intro a E
  refine zp E (zAl E rfl rfl) ?_; clear E a; intro a E
  refine zp E (by first | exact zAf (q := 3) E rfl rfl rfl | exact zAi (q := 3) E rfl rfl rfl) ?_; clear E a; intro a E
  refine zp E (by first | exact zAn E rfl rfl rfl (S.get (by repeat (first | exact pk1 | apply zAa))) rfl | exact zAj E rfl rfl rfl (by assumption)) ?_; clear E a; intro a E
  refine zAr E rfl rfl (by decide) rfl Tryz.func16 rfl (by kernel_rfl) rfl (mflush_ret p R5 C5 hC5 hU5.on.off (lvs xs) Lv5 hLv5 (fun x hx => hU5.has x (by simpa [lvs] using hx)) (by simp; omega) t _ vk 32 CL (by simpa using hCL) _ (S.hp.sel (zAd (by repeat (first | exact pk1 | apply zAa)) (zAd (by repeat (first | exact pk1 | apply zAa)) (zAd (by repeat (first | exact pk1 | apply zAa)) (zAd (by repeat (first | exact pk1 | apply zAa)) (zAk _))))))) ?_
  rintro v73 w ⟨rfl, C6, Lv6, hC6, hLv6, hT⟩; clear E a; intro a E
  have S := S.call (zAd (by repeat (first | exact pk1 | apply zAa)) (zAd (by repeat (first | exact pk1 | apply zAa)) (zAd (by repeat (first | exact pk1 | apply zAa)) (zAd (by repeat (first | exact pk1 | apply zAa)) (zAk _))))) hT; simp only [List.cons_append, List.nil_append] at S; rw [show (lvs xs).length = xs.length by simp, h50 (by omega)] at E
  refine zp E (zAg E rfl rfl) ?_; clear E a; intro a E
  refine wpList_nil ?_
  refine zAh hK ?_; clear hK; clear K
  refine wp_seq_k ?_; intro K hK
  replace E := E.keep (e' := [(0, _), (1, _), (4, _), (5, _), (6, _), (8, _), (9, _), (10, _), (11, _), (12, _)]) (zAb rfl (zAb rfl (zAb rfl (zAb rfl (zAb rfl (zAb rfl (zAb rfl (zAb rfl (zAb rfl (zAb rfl (zAp)))))))))))
  obtain ⟨lk, hlk⟩ : ∃ lk, lk = List.replicate xs.length zGg := ⟨_, rfl⟩
  have hll : xs.length = lk.length := by rw [hlk, List.length_replicate]
  rw [← hlk] at hCK
  rw [hll] at S
  refine zAc ?_
  refine zp E (zAe E rfl rfl) ?_; clear E a; intro a E
  refine zp E (zAl E rfl rfl) ?_; clear E a; intro a E
  refine zp E (by first | exact zAf (q := 3) E rfl rfl rfl | exact zAi (q := 3) E rfl rfl rfl) ?_; clear E a; intro a E
  refine zp E (by first | exact zAn E rfl rfl rfl (S.get (by repeat (first | exact pk1 | apply zAa))) rfl | exact zAj E rfl rfl rfl (by assumption)) ?_; clear E a; intro a E
  refine zp E (zCo (cells := [_, _]) E rfl rfl rfl) ?_; clear E a; intro a E
  refine zAr E rfl rfl (by decide) rfl Tryz.func19 rfl (by kernel_rfl) rfl (mbehind_ret t vk adl cl 32 lk CK hCK 1 (by omega) 2 4 (by omega) (by omega) (by omega) _ (S.hp.sel (zAd (by repeat (first | exact pk1 | apply zAa)) (zAd (by repeat (first | exact pk1 | apply zAa)) (zAk _))))) ?_
  rintro v79 w ⟨rfl, CK2, hCK2, hT⟩; clear E a; intro a E
  have S := S.call2 (zAd (by repeat (first | exact pk1 | apply zAa)) (zAd (by repeat (first | exact pk1 | apply zAa)) (zAk _))) hT
  refine zp E (zAg E rfl rfl) ?_; clear E a; intro a E
  refine wpList_nil ?_
  refine zAh hK ?_; clear hK; clear K
  refine wp_seq_k ?_; intro K hK
  obtain ⟨lk2, hlk2⟩ : ∃ lk2, lk2 = lk.set 1 (lk[1].join 2 4) := ⟨_, rfl⟩
  have hl2 : lk.length = lk2.length := by rw [hlk2, List.length_set]
  have hl21 : lk2[1] = ⟨2, 4, true⟩ := by simp [hlk2, hlk, Lk.join, zGg]
  rw [← hlk2] at hCK2
  rw [hl2] at S
  refine zAc ?_
  refine zp E (zAe E rfl rfl) ?_; clear E a; intro a E
  refine zp E (zAl E rfl rfl) ?_; clear E a; intro a E
  refine zp E (by first | exact zAf (q := 3) E rfl rfl rfl | exact zAi (q := 3) E rfl rfl rfl) ?_; clear E a; intro a E
  refine zp E (by first | exact zAn E rfl rfl rfl (S.get (by repeat (first | exact pk1 | apply zAa))) rfl | exact zAj E rfl rfl rfl (by assumption)) ?_; clear E a; intro a E
  refine zAr E rfl rfl (by decide) rfl Tryz.func20 rfl (by kernel_rfl) rfl (mlacks_ret t vk adl cl 32 lk2 CK2 hCK2 1 (by omega) _ (S.hp.sel (zAd (by repeat (first | exact pk1 | apply zAa)) (zAd (by repeat (first | exact pk1 | apply zAa)) (zAk _))))) ?_
  rintro v85 w ⟨rfl, hT⟩; clear E a; intro a E
  have S := S.call2 (zAd (by repeat (first | exact pk1 | apply zAa)) (zAd (by repeat (first | exact pk1 | apply zAa)) (zAk _))) hT; rw [hl21] at E
  refine zp E (zAe E rfl rfl) ?_; clear E a; intro a E
  iterate 2 (refine zp E (zBx E rfl rfl rfl) ?_; clear E a; intro a E)
  refine zAo rfl (zCc E S rfl rfl (by decide) rfl rfl rfl ?_); clear E S a; intro a w b14 E S
  refine zAo rfl (zCg E S rfl rfl rfl rfl (by simp [Value.oneCell']) rfl (by repeat (first | exact pk1 | apply zAa)) (by simp) ?_); clear E S a; intro a w E S; simp only [List.take_succ_cons, List.take_zero, List.drop_succ_cons, List.drop_zero, List.cons_append, List.nil_append, List.append_nil, List.length_cons, List.length_nil, Nat.zero_add, Nat.add_zero] at S
  refine zp E (zAg E rfl rfl) ?_; clear E a; intro a E
  refine wpList_nil ?_
  refine zAh hK ?_; clear hK; clear K
  refine wp_seq_k ?_; intro K hK
  replace E := E.keep (e' := [(0, _), (1, _), (4, _), (5, _), (6, _), (8, _), (9, _), (10, _), (11, _), (12, _), (13, _), (14, _), (15, _)]) (zAb rfl (zAb rfl (zAb rfl (zAb rfl (zAb rfl (zAb rfl (zAb rfl (zAb rfl (zAb rfl (zAb rfl (zAb rfl (zAb rfl (zAb rfl (zAp))))))))))))))
  refine zAc ?_
  refine zp E (zAe E rfl rfl) ?_; clear E a; intro a E
  refine zp E (zAl E rfl rfl) ?_; clear E a; intro a E
  refine zp E (by first | exact zAf (q := 3) E rfl rfl rfl | exact zAi (q := 3) E rfl rfl rfl) ?_; clear E a; intro a E
  refine zp E (by first | exact zAn E rfl rfl rfl (S.get (by repeat (first | exact pk1 | apply zAa))) rfl | exact zAj E rfl rfl rfl (by assumption)) ?_; clear E a; intro a E
  refine zAr E rfl rfl (by decide) rfl Tryz.func21 rfl (by kernel_rfl) rfl (mwhole_ret t vk adl cl 32 lk2 CK2 hCK2 1 (by omega) _ (S.hp.sel (zAd (by repeat (first | exact pk1 | apply zAa)) (zAd (by repeat (first | exact pk1 | apply zAa)) (zAk _))))) ?_
  rintro v92 w ⟨rfl, CK3, hCK3, hT⟩; clear E a; intro a E
  have S := S.call2 (zAd (by repeat (first | exact pk1 | apply zAa)) (zAd (by repeat (first | exact pk1 | apply zAa)) (zAk _))) hT
  refine zp E (zAg E rfl rfl) ?_; clear E a; intro a E
  refine wpList_nil ?_
  refine zAh hK ?_; clear hK; clear K
  refine wp_seq_k ?_; intro K hK
  refine zAc ?_
  refine zp E (zAe E rfl rfl) ?_; clear E a; intro a E
  refine zp E (by first | exact zCf E rfl rfl rfl | exact zAu E rfl rfl rfl rfl | exact zBc E rfl rfl rfl rfl | exact zAw E rfl rfl rfl) ?_; clear E a; intro a E
  refine zp E (zAe E rfl rfl) ?_; clear E a; intro a E
  refine zCp E (t := 95) rfl (rfl) (fun hb95 => ?_)
  refine zy E hb95 (zAe E rfl rfl) ?_; clear E a; intro a E
  refine zy E hb95 (by first | exact zCf E rfl rfl rfl | exact zAu E rfl rfl rfl rfl | exact zBc E rfl rfl rfl rfl | exact zAw E rfl rfl rfl) ?_; clear E a; intro a E
  refine zp E (zAm E rfl rfl hb95 rfl) ?_; clear E a; intro a E
  refine zp E (zAe E rfl rfl) ?_; clear E a; intro a E
  refine zCp E (t := 99) rfl (rfl) (fun hb99 => ?_)
  refine zy E hb99 (zAe E rfl rfl) ?_; clear E a; intro a E
  refine zy E hb99 (by first | exact zCf E rfl rfl rfl | exact zAu E rfl rfl rfl rfl | exact zBc E rfl rfl rfl rfl | exact zAw E rfl rfl rfl) ?_; clear E a; intro a E
  refine zp E (zAm E rfl rfl hb99 rfl) ?_; clear E a; intro a E
  refine zp E (zAe E rfl rfl) ?_; clear E a; intro a E
  refine zCp E (t := 103) rfl (rfl) (fun hb103 => ?_)
  refine zy E hb103 (zAe E rfl rfl) ?_; clear E a; intro a E
  refine zy E hb103 (by first | exact zCf E rfl rfl rfl | exact zAu E rfl rfl rfl rfl | exact zBc E rfl rfl rfl rfl | exact zAw E rfl rfl rfl) ?_; clear E a; intro a E
  refine zp E (zAm E rfl rfl hb103 rfl) ?_; clear E a; intro a E
  refine zp E (zAe E rfl rfl) ?_; clear E a; intro a E
  refine zCp E (t := 107) rfl (rfl) (fun hb107 => ?_)
  refine zy E hb107 (zAe E rfl rfl) ?_; clear E a; intro a E
  refine zy E hb107 (by first | exact zCf E rfl rfl rfl | exact zAu E rfl rfl rfl rfl | exact zBc E rfl rfl rfl rfl | exact zAw E rfl rfl rfl) ?_; clear E a; intro a E
  refine zp E (zAm E rfl rfl hb107 rfl) ?_; clear E a; intro a E
  refine zp E (zAe E rfl rfl) ?_; clear E a; intro a E
  refine zCp E (t := 111) rfl (rfl) (fun hb111 => ?_)
  refine zy E hb111 (zAe E rfl rfl) ?_; clear E a; intro a E
  refine zy E hb111 (by first | exact zCf E rfl rfl rfl | exact zAu E rfl rfl rfl rfl | exact zBc E rfl rfl rfl rfl | exact zAw E rfl rfl rfl) ?_; clear E a; intro a E
  refine zp E (zAm E rfl rfl hb111 rfl) ?_; clear E a; intro a E
  refine zp E (zAe E rfl rfl) ?_; clear E a; intro a E
  refine zCp E (t := 115) rfl (rfl) (fun hb115 => ?_)
  refine zy E hb115 (zAe E rfl rfl) ?_; clear E a; intro a E
  refine zy E hb115 (by first | exact zCf E rfl rfl rfl | exact zAu E rfl rfl rfl rfl | exact zBc E rfl rfl rfl rfl | exact zAw E rfl rfl rfl) ?_; clear E a; intro a E
  refine zp E (zAm E rfl rfl hb115 rfl) ?_; clear E a; intro a E
  refine zp E (zAe E rfl rfl) ?_; clear E a; intro a E
  refine zCp E (t := 119) rfl (rfl) (fun hb119 => ?_)
  refine zy E hb119 (zAe E rfl rfl) ?_; clear E a; intro a E
  refine zy E hb119 (by first | exact zCf E rfl rfl rfl | exact zAu E rfl rfl rfl rfl | exact zBc E rfl rfl rfl rfl | exact zAw E rfl rfl rfl) ?_; clear E a; intro a E
  refine zp E (zAm E rfl rfl hb119 rfl) ?_; clear E a; intro a E
  refine zp E (zAg E rfl rfl) ?_; clear E a; intro a E
  refine wpList_nil ?_
  refine zAh hK ?_; clear hK; clear K
  refine wp_seq_k ?_; intro K hK
  replace E := E.keep (e' := [(0, _), (1, _), (8, _), (10, _), (14, _), (15, _), (17, _)]) (zAb rfl (zAb rfl (zAb rfl (zAb rfl (zAb rfl (zAb rfl (zAb rfl (zAp))))))))
  refine zAc ?_
  iterate 2 (refine zp E (zAe E rfl rfl) ?_; clear E a; intro a E)
  refine zCp E (t := 124) rfl (rfl) (fun hb124 => ?_)
  refine zy E hb124 (zAe E rfl rfl) ?_; clear E a; intro a E
  refine zy E hb124 (zDe E rfl rfl rfl rfl rfl (sl_of Cg (b := abcB) hRd rfl rfl) (S.stab.at (by repeat (first | exact mm1 | assumption | apply List.Mem.tail)))) ?_; clear E a; intro a E
  refine zy E hb124 (by first | exact zCf E rfl rfl rfl | exact zAu E rfl rfl rfl rfl | exact zBc E rfl rfl rfl rfl | exact zAw E rfl rfl rfl) ?_; clear E a; intro a E
  refine zp E (zAm E rfl rfl hb124 rfl) ?_; clear E a; intro a E
  refine zp E (zAe E rfl rfl) ?_; clear E a; intro a E
  refine zCp E (t := 129) rfl (rfl) (fun hb129 => ?_)
  refine zy E hb129 (zAe E rfl rfl) ?_; clear E a; intro a E
  refine zy E hb129 (zDs E rfl rfl rfl) ?_; clear E a; intro a E
  refine zp E (zAm E rfl rfl hb129 rfl) ?_; clear E a; intro a E
  refine zp E (zAe E rfl rfl) ?_; clear E a; intro a E
  refine zCp E (t := 133) rfl ((decide_eq_true hn9)) (fun hb133 => ?_)
  refine zy E hb133 (zAe E rfl rfl) ?_; clear E a; intro a E
  refine zp E (zAm E rfl rfl hb133 rfl) ?_; clear E a; intro a E
  refine zp E (zAe E rfl rfl) ?_; clear E a; intro a E
  refine zCp E (t := 136) rfl (rfl) (fun hb136 => ?_)
  refine zy E hb136 (zBw (vs := [_, _]) E rfl rfl rfl (S.get (by repeat (first | exact pk1 | apply zAa))) rfl rfl) ?_; clear E a; intro a E
  refine zy E hb136 (zCo (cells := [_, _]) E rfl rfl rfl) ?_; clear E a; intro a E
  refine zy E hb136 (by first | exact zJy E rfl rfl rfl rfl (by kernel_rfl) (by kernel_rfl) rfl rfl rfl | exact zIw E rfl rfl rfl rfl (by kernel_rfl) (by kernel_rfl) rfl) ?_; clear E a; intro a E
  refine zp E (zAm E rfl rfl hb136 rfl) ?_; clear E a; intro a E
  refine zp E (zAe E rfl rfl) ?_; clear E a; intro a E
  refine zCp E (t := 141) rfl (rfl) (fun hb141 => ?_)
  refine zy E hb141 (zAe E rfl rfl) ?_; clear E a; intro a E
  refine zy E hb141 (zAl E rfl rfl) ?_; clear E a; intro a E
  refine zy E hb141 (by first | exact zAf (q := 3) E rfl rfl rfl | exact zAi (q := 3) E rfl rfl rfl) ?_; clear E a; intro a E
  refine zy E hb141 (by first | exact zAn E rfl rfl rfl (S.get (by repeat (first | exact pk1 | apply zAa))) rfl | exact zAj E rfl rfl rfl (by assumption)) ?_; clear E a; intro a E
  refine zDg E rfl rfl rfl rfl hb141 ?_; refine zEe E rfl (by decide) rfl Tryz.func22 rfl (by kernel_rfl) rfl (zHf (ptr t) 1 (by omega) _) ?_
  rintro v146 w ⟨rfl, hT⟩; clear E a; intro a E
  have S := S.quiet hT
  refine zy E hb141 (zDd E rfl rfl rfl) ?_; clear E a; intro a E
  refine zp E (zAm E rfl rfl hb141 rfl) ?_; clear E a; intro a E
  refine zp E (zAe E rfl rfl) ?_; clear E a; intro a E
  refine zCp E (t := 149) rfl (rfl) (fun hb149 => ?_)
  refine zy E hb149 (zAe E rfl rfl) ?_; clear E a; intro a E
  refine zy E hb149 (zAl E rfl rfl) ?_; clear E a; intro a E
  refine zy E hb149 (by first | exact zAf (q := 3) E rfl rfl rfl | exact zAi (q := 3) E rfl rfl rfl) ?_; clear E a; intro a E
  refine zy E hb149 (by first | exact zAn E rfl rfl rfl (S.get (by repeat (first | exact pk1 | apply zAa))) rfl | exact zAj E rfl rfl rfl (by assumption)) ?_; clear E a; intro a E
  refine zDg E rfl rfl rfl rfl hb149 ?_; refine zEe E rfl (by decide) rfl Tryz.func23 rfl (by kernel_rfl) rfl (msize_ret t _ vk 32 _ (S.hp.sel (zAd (by repeat (first | exact pk1 | apply zAa)) (zAk _)))) ?_
  rintro v154 w ⟨rfl, hT⟩; clear E a; intro a E
  have S := S.call1 (zAd (by repeat (first | exact pk1 | apply zAa)) (zAk _)) hT
  refine zy E hb149 (zDd E rfl rfl rfl) ?_; clear E a; intro a E
  refine zp E (zAm E rfl rfl hb149 rfl) ?_; clear E a; intro a E
  refine zp E (zAg E rfl rfl) ?_; clear E a; intro a E
  refine wpList_nil ?_
  refine zAh hK ?_; clear hK; clear K
  refine wp_ret ?_
  refine ret1 E rfl rfl ?_
  exact ⟨_, rfl, rfl, (S.only (Bs := [G]) (zAd (by repeat (first | exact pk1 | apply zAa)) (zAk _))).tr⟩
end Go.Proofs.YtidhehcjafoneaaGreatDoor
namespace Go.Sl
open Go.ChangeShapes Go.WideShapes Go.ChangeAt Go.RowKit Go.ChangeMaps
def old (w : World) : zAs := w.heap.toList.zipIdx.map fun x => (x.2, x.1)
theorem mem_old {w : World} {b : Nat} {o : Obj} (h : w.heap[b]? = some o) : (b, o) ∈ old w := by
  refine List.mem_map.2 ⟨(o, b), ?_, rfl⟩
  rw [List.mem_zipIdx_iff_getElem?]
  simpa using h
theorem old_own (w : World) : Own w (old w) := by
  refine ⟨?_, fun x hx => ?_⟩
  · have : (old w).map (·.1) = List.range' 0 w.heap.toList.length := by simp [old, Function.comp_def]
    rw [this]; exact List.nodup_range'
  · obtain ⟨y, hy, rfl⟩ := List.mem_map.1 hx
    rw [List.mem_zipIdx_iff_getElem?] at hy
    simpa using hy
theorem hp_old (w : World) : Hp w [old w] := by simpa [Hp] using old_own w
theorem below_old {w w' : World} {Bs : List zAs} (h : Trs w w' [old w] (old w :: Bs)) : Below w.heap.size w w' :=
  ⟨h.os, h.tape, h.output, h.size, fun k hk => by
    have e : w.heap[k]? = some w.heap[k] := Array.getElem?_eq_getElem hk
    rw [e]
    have h1 := h.own [] (by simpa using old_own w)
    exact h1.2 (k, w.heap[k]) (by simp [mem_old e])⟩
def Dec {H : Type} (enc : TypeId × Value → H) (P : Program) (w : World) (e : TypeId) (s : Nat) {α : Type} (lay : α → List Value) (good : α → Prop) : Prop :=
  ∀ n cs x, DataW.trod enc P w 0 (fun _ => true) true n e cs = some x → cs.length = s → (x.1.weights P e).all (· ≤ reachBytes) = true → ∃ a, cs = lay a ∧ good a
section
variable {H : Type} {enc : TypeId × Value → H} {P : Program} {w : World} {t e : TypeId} {s : Nat} {α : Type} {lay : α → List Value} {good : α → Prop}
theorem Dec.imp {good' : α → Prop} (h : Dec enc P w e s lay good) (k : ∀ a, good a → good' a) : Dec enc P w e s lay good' := fun n cs x h1 h2 h3 => by
  obtain ⟨a, h4, h5⟩ := h n cs x h1 h2 h3
  exact ⟨a, h4, k a h5⟩
theorem Dec.map {β : Type} {lay' : β → List Value} {good' : β → Prop} (h : Dec enc P w e s lay good) (k : ∀ a, good a → ∃ b, lay a = lay' b ∧ good' b) : Dec enc P w e s lay' good' := fun n cs x h1 h2 h3 => by
  obtain ⟨a, h4, h5⟩ := h n cs x h1 h2 h3
  obtain ⟨b, h6, h7⟩ := k a h5
  exact ⟨b, h4.trans h6, h7⟩
theorem dec_int {k : IntKind} (ht : P.underlying t = some (.int k)) : Dec enc P w t 1 (fun z => [.int k z]) (fun z => (Lit.int k z).wf = true) := fun n cs x h _ _ => by
  obtain ⟨z, h1, _, h2⟩ := DataW.trod_int ht h
  exact ⟨z, h1, h2⟩
theorem dec_i64 (ht : P.underlying t = some (.int .i64)) : Dec enc P w t 1 (fun z => [.int .i64 z]) (fun z => -9223372036854775808 ≤ z ∧ z ≤ 9223372036854775807) :=
  (dec_int ht).imp fun z hz => by simpa [Lit.wf, IntKind.min, IntKind.max, IntKind.signed, IntKind.bits] using hz
theorem dec_u8 (ht : P.underlying t = some (.int .u8)) : Dec enc P w t 1 (fun b : UInt8 => [.int .u8 b.toNat]) (fun _ => True) :=
  (dec_int ht).map fun z hz => by
    have hz : 0 ≤ z ∧ z ≤ 255 := by simpa [Lit.wf, IntKind.min, IntKind.max, IntKind.signed, IntKind.bits] using hz
    refine ⟨UInt8.ofNat z.toNat, ?_, trivial⟩
    have : (UInt8.ofNat z.toNat).toNat = z.toNat := by simp; omega
    rw [this, Int.toNat_of_nonneg hz.1]
theorem zHq : ∀ {ds : List (DataW H)} {d : DataW H}, d ∈ ds → ∀ n ∈ d.weights P e, n ∈ DataW.weightsAll P e ds
  | d0 :: ds, d, hd, n, hn => by
    simp only [DataW.weightsAll, List.mem_append]
    rcases List.mem_cons.1 hd with rfl | hd
    · exact .inl hn
    · exact .inr (zHq hd n hn)
  | [], _, hd, _, _ => by cases hd
theorem list_of {n : Nat} {p : Nat → α → Prop} (h : ∀ i, i < n → ∃ a, p i a) : ∃ asx : List α, asx.length = n ∧ ∀ i a, asx[i]? = some a → p i a := by
  induction n with
  | zero => exact ⟨[], rfl, by simp⟩
  | succ n ih =>
    obtain ⟨asx, h1, h2⟩ := ih (fun i hi => h i (by omega))
    obtain ⟨a, ha⟩ := h n (by omega)
    refine ⟨asx ++ [a], by simp [h1], fun i b hb => ?_⟩
    by_cases hi : i < n
    · rw [List.getElem?_append_left (by omega)] at hb; exact h2 i b hb
    · rw [List.getElem?_append_right (by omega)] at hb
      have : i = n := by
        have := (List.getElem?_eq_some_iff.1 hb).1
        simp at this; omega
      subst this
      simp [h1] at hb
      exact hb ▸ ha
theorem flat_get {asx : List α} (hl : ∀ a ∈ asx, (lay a).length = s) {l : Array Value} {off : Nat} : ∀ (k : Nat), (∀ i a, asx[i]? = some a → ∀ j v, (lay a)[j]? = some v → l[off + (k + i) * s + j]? = some v) →
    ∀ i u, (asx.flatMap lay)[i]? = some u → l[off + k * s + i]? = some u := by
  induction asx with
  | nil => intro k _ i u h; simp at h
  | cons a r ih =>
    intro k h i u hu
    rw [List.flatMap_cons] at hu
    have ha := hl a (List.mem_cons_self ..)
    by_cases hi : i < s
    · rw [List.getElem?_append_left (by omega)] at hu
      exact h 0 a rfl i u hu
    · rw [List.getElem?_append_right (by omega), ha] at hu
      have := ih (fun b hb => hl b (List.mem_cons_of_mem _ hb)) (k + 1) (fun i b hb j v hv => by
        have := h (i + 1) b (by simpa using hb) j v hv
        rwa [show k + 1 + i = k + (i + 1) by omega]) (i - s) u hu
      rw [Nat.succ_mul] at this
      rwa [show off + (k * s + s) + (i - s) = off + k * s + i by omega] at this
theorem flat_length {asx : List α} (hl : ∀ a ∈ asx, (lay a).length = s) : (asx.flatMap lay).length = asx.length * s := by
  induction asx with
  | nil => simp
  | cons a r ih => rw [List.flatMap_cons, List.length_append, ih (fun b hb => hl b (List.mem_cons_of_mem _ hb)), hl a (List.mem_cons_self ..), List.length_cons, Nat.succ_mul, Nat.add_comm]
def OldS (w : World) (s sz : Nat) (lay : α → List Value) (good : α → Prop) (x : Value × List α) : Prop :=
  ∃ ad c, x.1 = .slice ad x.2.length c ∧ x.2.length ≤ c ∧ c * sz ≤ 140737488351232 ∧ Rd (old w) s x.1 x.2.length (x.2.flatMap lay) ∧ ∀ a ∈ x.2, good a
theorem dec_slice (ht : P.underlying t = some (.slice e)) (hs : P.cellsOf e = s) (h0 : 0 < s) {sz : Nat} (hz : P.bytesOf e = sz) (hd : Dec enc P w e s lay good) (one : ∀ a, good a → ∀ u ∈ lay a, u.oneCell' = true) :
    Dec enc P w t 1 (fun x : Value × List α => [x.1]) (OldS w s sz lay good) := fun n cs x h _ hw => by
  rcases Deep.open_slice ht h with ⟨rfl, rfl⟩ | ⟨a, len, cap, m, n, D, Pl, rfl, _, hl, hm, hmm, rfl, hx⟩
  · exact ⟨(.slice none 0 0, []), rfl, none, 0, rfl, Nat.le_refl _, by simp, ⟨by simp, by simp, Nat.zero_le _, .inl ⟨rfl, none, 0, rfl⟩⟩, by simp⟩
  · simp only [if_true] at hmm
    subst hmm
    simp only [DataW.weights, ht, List.length_map, List.length_range, List.all_cons, Bool.and_eq_true, decide_eq_true_eq, List.all_append] at hw
    obtain ⟨hw1, hw2, _⟩ := hw
    have hstep : ∀ i, i < len → ∃ b : α, w.cells? 0 (a.add (i * s)) s = some (lay b) ∧ good b := fun i hi => by
      obtain ⟨cs', h1, h2⟩ := hx i (by omega)
      rw [hs] at h1
      have hlen : cs'.length = s := (World.cells?_some h1).2.1
      obtain ⟨b, rfl, hb⟩ := hd _ _ _ h2 hlen (List.all_eq_true.2 fun n hn => List.all_eq_true.1 hw2 n (zHq (List.mem_map.2 ⟨i, by simpa using hi, rfl⟩) n hn))
      exact ⟨b, h1, hb⟩
    obtain ⟨asx, hal, has⟩ := list_of hstep
    have hgood : ∀ b ∈ asx, good b := fun b hb => by
      obtain ⟨i, hi⟩ := List.getElem?_of_mem hb
      exact (has i b hi).2
    have hlay : ∀ b ∈ asx, (lay b).length = s := fun b hb => by
      obtain ⟨i, hi⟩ := List.getElem?_of_mem hb
      exact (World.cells?_some (has i b hi).1).2.1
    have hlen := flat_length hlay
    refine ⟨(.slice (some a) len m, asx), rfl, some a, m, by rw [hal], by simp only [hal]; exact hl, ?_, ?_, hgood⟩
    · rw [hz, show len + (m - len) = m by omega] at hw1
      exact hw1
    · simp only [hal]
      refine ⟨by rw [hlen, hal], fun u hu => ?_, by omega, ?_⟩
      · obtain ⟨b, hb, hu⟩ := List.mem_flatMap.1 hu
        exact one b (hgood b hb) u hu
      · by_cases hl0 : len = 0
        · exact .inl ⟨hl0, some a, m, by rw [hl0]⟩
        · obtain ⟨b0, hb0, -⟩ := hstep 0 (by omega)
          have hc0 := (World.cells?_some hb0).2.2 0 h0
          have hlb : (lay b0).length = s := (World.cells?_some hb0).2.1
          rw [List.getElem?_eq_getElem (by omega)] at hc0
          obtain ⟨b, off, spot⟩ := a
          simp only [World.cell?, Addr.add, Nat.zero_mul, Nat.add_zero] at hc0
          split at hc0
          · rename_i l T fr hh
            have hh' : w.heap[b]? = some (.cells l T fr) := hh
            cases spot with
            | some q => simp at hc0
            | none =>
              refine .inr ⟨b, off, m, l, T, fr, rfl, mem_old hh', ?_⟩
              have := flat_get (lay := lay) (asx := asx) (s := s) (l := l) (off := off) hlay 0 (fun i c hc j v hv => by
                obtain ⟨h1, _⟩ := has i c hc
                have hls : (lay c).length = s := (World.cells?_some h1).2.1
                have hj : j < s := by
                  have := (List.getElem?_eq_some_iff.1 hv).1
                  omega
                have h3 := (World.cells?_some h1).2.2 j hj
                rw [Addr.add_lit, Addr.add_lit, zGi hh', hv] at h3
                rw [Nat.zero_add]
                exact h3)
              simpa using this
          · cases hc0
theorem Dec.arg (hd : Dec enc P w t 1 lay good) {v : Value} {d : DataW H} {p : List MemPlace} (h : DataW.Trod enc P w 0 (fun _ => true) true t v d p) (h1 : v.cells.toList = [v]) {ts : List TypeId} {ds : List (DataW H)}
    (hw : (DataW.weightsEach P ts ds).all (· ≤ reachBytes) = true) {j : Nat} (ht : ts[j]? = some t) (hdj : ds[j]? = some d) : ∃ a, [v] = lay a ∧ good a := by
  obtain ⟨n, hn⟩ := h
  rw [h1] at hn
  exact hd n _ _ hn rfl (List.all_eq_true.2 fun k hk => List.all_eq_true.1 hw k (DataW.weights_mem_each ht hdj k hk))
theorem one_slice {b : Nat} (ht : P.underlying t = some (.slice e)) {v : Value} (h : Value.okWide P w .any b t v) : v.cells.toList = [v] := by
  obtain ⟨a, l, c, rfl⟩ := okWide_slice ht h
  rfl
theorem one_int {b : Nat} {k : IntKind} (ht : P.underlying t = some (.int k)) {v : Value} (h : Value.okWide P w .any b t v) : v.cells.toList = [v] := by
  obtain ⟨s, rfl⟩ := okWide_int ht h
  rfl
theorem flat_byt (bs : List UInt8) : (bs.flatMap fun b => [Value.int .u8 b.toNat]) = byt bs := by
  induction bs with
  | nil => rfl
  | cons b r ih => rw [List.flatMap_cons, ih]; rfl
end
end Go.Sl
namespace Go.Proofs.YtidhehcjafoneaaGreatDoor
open Go.Sl Go.ChangeShapes Go.WideShapes Go.RowKit
theorem zIt {P : Program} {W : World} {nm : String} {g m : Nat} {t e : TypeId} {cs : Array Value} {fuel : Nat} {p : List MemPlace} (l : List Int) (hg : P.globalNamed nm = some g) (ht : P.underlying t = some (.array m e)) (he : P.underlying e = some (.int .u32)) (ce : P.cellsOf e = 1) (ct : P.cellsOf t = l.length) (hm : m = l.length)
    (hv : W.var? P nm = some cs) (hd : DataW.trod (fun _ : TypeId × Value => ()) P W 0 (fun _ => true) false fuel t cs.toList = some (DataW.agg (l.map fun n => .lit (.int .u32 n)), p)) : Tab [old W] g l := by
  subst hm
  obtain ⟨xs, k, _, ex, hlen, hl, hel⟩ := DataW.trod_array ht hd
  rw [ct] at hlen
  have e3 : (xs.map (·.1)) = l.map fun n => (DataW.lit (.int .u32 n) : DataW Unit) := (DataW.agg.inj (Prod.mk.inj ex).1).symm
  have hcs : cs.toList = u32s l := by
    apply List.ext_getElem?
    intro i
    rcases Nat.lt_or_ge i l.length with hi | hi
    · have hE := hel i hi
      rw [ce, Nat.mul_one, List.getElem?_eq_getElem (by omega)] at hE
      obtain ⟨z, e1, e2, _⟩ := DataW.trod_int he hE
      have e4 : (xs.map (·.1))[i]? = (l.map fun n => (DataW.lit (.int .u32 n) : DataW Unit))[i]? := by rw [e3]
      rw [List.getElem?_map, List.getElem?_map, List.getElem?_eq_getElem (by omega : i < xs.length), List.getElem?_eq_getElem hi, e2] at e4
      simp only [Option.map_some, Option.some.injEq, DataW.lit.injEq, Lit.int.injEq, true_and] at e4
      have h0 : ((cs.toList.drop i).take 1)[0]? = some (.int .u32 z) := by rw [e1]; rfl
      have h1 : cs.toList[i]? = some (.int .u32 z) := by simpa using h0
      rw [h1, e4]
      simp [u32s, hi]
    · rw [List.getElem?_eq_none (by omega), List.getElem?_eq_none (by simp [u32s]; omega)]
  simp only [World.var?, hg, Option.bind_some] at hv
  split at hv
  · rename_i c T fr hh
    cases hv
    exact ⟨_, List.Mem.head _, T, fr, mem_old (by rw [← hcs]; simpa using hh)⟩
  · cases hv
def Lay3 (O : zAs) : Prop := Tab [O] 2 shaK ∧ Tab [O] 0 sha0.l ∧ Tab [O] 1 shaK
theorem laid3 {W : World} (h : laidMetH Tryz.prog [("undercroft/undercroftref02.first", Rows.laid_undercroft_undercroftref02_first), ("undercroft/undercroftref02.rounds", Rows.laid_undercroft_undercroftref02_rounds), ("undercroft/sum.rounds", Rows.laid_undercroft_sum_rounds)] W) : Lay3 (old W) := by
  rw [MakeChecks.laidMetH_plain _ _ _ (by kernel_rfl)] at h
  obtain ⟨ps, ⟨g0, t0, cs0, f0, p0, q0, hg0, ht0, hv0, hd0, ⟨g1, t1, cs1, f1, p1, q1, hg1, ht1, hv1, hd1, ⟨g2, t2, cs2, f2, p2, q2, hg2, ht2, hv2, hd2, _, _⟩, _⟩, _⟩, _, _⟩ := h
  have a0 : Tryz.prog.globalNamed "undercroft/undercroftref02.first" = some 0 := by kernel_rfl
  have a1 : Tryz.prog.globalNamed "undercroft/undercroftref02.rounds" = some 1 := by kernel_rfl
  have a2 : Tryz.prog.globalNamed "undercroft/sum.rounds" = some 2 := by kernel_rfl
  obtain rfl := Option.some.inj (a0.symm.trans hg0)
  obtain rfl := Option.some.inj (a1.symm.trans hg1)
  obtain rfl := Option.some.inj (a2.symm.trans hg2)
  obtain rfl := Option.some.inj ((show (Tryz.prog.globals[(0 : Nat)]?).map (·.type) = some 149 by kernel_rfl).symm.trans ht0)
  obtain rfl := Option.some.inj ((show (Tryz.prog.globals[(1 : Nat)]?).map (·.type) = some 154 by kernel_rfl).symm.trans ht1)
  obtain rfl := Option.some.inj ((show (Tryz.prog.globals[(2 : Nat)]?).map (·.type) = some 154 by kernel_rfl).symm.trans ht2)
  exact ⟨zIt shaK a2 Tryz.underlying154 Tryz.underlying148 (by kernel_rfl) (by kernel_rfl) (by kernel_rfl) hv2 hd2,
    zIt sha0.l a0 Tryz.underlying149 Tryz.underlying148 (by kernel_rfl) (by kernel_rfl) (by kernel_rfl) hv0 hd0,
    zIt shaK a1 Tryz.underlying154 Tryz.underlying148 (by kernel_rfl) (by kernel_rfl) (by kernel_rfl) hv1 hd1⟩
end Go.Proofs.YtidhehcjafoneaaGreatDoor
namespace Go.Sl
end Go.Sl
namespace Go.Proofs.YtidhehcjafoneaaGreatDoor
open Go.Sl
set_option maxRecDepth 10000
theorem zEa {n : Int} (h1 : 1 ≤ n) (h2 : n ≤ 1024) : zDm n = (n + 127) / 128 := by unfold zDm; rw [if_neg (by omega)]
theorem xs_ne {xs : List (Nat × Nat)} (hnd : (xs.map Prod.snd).Nodup) {i j : Nat} (hi : i < xs.length) (hj : j < xs.length) (h : j ≠ i) : xs[j].2 ≠ xs[i].2 := fun q => h (by
  have h1 : (xs.map Prod.snd)[j]'(by simpa using hj) = (xs.map Prod.snd)[i]'(by simpa using hi) := by simpa using q
  exact (List.getElem_inj hnd).1 h1)
theorem rdK_failed {R : Rk} {a : Nat} {b : List UInt8} {x : Nat × Nat} (h : (dkOf R x.2).failed = true) : rdK R a b x = none := by unfold rdK rdC; rw [h]; rfl
theorem rdK_well {R : Rk} {a : Nat} {b : List UInt8} {x : Nat × Nat} (h : (dkOf R x.2).failed = false) : rdK R a b x = some (secC (dkOf R x.2) a (zDm b.length).toNat b.length) := by unfold rdK rdC; rw [h]; rfl
structure Spoilt (R : Rk) (xs : List (Nat × Nat)) (a : Nat) (b : List UInt8) (chk : List UInt8 → Bool) (kk i : Nat) : Prop where
  up : Up R xs 40
  keep : ∀ h : kk < xs.length, (dkOf R xs[kk].2).failed = false ∧ rdK R a b xs[kk] = some b
  rest : ∀ j (h : j < xs.length), i ≤ j → (dkOf R xs[j].2).failed = false ∧ rdK R a b xs[j] = some b
  good : ∀ x ∈ xs, ∀ c, rdK R a b x = some c → chk c = true → c = b
theorem Spoilt.next {R : Rk} {xs : List (Nat × Nat)} {a : Nat} {b : List UInt8} {chk : List UInt8 → Bool} {kk i : Nat} (h : Spoilt R xs a b chk kk i) : Spoilt R xs a b chk kk (i + 1) :=
  ⟨h.up, h.keep, fun j hj hij => h.rest j hj (by omega), h.good⟩
theorem Spoilt.step {R R' : Rk} {xs : List (Nat × Nat)} {a : Nat} {b : List UInt8} {chk : List UInt8 → Bool} {kk i : Nat} (h : Spoilt R xs a b chk kk i) (hnd : (xs.map Prod.snd).Nodup) (hi : i < xs.length) (hik : i ≠ kk) (hU : Up R' xs 40)
    (hs : ∀ x ∈ xs, x.2 ≠ xs[i].2 → dkOf R' x.2 = dkOf R x.2) (hg : ∀ c, rdK R' a b xs[i] = some c → chk c = true → c = b) : Spoilt R' xs a b chk kk (i + 1) := by
  have hsame : ∀ j (hj : j < xs.length), j ≠ i → dkOf R' xs[j].2 = dkOf R xs[j].2 := fun j hj q => hs _ (List.getElem_mem hj) (xs_ne hnd hi hj q)
  refine ⟨hU, fun hk => ?_, fun j hj hij => ?_, fun x hx c hc hk => ?_⟩
  · have e := hsame kk hk (fun q => hik q.symm)
    rw [e, zGr e]; exact h.keep hk
  · have e := hsame j hj (by omega)
    rw [e, zGr e]; exact h.rest j hj (by omega)
  · obtain ⟨j, hj, rfl⟩ := List.mem_iff_getElem.1 hx
    by_cases q : j = i
    · subst q; exact hg c hc hk
    · rw [zGr (hsame j hj q)] at hc; exact h.good _ hx c hc hk
end Go.Proofs.YtidhehcjafoneaaGreatDoor
