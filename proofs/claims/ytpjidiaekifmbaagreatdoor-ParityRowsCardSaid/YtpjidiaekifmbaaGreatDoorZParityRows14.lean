/-
  Texts put together (14).
-/
import Derived.Test.YtpjidiaekifmbaaGreatDoorZParityRows13
set_option maxHeartbeats 1000000
namespace Go.Proofs.YtpjidiaekifmbaaGreatDoor
open Go.Sl
set_option maxRecDepth 10000
section
variable (P : Nat) (R : Rk) (C : zAj) (hC : RkC P R C) (xs : List (Nat × Nat)) (k : Nat) (hU : Up R xs k) (hw : 3 ≤ xs.length ∧ xs.length ≤ 5) (Lv : zAj) (hLv : LvC (lvs xs) Lv)
 (t : Nat) (ad : Option Addr) (c : Nat) (vk : Value) (CL : zAj) (hCL : Buf CL 53 1 (.slice ad xs.length c) xs.length (xs.map fun y => ptr y.1))
include hC hU hw hLv hCL
theorem pFlush_ret (hall : ∀ y ∈ xs, (dkOf R y.2).failed = false) (w0 : World) (H : Hp w0 [C, Lv, [(t, ptcl (.slice ad xs.length c) vk 32)], CL]) :
  Ret Tryz.prog 20 #[ptr t] w0 fun u w' => u = .int .i64 0 ∧ ∃ C' Lv', RkC P (flTo R (lvs xs) xs.length).1 C' ∧ LvC (lvs xs) Lv' ∧ Trs w0 w' [C, Lv, [(t, ptcl (.slice ad xs.length c) vk 32)], CL] [C', Lv', [(t, ptcl (.slice ad xs.length c) vk 32)], CL] := by
 have S := St.begin H
 obtain ⟨gl, rfl⟩ := hCL.addr oZ
 refine zCh 30 Tryz.func20 rfl rfl dZ ?_; intro a E
 refine wp_seq_k ?_; intro K hK
 refine zAa ?_
 refine zd E ?_; clear E a; intro a E
 refine wpList_nil ?_
 refine zAb hK ?_; clear hK K
 refine wp_seq_k ?_; intro K hK
 refine zAa ?_
 refine zd E ?_; clear E a; intro a E
 refine wpList_nil ?_
 refine zAb hK ?_; clear hK K
 iterate 2 (refine wp_seq_k ?_; intro K hK)
 refine zAa ?_
 iterate 2 (refine zd E ?_; clear E a; intro a E)
 refine zp E (by first | exact zAc (q := 0) E rfl rfl rfl | exact zAd (q := 0) E rfl rfl rfl) ?_; clear E a; intro a E
 iterate 3 (refine zd E ?_; clear E a; intro a E)
 refine wpList_nil ?_
 refine zAb hK ?_; clear hK K
 refine wp_block ?_
 refine wp_loop_ghost (fun (m : Nat) (a : Act) (w' : World) => ∃ (i : Nat) (C' Lv' : zAj), m = xs.length - i ∧ i ≤ xs.length ∧ RkC P (flTo R (lvs xs) i).1 C' ∧ LvC (lvs xs) Lv' ∧ St w0 [C, Lv, [(t, ptcl (.slice (some ⟨gl, 0, none⟩) xs.length c) vk 32)], CL] w' [C', Lv', [(t, ptcl (.slice (some ⟨gl, 0, none⟩) xs.length c) vk 32)], CL] ∧ Fr a 30 [(0, ptr t), (3, .int .i64 0), (10, .slice (some ⟨gl, 0, none⟩) xs.length c), (11, .int .i64 xs.length), (12, .int .i64 i)]) (xs.length - 0) ?_ ?_
 ·exact ⟨0, C, Lv, rfl, by omega, hC, hLv, S, E.keep (kE5 rfl rfl rfl rfl rfl)⟩
 clear E; clear a; (try clear S); rintro m a w ⟨i, C', Lv', rfl, hi, hC', hLv', S, E⟩
 refine wp_seq_k ?_; intro K hK
 refine zAa ?_
 refine zd E ?_; clear E a; intro a E
 refine wpList_nil ?_
 refine zAb hK ?_; clear hK K
 refine wp_seq_k ?_; intro K hK
 refine zAs E rfl (fun hb => ?_) (fun hb => ?_)
 ·replace hb := Nrm.nrm hb
  refine wp_skip ?_
  refine zAb hK ?_; clear hK K
  refine wp_seq_k ?_; intro K hK
  refine wp_block ?_
  refine wp_seq_k ?_; intro K hK
  have hil : i < xs.length := by omega
  have hcell : (xs.map fun y => ptr y.1)[i]? = some (ptr xs[i].1) := by rw [List.getElem?_map, List.getElem?_eq_getElem hil]; rfl
  have hmi : xs[i] ∈ xs := List.getElem_mem hil
  obtain ⟨h1, h2, h3, h4, h5⟩ := flTo_all hU hall i oZ
  obtain ⟨g1, g2⟩ := h5 _ (hU.has _ hmi)
  have hf : (dkOf (flTo R (lvs xs) i).1 xs[i].2).failed = false := by rw [g2]; split <;> exact hall _ hmi
  have hE : flE (flTo R (lvs xs) i).1.pw (dkOf (flTo R (lvs xs) i).1 xs[i].2).failed = 0 := by rw [hf, h1]; unfold flE; rw [hU.on.off]; rfl
  have hsc := flTo_succ (R := R) (zKs hil)
  refine zAa ?_
  refine zp E (by first | exact zAp E rfl rfl rfl rfl rfl rfl oZ | exact zAz E rfl rfl rfl rfl rfl rfl oZ | exact zAm E rfl rfl rfl rfl rfl rfl oZ) ?_; clear E a; intro a E
  refine zp E (zAo E rfl rfl rfl (hCL.rd.cells (S.stab.at mZ) rfl i _ hcell)) ?_; clear E a; intro a E
  refine zd E ?_; clear E a; intro a E
  refine wpList_nil ?_
  refine zAb hK ?_; clear hK K
  refine wp_seq_k ?_; intro K hK
  refine zAa ?_
  refine zd E ?_; clear E a; intro a E
  refine wpList_nil ?_
  refine zAb hK ?_; clear hK K
  iterate 2 (refine wp_seq_k ?_; intro K hK)
  refine zAa ?_
  iterate 2 (refine zd E ?_; clear E a; intro a E)
  refine wpList_nil ?_
  refine zAb hK ?_; clear hK K
  refine zCk E rfl (rfl) ?_
  refine zAa ?_
  refine zd E ?_; clear E a; intro a E
  refine zAg E rfl rfl dZ rfl Tryz.func56 rfl yZ rfl (lflush_in P _ C' hC' (lvs xs) Lv' hLv' i xs[i] (zKs hil) g1 _ (S.hp.sel sZ)) ?_
  rintro v19 w ⟨rfl, C2, Lv2, hC2, hLv2, hT⟩; clear E a; intro a E
  have S := S.call2 sZ hT; rw [hE] at E
  refine zd E ?_; clear E a; intro a E
  refine wpList_nil ?_
  refine zAb hK ?_; clear hK K
  iterate 2 (refine wp_seq_k ?_; intro K hK)
  refine zAa ?_
  iterate 2 (refine zd E ?_; clear E a; intro a E)
  refine wpList_nil ?_
  refine zAb hK ?_; clear hK K
  refine zAt E rfl (rfl) ?_
  refine wp_skip ?_
  refine zAb hK ?_; clear hK K
  refine wp_seq_k ?_; intro K hK
  refine zAa ?_
  iterate 2 (refine zd E ?_; clear E a; intro a E)
  refine wpList_nil ?_
  refine zAb hK ?_; clear hK K
  refine zAt E rfl (rfl) ?_
  refine wp_skip ?_
  refine zAq ?_
  refine zAb hK ?_; clear hK K
  refine zAa ?_
  refine zp E (zAy E rfl rfl rfl (w_in oZ)) ?_; clear E a; intro a E
  refine zd E ?_; clear E a; intro a E
  refine wpList_nil ?_
  refine zAn ?_
  exact ⟨_, by omega, i + 1, C2, Lv2, rfl, by omega, by rw [hsc]; exact hC2, hLv2, S, E.keep (kE5 rfl rfl rfl rfl rfl)⟩
 ·replace hb := Nrm.nrm hb
  refine wp_exit ?_
  refine zAl ?_; clear hK K
  refine zAl ?_
  refine zBi ?_
  refine zAb hK ?_; clear hK K
  iterate 2 (refine wp_seq_k ?_; intro K hK)
  obtain rfl : i = xs.length := by omega
  refine zAa ?_
  iterate 2 (refine zd E ?_; clear E a; intro a E)
  refine wpList_nil ?_
  refine zAb hK ?_; clear hK K
  refine zAt E rfl (rfl) ?_
  refine wp_skip ?_
  refine zAb hK ?_; clear hK K
  refine wp_seq_k ?_; intro K hK
  refine zAa ?_
  refine zd E ?_; clear E a; intro a E
  refine wpList_nil ?_
  refine zAb hK ?_; clear hK K
  refine wp_ret ?_
  refine ret1 E rfl rfl ?_
  exact ⟨_, rfl, rfl, C', Lv', hC', hLv', S.tr⟩
end
section
variable (t : Nat) (ad : Option Addr) (wd c : Nat) (adk : Option Addr) (ck : Nat) (hw : 3 ≤ wd ∧ wd ≤ 5) (CK : zAj) (ks : List Value) (hCK : Buf CK 133 1 (.slice adk wd ck) wd ks)
include hw
theorem phas_ret (i : Nat) (hi : i < wd) (As : List zAj) (hTA : [(t, ptcl (.slice ad wd c) (.slice adk wd ck) 32)] ∈ As) (w0 : World) (H : Hp w0 As) : Ret Tryz.prog 57 #[ptr t, .int .i64 i] w0 fun u w' => u = .bool true ∧ Trs w0 w' As As := by
 have _ := hw
 have S := St.begin H
 refine zBx 13 Tryz.func57 rfl rfl dZ ?_; intro a E
 refine wp_seq_k ?_; intro K hK
 refine zAa ?_
 refine zd E ?_; clear E a; intro a E
 refine wpList_nil ?_
 refine zAb hK ?_; clear hK K
 refine wp_seq_k ?_; intro K hK
 refine zAa ?_
 iterate 3 (refine zd E ?_; clear E a; intro a E)
 refine zCb E (t := 7) rfl ((by simp)) (fun hb7 => ?_)
 iterate 2 (refine zyd E hb7 ?_; clear E a; intro a E)
 refine zBy E rfl rfl rfl rfl hb7 ?_; refine zCe E rfl dZ rfl Tryz.func36 rfl yZ rfl (zCt t ad wd c _ 32 As hTA _ S.hp) ?_
 rintro v10 w ⟨rfl, hT⟩; clear E a; intro a E
 have S := S.all hT
 refine zyd E hb7 ?_; clear E a; intro a E
 refine zp E (zAi E rfl rfl hb7 rfl) ?_; clear E a; intro a E
 refine zd E ?_; clear E a; intro a E
 refine wpList_nil ?_
 refine zAb hK ?_; clear hK K
 refine wp_ret ?_
 refine ret1 E rfl rfl ?_
 exact ⟨_, rfl, by simp; omega, S.tr⟩
include hCK
theorem pbehind0_ret (i : Nat) (hi : i < wd) (hk : ks[i]? = some (.pointer none)) (f g : Int) (w0 : World) (H : Hp w0 [[(t, ptcl (.slice ad wd c) (.slice adk wd ck) 32)], CK]) :
  Ret Tryz.prog 37 #[ptr t, .int .i64 i, .agg #[.int .u64 f, .int .u64 g]] w0 fun _ w' => ∃ p CK', Buf CK' 133 1 (.slice adk wd ck) wd (ks.set i (ptr p)) ∧ Trs w0 w' [[(t, ptcl (.slice ad wd c) (.slice adk wd ck) 32)], CK] [[(p, cel [.int .u64 f, .int .u64 g] 62)], [(t, ptcl (.slice ad wd c) (.slice adk wd ck) 32)], CK'] := by
 have S := St.begin H
 obtain ⟨gk, rfl⟩ := hCK.addr oZ
 have hkl : ks.length = wd := by have := hCK.1; omega
 refine zDi 37 Tryz.func37 rfl rfl dZ ?_; intro a E
 refine wp_seq_k ?_; intro K hK
 refine zAa ?_
 refine zAf rfl (zBz E S rfl rfl dZ rfl rfl ?_); clear E S a; intro a w b5 E S
 refine wpList_nil ?_
 refine zAb hK ?_; clear hK K
 iterate 2 (refine wp_seq_k ?_; intro K hK)
 refine zAa ?_
 iterate 2 (refine zd E ?_; clear E a; intro a E)
 refine zp E (by first | exact zAc (q := 1) E rfl rfl rfl | exact zAd (q := 1) E rfl rfl rfl) ?_; clear E a; intro a E
 iterate 2 (refine zd E ?_; clear E a; intro a E)
 refine zp E (zAp (i := i) E rfl rfl rfl rfl rfl rfl oZ) ?_; clear E a; intro a E
 refine zp E (zAo E rfl rfl rfl (hCK.rd.cells (S.stab.at mZ) rfl i _ hk)) ?_; clear E a; intro a E
 refine zd E ?_; clear E a; intro a E
 refine wpList_nil ?_
 refine zAb hK ?_; clear hK K
 refine wp_seq_k ?_; intro K hK
 refine zAa ?_
 iterate 2 (refine zd E ?_; clear E a; intro a E)
 refine wpList_nil ?_
 refine zAb hK ?_; clear hK K
 refine zAt E rfl (rfl) ?_
 refine wp_skip ?_
 refine zAb hK ?_; clear hK K
 refine zAa ?_
 iterate 2 (refine zd E ?_; clear E a; intro a E)
 refine zp E (by first | exact zAc (q := 1) E rfl rfl rfl | exact zAd (q := 1) E rfl rfl rfl) ?_; clear E a; intro a E
 iterate 2 (refine zd E ?_; clear E a; intro a E)
 refine zp E (zAp (i := i) E rfl rfl rfl rfl rfl rfl oZ) ?_; clear E a; intro a E
 refine zAf rfl (zJl E S rfl rfl rfl rfl rfl rfl hCK pZ (i := i) oZ (Nat.zero_add _) ?_); clear E S a; intro a w Cs6 E hBs6 S
 refine wpList_nil ?_
 refine end0 E rfl ?_
 exact ⟨_, rfl, b5, Cs6, hBs6, (S.only (Bs := [[(b5, _)], [(t, _)], Cs6]) sZ).tr⟩
theorem pbehind_ret (i : Nat) (hi : i < wd) (hk : ks[i]? = some (.pointer none)) (f g : Int) (h1 : 1 ≤ f) (h2 : f ≤ g) (h3 : g ≤ 281474976710656) (w0 : World) (H : Hp w0 [[(t, ptcl (.slice ad wd c) (.slice adk wd ck) 32)], CK]) :
  Ret Tryz.prog 21 #[ptr t, .int .i64 i, .agg #[.int .u64 f, .int .u64 g]] w0 fun u w' => u = .int .i64 0 ∧ ∃ p CK', Buf CK' 133 1 (.slice adk wd ck) wd (ks.set i (ptr p)) ∧ Trs w0 w' [[(t, ptcl (.slice ad wd c) (.slice adk wd ck) 32)], CK] [[(p, cel [.int .u64 f, .int .u64 g] 62)], [(t, ptcl (.slice ad wd c) (.slice adk wd ck) 32)], CK'] := by
 have S := St.begin H
 refine zDi 32 Tryz.func21 rfl rfl dZ ?_; intro a E
 refine wp_seq_k ?_; intro K hK
 refine zAa ?_
 refine zAf rfl (zBz E S rfl rfl dZ rfl rfl ?_); clear E S a; intro a w b5 E S
 refine zd E ?_; clear E a; intro a E
 refine wpList_nil ?_
 refine zAb hK ?_; clear hK K
 iterate 2 (refine wp_seq_k ?_; intro K hK)
 refine zAa ?_
 iterate 2 (refine zd E ?_; clear E a; intro a E)
 refine zAg E rfl rfl dZ rfl Tryz.func57 rfl yZ rfl (phas_ret t ad wd c adk ck hw i hi _ mZ _ S.hp) ?_
 rintro v9 w ⟨rfl, hT⟩; clear E a; intro a E
 have S := S.all hT
 iterate 2 (refine zd E ?_; clear E a; intro a E)
 refine zBg E (t := 11) rfl (rfl) (fun hb11 => ?_)
 refine zy E hb11 (by first | exact zAc (q := 0) E rfl rfl rfl | exact zAd (q := 0) E rfl rfl rfl) ?_; clear E a; intro a E
 iterate 2 (refine zyd E hb11 ?_; clear E a; intro a E)
 refine zp E (zAk E rfl rfl hb11 rfl) ?_; clear E a; intro a E
 refine zd E ?_; clear E a; intro a E
 refine zBg E (t := 16) rfl ((by simp; omega)) (fun hb16 => ?_)
 refine zy E hb16 (by first | exact zAc (q := 0) E rfl rfl rfl | exact zAd (q := 0) E rfl rfl rfl) ?_; clear E a; intro a E
 refine zyd E hb16 ?_; clear E a; intro a E
 refine zy E hb16 (by first | exact zAc (q := 1) E rfl rfl rfl | exact zAd (q := 1) E rfl rfl rfl) ?_; clear E a; intro a E
 iterate 2 (refine zyd E hb16 ?_; clear E a; intro a E)
 refine zp E (zAk E rfl rfl hb16 rfl) ?_; clear E a; intro a E
 refine zd E ?_; clear E a; intro a E
 refine zBg E (t := 23) rfl ((by simp; omega)) (fun hb23 => ?_)
 refine zy E hb23 (by first | exact zAc (q := 1) E rfl rfl rfl | exact zAd (q := 1) E rfl rfl rfl) ?_; clear E a; intro a E
 iterate 2 (refine zyd E hb23 ?_; clear E a; intro a E)
 refine zp E (zAk E rfl rfl hb23 rfl) ?_; clear E a; intro a E
 refine wpList_nil ?_
 refine zAb hK ?_; clear hK K
 refine zAt E rfl ((by simp; omega)) ?_
 refine wp_skip ?_
 refine zAb hK ?_; clear hK K
 refine wp_seq_k ?_; intro K hK
 replace E := E.keep (e' := [(0, _), (1, _), (5, _), (6, _)]) (kE4 rfl rfl rfl rfl)
 refine zAa ?_
 iterate 2 (refine zd E ?_; clear E a; intro a E)
 refine zp E (zBf (vs := [_, _]) E rfl rfl rfl (S.get pZ) rfl rfl) ?_; clear E a; intro a E
 refine zAg E rfl rfl dZ rfl Tryz.func37 rfl yZ rfl (pbehind0_ret t ad wd c adk ck hw CK ks hCK i hi hk f g _ (S.hp.sel sZ)) ?_
 rintro v31 w ⟨p, CK2, hCK2, hT⟩; clear E a; intro a E
 have S := S.call sZ hT; simp only [List.cons_append, List.nil_append] at S
 refine wpList_nil ?_
 refine zAb hK ?_; clear hK K
 refine wp_seq_k ?_; intro K hK
 refine zAa ?_
 refine zd E ?_; clear E a; intro a E
 refine wpList_nil ?_
 refine zAb hK ?_; clear hK K
 refine wp_ret ?_
 refine ret1 E rfl rfl ?_
 exact ⟨_, rfl, rfl, p, CK2, hCK2, (S.only (Bs := [[(p, _)], [(t, _)], CK2]) sZ).tr⟩
theorem placks_ret (i : Nat) (hi : i < wd) (p : Nat) (hk : ks[i]? = some (ptr p)) (f g : Int) (w0 : World) (H : Hp w0 [[(p, cel [.int .u64 f, .int .u64 g] 62)], [(t, ptcl (.slice ad wd c) (.slice adk wd ck) 32)], CK]) :
  Ret Tryz.prog 22 #[ptr t, .int .i64 i] w0 fun u w' => u = .tuple #[.agg #[.int .u64 f, .int .u64 g], .bool true] ∧ Trs w0 w' [[(p, cel [.int .u64 f, .int .u64 g] 62)], [(t, ptcl (.slice ad wd c) (.slice adk wd ck) 32)], CK] [[(p, cel [.int .u64 f, .int .u64 g] 62)], [(t, ptcl (.slice ad wd c) (.slice adk wd ck) 32)], CK] := by
 have S := St.begin H
 obtain ⟨gk, rfl⟩ := hCK.addr oZ
 refine zBx 30 Tryz.func22 rfl rfl dZ ?_; intro a E
 refine wp_seq_k ?_; intro K hK
 refine zAa ?_
 refine zAf rfl (zBs E S rfl rfl dZ rfl rfl rfl ?_); clear E S a; intro a w b4 E S
 refine zd E ?_; clear E a; intro a E
 refine wpList_nil ?_
 refine zAb hK ?_; clear hK K
 iterate 2 (refine wp_seq_k ?_; intro K hK)
 refine zAa ?_
 iterate 2 (refine zd E ?_; clear E a; intro a E)
 refine zAg E rfl rfl dZ rfl Tryz.func57 rfl yZ rfl (phas_ret t ad wd c _ ck hw i hi _ mZ _ S.hp) ?_
 rintro v8 w ⟨rfl, hT⟩; clear E a; intro a E
 have S := S.all hT
 iterate 2 (refine zd E ?_; clear E a; intro a E)
 refine zBg E (t := 10) rfl (rfl) (fun hb10 => ?_)
 iterate 2 (refine zyd E hb10 ?_; clear E a; intro a E)
 refine zy E hb10 (by first | exact zAc (q := 1) E rfl rfl rfl | exact zAd (q := 1) E rfl rfl rfl) ?_; clear E a; intro a E
 iterate 2 (refine zyd E hb10 ?_; clear E a; intro a E)
 refine zy E hb10 (zAp (i := i) E rfl rfl rfl rfl rfl rfl oZ) ?_; clear E a; intro a E
 refine zy E hb10 (zAo E rfl rfl rfl (hCK.rd.cells (S.stab.at mZ) rfl i _ hk)) ?_; clear E a; intro a E
 refine zyd E hb10 ?_; clear E a; intro a E
 refine zp E (zAk E rfl rfl hb10 rfl) ?_; clear E a; intro a E
 refine wpList_nil ?_
 refine zAb hK ?_; clear hK K
 refine zAt E rfl (rfl) ?_
 refine wp_skip ?_
 refine zAb hK ?_; clear hK K
 refine wp_seq_k ?_; intro K hK
 refine zAa ?_
 iterate 2 (refine zd E ?_; clear E a; intro a E)
 refine zp E (by first | exact zAc (q := 1) E rfl rfl rfl | exact zAd (q := 1) E rfl rfl rfl) ?_; clear E a; intro a E
 iterate 2 (refine zd E ?_; clear E a; intro a E)
 refine zp E (zAp (i := i) E rfl rfl rfl rfl rfl rfl oZ) ?_; clear E a; intro a E
 refine zp E (zAo E rfl rfl rfl (hCK.rd.cells (S.stab.at mZ) rfl i _ hk)) ?_; clear E a; intro a E
 refine zd E ?_; clear E a; intro a E
 refine zp E (zBf (vs := [_, _]) E rfl rfl rfl (S.get pZ) rfl rfl) ?_; clear E a; intro a E
 refine zAf rfl (zBr E S rfl rfl rfl rfl (by simp [Value.oneCell']) rfl pZ (by simp) ?_); clear E S a; intro a w E S; simp only [List.take_succ_cons, List.take_zero, List.drop_succ_cons, List.drop_zero, List.cons_append, List.nil_append, List.append_nil, List.length_cons, List.length_nil, Nat.zero_add, Nat.add_zero] at S
 refine zd E ?_; clear E a; intro a E
 refine wpList_nil ?_
 refine zAb hK ?_; clear hK K
 refine wp_ret ?_
 refine ret_ct E rfl rfl rfl (S.get pZ) rfl ?_
 exact ⟨_, rfl, rfl, (S.only (Bs := [[(p, _)], [(t, _)], CK]) sZ).tr⟩
theorem pwhole_ret (i : Nat) (hi : i < wd) (w0 : World) (H : Hp w0 [[(t, ptcl (.slice ad wd c) (.slice adk wd ck) 32)], CK]) :
  Ret Tryz.prog 23 #[ptr t, .int .i64 i] w0 fun u w' => u = .int .i64 0 ∧ ∃ CK', Buf CK' 133 1 (.slice adk wd ck) wd (ks.set i (.pointer none)) ∧ Trs w0 w' [[(t, ptcl (.slice ad wd c) (.slice adk wd ck) 32)], CK] [[(t, ptcl (.slice ad wd c) (.slice adk wd ck) 32)], CK'] := by
 have S := St.begin H
 obtain ⟨gk, rfl⟩ := hCK.addr oZ
 have hkl : ks.length = wd := by have := hCK.1; omega
 refine zBx 15 Tryz.func23 rfl rfl dZ ?_; intro a E
 refine wp_seq_k ?_; intro K hK
 refine zAa ?_
 refine zd E ?_; clear E a; intro a E
 refine wpList_nil ?_
 refine zAb hK ?_; clear hK K
 iterate 2 (refine wp_seq_k ?_; intro K hK)
 refine zAa ?_
 iterate 2 (refine zd E ?_; clear E a; intro a E)
 refine zAg E rfl rfl dZ rfl Tryz.func57 rfl yZ rfl (phas_ret t ad wd c _ ck hw i hi _ mZ _ S.hp) ?_
 rintro v7 w ⟨rfl, hT⟩; clear E a; intro a E
 have S := S.all hT
 refine zd E ?_; clear E a; intro a E
 refine wpList_nil ?_
 refine zAb hK ?_; clear hK K
 refine zAt E rfl (rfl) ?_
 refine wp_skip ?_
 refine zAb hK ?_; clear hK K
 refine wp_seq_k ?_; intro K hK
 refine zAa ?_
 iterate 2 (refine zd E ?_; clear E a; intro a E)
 refine zp E (by first | exact zAc (q := 1) E rfl rfl rfl | exact zAd (q := 1) E rfl rfl rfl) ?_; clear E a; intro a E
 iterate 2 (refine zd E ?_; clear E a; intro a E)
 refine zp E (zAp (i := i) E rfl rfl rfl rfl rfl rfl oZ) ?_; clear E a; intro a E
 refine zAf rfl (zJl E S rfl rfl rfl rfl rfl rfl hCK pZ (i := i) oZ (Nat.zero_add _) ?_); clear E S a; intro a w Cs6 E hBs6 S
 refine wpList_nil ?_
 refine zAb hK ?_; clear hK K
 refine wp_seq_k ?_; intro K hK
 refine zAa ?_
 refine zd E ?_; clear E a; intro a E
 refine wpList_nil ?_
 refine zAb hK ?_; clear hK K
 refine wp_ret ?_
 refine ret1 E rfl rfl ?_
 exact ⟨_, rfl, rfl, Cs6, hBs6, (S.only (Bs := [[(t, _)], Cs6]) sZ).tr⟩
end
end Go.Proofs.YtpjidiaekifmbaaGreatDoor
namespace Go.Proofs.YtpjidiaekifmbaaGreatDoor
open Go.Sl
set_option maxRecDepth 10000
theorem pnew_ret (P : Nat) (R : Rk) (C : zAj) (hC : RkC P R C) (xs : List (Nat × Nat)) (k : Nat) (hU : Up R xs k) (hw : 3 ≤ xs.length ∧ xs.length ≤ 5) (Lv : zAj) (hLv : LvC (lvs xs) Lv) (O : zAj) (v : Value) (hO : Rd O 1 v xs.length (xs.map fun y => ptr y.1)) (w0 : World) (H : Hp w0 [C, Lv, O]) :
  Ret Tryz.prog 31 #[v] w0 fun u w' => ∃ t vl vk CL CK, u = .tuple #[ptr t, .int .i64 0] ∧ Buf CL 53 1 vl xs.length (xs.map fun y => ptr y.1) ∧ Buf CK 133 1 vk xs.length (List.replicate xs.length (.pointer none)) ∧
   Trs w0 w' [C, Lv, O] [[(t, ptcl vl vk 32)], CL, CK, C, Lv, O] := by
 have S := St.begin H
 obtain ⟨ad, c, rfl⟩ := hO.slice
 refine zCh 66 Tryz.func31 rfl rfl dZ ?_; intro a E
 refine wp_seq_k ?_; intro K hK
 refine zAa ?_
 iterate 2 (refine zd E ?_; clear E a; intro a E)
 refine wpList_nil ?_
 refine zAb hK ?_; clear hK K
 iterate 2 (refine wp_seq_k ?_; intro K hK)
 refine zAa ?_
 iterate 4 (refine zd E ?_; clear E a; intro a E)
 refine zBg E (t := 11) rfl ((by simp; omega)) (fun hb11 => ?_)
 iterate 3 (refine zyd E hb11 ?_; clear E a; intro a E)
 refine zp E (zAk E rfl rfl hb11 rfl) ?_; clear E a; intro a E
 refine wpList_nil ?_
 refine zAb hK ?_; clear hK K
 refine zAt E rfl ((by simp; omega)) ?_
 refine wp_skip ?_
 refine zAb hK ?_; clear hK K
 refine wp_seq_k ?_; intro K hK
 refine zAa ?_
 iterate 2 (refine zd E ?_; clear E a; intro a E)
 refine zAf rfl (zCn (by' := 8) E S rfl rfl dZ rfl rfl rfl rfl rfl rfl rfl rfl rfl rfl rfl (by first | exact mkb oZ | exact mkb8 oZ | exact mkbn rfl oZ) (by simp only [maxLen]; omega) ?_); clear E S a; intro a w g18 E S
 refine zp E (zBt (cells := [_, _, _]) E rfl rfl rfl) ?_; clear E a; intro a E
 refine zAf rfl (zBz E S rfl rfl dZ rfl rfl ?_); clear E S a; intro a w b20 E S
 refine zd E ?_; clear E a; intro a E
 refine wpList_nil ?_
 have hCK : Buf [(g18, cel (List.replicate xs.length (.pointer none)) 133)] 133 1 (.slice (some ⟨g18, 0, none⟩) xs.length xs.length) xs.length (List.replicate xs.length (.pointer none)) := by
  have := zHf (r := []) (T := 133) (g := g18) (c := xs.length) (m := xs.length) (s := 1) (xs := List.replicate xs.length (.pointer none)) (by rw [List.length_replicate]; omega) (fun u hu => by rw [List.eq_of_mem_replicate hu]; rfl) (Nat.le_refl _) (by simp only [maxLen]; omega) (by rw [List.length_replicate, List.length_nil]; omega)
  rwa [List.append_nil] at this
 refine zAb hK ?_; clear hK K
 refine wp_seq_k ?_; intro K hK
 refine zAa ?_
 refine zd E ?_; clear E a; intro a E
 refine wpList_nil ?_
 refine zAb hK ?_; clear hK K
 iterate 2 (refine wp_seq_k ?_; intro K hK)
 refine zAa ?_
 iterate 3 (refine zd E ?_; clear E a; intro a E)
 refine wpList_nil ?_
 refine zAb hK ?_; clear hK K
 refine wp_block ?_
 refine wp_loop_ghost (fun (m : Nat) (a : Act) (w' : World) => ∃ (i : Nat) (zz : Int) (CL : zAj) (vl : Value), m = xs.length - i ∧ i ≤ xs.length ∧ (0 < i → zz = 32) ∧ (i = 0 → zz = -1) ∧ Buf CL 53 1 vl i ((xs.map fun y => ptr y.1).take i) ∧ St w0 [C, Lv, O] w' [[(b20, ptcl vl (.slice (some ⟨g18, 0, none⟩) xs.length xs.length) zz)], CL, [(g18, cel (List.replicate xs.length (.pointer none)) 133)], C, Lv, O] ∧
  Fr a 66 [(4, ptr b20), (5, .int .i64 0), (21, .slice ad xs.length c), (22, .int .i64 xs.length), (23, .int .i64 i)]) (xs.length - 0) ?_ ?_
 ·exact ⟨0, -1, [], _, rfl, by omega, fun q => absurd q oZ, fun _ => rfl, Buf.nil _ _, S.addNil.only sZ, E.keep (kE5 rfl rfl rfl rfl rfl)⟩
 clear E; clear a; (try clear S); rintro m a w ⟨i, zz, CL, vl, rfl, hi, hz1, hz0, hCL, S, E⟩
 refine wp_seq_k ?_; intro K hK
 refine zAa ?_
 refine zd E ?_; clear E a; intro a E
 refine wpList_nil ?_
 refine zAb hK ?_; clear hK K
 refine wp_seq_k ?_; intro K hK
 refine zAs E rfl (fun hb => ?_) (fun hb => ?_)
 ·replace hb := Nrm.nrm hb
  refine wp_skip ?_
  refine zAb hK ?_; clear hK K
  refine wp_seq_k ?_; intro K hK
  refine wp_block ?_
  refine wp_seq_k ?_; intro K hK
  have hil : i < xs.length := by omega
  have hmi : xs[i] ∈ xs := List.getElem_mem hil
  have hcell : (xs.map fun y => ptr y.1)[i]? = some (ptr xs[i].1) := by rw [List.getElem?_map, List.getElem?_eq_getElem hil]; rfl
  have hml : i < (xs.map fun y => ptr y.1).length := by rw [List.length_map]; exact hil
  have htk : (xs.map fun y => ptr y.1).take (i + 1) = (xs.map fun y => ptr y.1).take i ++ [ptr xs[i].1] := by rw [← List.take_append_getElem hml]; simp
  obtain ⟨g, off, rfl⟩ := hO.addr oZ
  obtain ⟨adl, cl, rfl⟩ := hCL.slice
  refine zAa ?_
  refine zp E (by first | exact zAp E rfl rfl rfl rfl rfl rfl oZ | exact zAz E rfl rfl rfl rfl rfl rfl oZ | exact zAm E rfl rfl rfl rfl rfl rfl oZ) ?_; clear E a; intro a E
  refine zp E (zAo E rfl rfl rfl (hO.cells (S.stab.at mZ) rfl i _ hcell)) ?_; clear E a; intro a E
  refine zd E ?_; clear E a; intro a E
  refine wpList_nil ?_
  refine zAb hK ?_; clear hK K
  refine wp_seq_k ?_; intro K hK
  refine wp_block ?_
  refine wp_seq_k ?_; intro K hK
  refine zAa ?_
  iterate 3 (refine zd E ?_; clear E a; intro a E)
  refine wpList_nil ?_
  refine zAb hK ?_; clear hK K
  refine zAt E rfl (rfl) ?_
  refine wp_seq_k ?_; intro K hK
  refine zDl (fun (a : Act) (w' : World) => St w0 [C, Lv, O] w' [[(b20, ptcl (.slice adl i cl) (.slice (some ⟨g18, 0, none⟩) xs.length xs.length) zz)], CL, [(g18, cel (List.replicate xs.length (.pointer none)) 133)], C, Lv, O] ∧ Fr a 66 [(4, ptr b20), (5, .int .i64 0), (7, ptr xs[i].1), (21, .slice (some ⟨g, off, none⟩) xs.length c), (22, .int .i64 xs.length), (23, .int .i64 i), (37, .bool false)]) ?_ ?_
  ·skip
   refine zAw S (.ofL [(0, 0), (1, 0), (2, 0), (3, 0), (4, 0), (5, 0), (6, 0), (8, 0), (9, 0), (10, 0), (11, 0), (7, 1), (12, 0), (13, 0), (14, 0)]) yZ yZ ?_
   clear S; intro w S
   iterate 2 (refine zmd E ?_; clear E a; intro a E)
   refine zm E rfl (fun w h => by first | exact zAc (q := 2) E rfl rfl rfl | exact zAd (q := 2) E rfl rfl rfl) ?_; clear E a; intro a E
   iterate 3 (refine zmd E ?_; clear E a; intro a E)
   refine zAr E (t := 43) rfl (fun hb43 => ?_) (fun hb43 => ?_)
   ·have hb43n := hb43; replace hb43n := Nrm.nrm hb43n
    iterate 2 (refine zAe E rfl rfl rfl rfl rfl hb43 rfl dZ (fun w h => zCp E rfl rfl) ?_; clear E a; intro a E)
    refine zAe E rfl rfl rfl rfl rfl hb43 rfl dZ (fun w h => zCu E rfl rfl) ?_; clear E a; intro a E
    refine zAe E rfl rfl rfl rfl rfl hb43 rfl dZ (fun w h => by first | exact zAc (q := 2) E rfl rfl rfl | exact zAd (q := 2) E rfl rfl rfl) ?_; clear E a; intro a E
    refine zAe E rfl rfl rfl rfl rfl hb43 rfl dZ (fun w h => by first | exact zCl E rfl rfl rfl (h.one mZ) rfl | exact zAo E rfl rfl rfl (by assumption)) ?_; clear E a; intro a E
    refine zEu E rfl rfl rfl rfl rfl hb43 ?_; refine zCe E rfl dZ rfl Tryz.func72 rfl yZ rfl (lsize_in P R C hC (lvs xs) Lv hLv i xs[i] (zKs hil) (hU.has _ hmi) _ (S.hp.sel sZ)) ?_
    rintro v45 w ⟨rfl, hT⟩; clear E a; intro a E
    have S := S.call2 sZ hT; rw [hU.size _ hmi] at E
    refine ⟨S.stab.sub (by first | (simp; done) | (simp +contextual; done) | (simp [*]; done)), ?_⟩
    refine zAe E rfl rfl rfl rfl rfl hb43 rfl dZ (fun w h => by first | exact rn_neq E rfl rfl rfl | exact zEk E rfl rfl rfl rfl | exact zFy E rfl rfl rfl rfl | exact zEw E rfl rfl rfl) ?_; clear E a; intro a E
    refine zm E rfl (fun w h => zAi E rfl rfl hb43 rfl) ?_; clear E a; intro a E
    refine zmd E ?_; clear E a; intro a E
    refine zBd ?_
    refine zAx ?_
    have hzz : zz = 32 := hz1 (by rcases Nat.eq_zero_or_pos i with q | q; (have := hz0 q; simp_all); exact q)
    rw [hzz] at E ⊢
    exact ⟨by rw [← hzz]; exact S.only sZ, E.keep (kE7 rfl rfl rfl rfl rfl rfl rfl)⟩
   ·have hb43n := hb43; replace hb43n := Nrm.nrm hb43n
    iterate 5 (refine zBb E rfl rfl rfl rfl rfl hb43 rfl dZ ?_; clear E a; intro a E)
    refine zDt E rfl rfl rfl rfl rfl hb43 rfl dZ (S.stab.sub (by first | (simp; done) | (simp +contextual; done) | (simp [*]; done))) ?_; clear E a; intro a E
    refine zBb E rfl rfl rfl rfl rfl hb43 rfl dZ ?_; clear E a; intro a E
    refine zm E rfl (fun w h => zAk E rfl rfl hb43 rfl) ?_; clear E a; intro a E
    refine zmd E ?_; clear E a; intro a E
    refine zBd ?_
    refine zAx ?_
    exact ⟨S.only sZ, E.keep (kE7 rfl rfl rfl rfl rfl rfl rfl)⟩
  ·clear E S a; intro a w J; obtain ⟨S, E⟩ := J
   refine zAb hK ?_; clear hK K
   refine zAt E rfl (rfl) ?_
   refine zAa ?_
   iterate 2 (refine zd E ?_; clear E a; intro a E)
   refine zAg E rfl rfl dZ rfl Tryz.func72 rfl yZ rfl (lsize_in P R C hC (lvs xs) Lv hLv i xs[i] (zKs hil) (hU.has _ hmi) _ (S.hp.sel sZ)) ?_
   rintro v29 w ⟨rfl, hT⟩; clear E a; intro a E
   have S := S.call2 sZ hT; rw [hU.size _ hmi] at E
   refine zd E ?_; clear E a; intro a E
   refine zp E (by first | exact zAc (q := 2) E rfl rfl rfl | exact zAd (q := 2) E rfl rfl rfl) ?_; clear E a; intro a E
   refine zAf rfl (zBa E S rfl rfl rfl rfl rfl rfl pZ (by first | exact Nat.le_of_ble_eq_true rfl | (simp; done) | (simp; omega)) ?_); clear E S a; intro a w E S; try dsimp only [List.set] at S
   refine wpList_nil ?_
   refine zAq ?_
   refine zAb hK ?_; clear hK K
   refine zAa ?_
   iterate 3 (refine zd E ?_; clear E a; intro a E)
   refine zp E (by first | exact zAc (q := 0) E rfl rfl rfl | exact zAd (q := 0) E rfl rfl rfl) ?_; clear E a; intro a E
   iterate 2 (refine zd E ?_; clear E a; intro a E)
   refine zAf rfl (zBm (cells := [_]) E S rfl rfl dZ rfl rfl rfl rfl rfl dZ rfl ?_); clear E S a; intro a w b58 E S
   refine zAf rfl (zBl (by' := 8) E S rfl rfl dZ rfl rfl hCL pZ ((zBn (g := b58) (T := 53) (xs := [ptr xs[i].1]) (s := 1) (m := 1) rfl (by simp [Value.oneCell']) oZ 1).src (S.stab.at mZ) rfl) rfl rfl rfl rfl rfl rfl (by simp only [maxLen]; omega) oZ ?_); clear E S a; intro a w v59 C59 E S hB59
   obtain ⟨ad59, c59, rfl⟩ := hB59.slice
   refine zd E ?_; clear E a; intro a E
   refine zp E (by first | exact zAc (q := 0) E rfl rfl rfl | exact zAd (q := 0) E rfl rfl rfl) ?_; clear E a; intro a E
   refine zAf rfl (zBa E S rfl rfl rfl rfl rfl rfl pZ (by first | exact Nat.le_of_ble_eq_true rfl | (simp; done) | (simp; omega)) ?_); clear E S a; intro a w E S; try dsimp only [List.set] at S
   refine wpList_nil ?_
   refine zAq ?_
   refine zAb hK ?_; clear hK K
   refine zAa ?_
   refine zp E (zAy E rfl rfl rfl (w_in oZ)) ?_; clear E a; intro a E
   refine zd E ?_; clear E a; intro a E
   refine wpList_nil ?_
   refine zAn ?_
   exact ⟨_, by omega, i + 1, 32, C59, _, rfl, by omega, fun _ => rfl, fun q => absurd q oZ, by rw [htk]; exact hB59, S.only sZ, E.keep (kE5 rfl rfl rfl rfl rfl)⟩
 ·replace hb := Nrm.nrm hb
  refine wp_exit ?_
  refine zAl ?_; clear hK K
  refine zAl ?_
  refine zBi ?_
  refine zAb hK ?_; clear hK K
  iterate 2 (refine wp_seq_k ?_; intro K hK)
  obtain rfl : i = xs.length := by omega
  rw [List.take_of_length_le (by simp)] at hCL
  obtain rfl := hz1 oZ
  refine zAa ?_
  iterate 2 (refine zd E ?_; clear E a; intro a E)
  refine wpList_nil ?_
  refine zAb hK ?_; clear hK K
  refine zAt E rfl (rfl) ?_
  refine wp_skip ?_
  refine zAb hK ?_; clear hK K
  refine wp_seq_k ?_; intro K hK
  refine zAa ?_
  iterate 3 (refine zd E ?_; clear E a; intro a E)
  refine wpList_nil ?_
  refine zAb hK ?_; clear hK K
  refine wp_ret ?_
  refine ret2 E rfl rfl rfl ?_
  exact ⟨_, rfl, b20, vl, _, CL, _, rfl, hCL, hCK, S.tr⟩
theorem dpnew_ret (q : Nat) (R : Rk) (C : zAj) (hC : RfC q R C) (ms : List (Nat × Nat)) (Dv : zAj) (hDv : DvC q ms Dv) (hds : ∀ m ∈ ms, ∃ x, R.ds[m.2]? = some x ∧ x.pl.length = 41472) (O : zAj) (v : Value) (hO : Rd O 1 v ms.length (ms.map fun m => ptr m.1)) (hl : 3 ≤ ms.length ∧ ms.length ≤ 5) (w0 : World) (H : Hp w0 [C, Dv, O]) :
  Ret Tryz.prog 32 #[v] w0 fun u w' => ∃ t X, u = .tuple #[ptr t, .int .i64 0] ∧ Trs w0 w' [C, Dv, O] [X, C, Dv, O] := by
 have S := St.begin H
 obtain ⟨ad, c, rfl⟩ := hO.slice
 refine zCh 40 Tryz.func32 rfl rfl dZ ?_; intro a E
 refine wp_seq_k ?_; intro K hK
 refine zAa ?_
 iterate 2 (refine zd E ?_; clear E a; intro a E)
 refine wpList_nil ?_
 refine zAb hK ?_; clear hK K
 refine wp_seq_k ?_; intro K hK
 refine zAa ?_
 refine zd E ?_; clear E a; intro a E
 refine zAg E rfl rfl dZ rfl Tryz.func73 rfl yZ rfl (alike_ret q R C hC ms Dv hDv hds O _ hO oZ _ S.hp) ?_
 rintro v10 w ⟨z, hz, rfl, hT⟩; clear E a; intro a E
 have S := S.all hT; obtain rfl := hz oZ
 iterate 5 (refine zd E ?_; clear E a; intro a E)
 refine wpList_nil ?_
 refine zAb hK ?_; clear hK K
 iterate 2 (refine wp_seq_k ?_; intro K hK)
 refine zAa ?_
 iterate 4 (refine zd E ?_; clear E a; intro a E)
 refine zBg E (t := 16) rfl ((by simp; omega)) (fun hb16 => ?_)
 iterate 3 (refine zyd E hb16 ?_; clear E a; intro a E)
 refine zp E (zAk E rfl rfl hb16 rfl) ?_; clear E a; intro a E
 refine zd E ?_; clear E a; intro a E
 refine zBg E (t := 21) rfl ((by simp; omega)) (fun hb21 => ?_)
 iterate 3 (refine zyd E hb21 ?_; clear E a; intro a E)
 refine zy E hb21 (zCo E rfl rfl rfl (w_in oZ)) ?_; clear E a; intro a E
 refine zyd E hb21 ?_; clear E a; intro a E
 refine zp E (zAk E rfl rfl hb21 rfl) ?_; clear E a; intro a E
 refine zd E ?_; clear E a; intro a E
 refine zBg E (t := 28) rfl ((by simp only [decide_eq_false_iff_not]; omega)) (fun hb28 => ?_)
 iterate 2 (refine zyd E hb28 ?_; clear E a; intro a E)
 refine zp E (zAk E rfl rfl hb28 rfl) ?_; clear E a; intro a E
 refine wpList_nil ?_
 refine zAb hK ?_; clear hK K
 refine zAt E rfl (rfl) ?_
 refine wp_skip ?_
 refine zAb hK ?_; clear hK K
 refine wp_seq_k ?_; intro K hK
 replace E := E.keep (e' := [(0, _), (2, _), (3, _)]) (kE3 rfl rfl rfl)
 refine zAa ?_
 refine zd E ?_; clear E a; intro a E
 refine zAg E rfl rfl dZ rfl Tryz.func74 rfl yZ rfl (dmnew_ret q R C hC ms Dv hDv hds O _ hO oZ _ S.hp) ?_
 rintro v34 w ⟨tu, X, rfl, hT⟩; clear E a; intro a E
 have S := S.all hT
 iterate 5 (refine zd E ?_; clear E a; intro a E)
 refine wpList_nil ?_
 refine zAb hK ?_; clear hK K
 refine wp_seq_k ?_; intro K hK
 refine zAa ?_
 refine zd E ?_; clear E a; intro a E
 refine zp E (zBt (cells := [_]) E rfl rfl rfl) ?_; clear E a; intro a E
 refine zAf rfl (zBz E S rfl rfl dZ rfl rfl ?_); clear E S a; intro a w b39 E S
 iterate 2 (refine zd E ?_; clear E a; intro a E)
 refine wpList_nil ?_
 refine zAb hK ?_; clear hK K
 refine wp_ret ?_
 refine ret2 E rfl rfl rfl ?_
 exact ⟨_, rfl, _, [(b39, _)], rfl, (S.only (Bs := [[(b39, _)], C, Dv, O]) sZ).tr⟩
end Go.Proofs.YtpjidiaekifmbaaGreatDoor
namespace Go.Proofs.YtpjidiaekifmbaaGreatDoor
open Go.Sl
set_option maxRecDepth 10000
theorem label7_ret (w0 : World) : Ret Tryz.prog 29 #[] w0 fun u w' => ∃ v O, u = lbagg lab0 v ∧ Rd O 3 v lab0.tops.length (lab0.tops.flatMap Tp.lay) ∧ Trs w0 w' [] [O] := by
 have S := St.begin (zDz w0)
 refine zLj 4 Tryz.func29 rfl rfl ?_; intro a E
 refine wp_seq_k ?_; intro K hK
 refine zAa ?_
 refine zAf rfl (zBs E S rfl rfl dZ rfl rfl rfl ?_); clear E S a; intro a w b0 E S
 refine wpList_nil ?_
 refine zAb hK ?_; clear hK K
 refine wp_seq_k ?_; intro K hK
 refine zAa ?_
 refine zp E (zBt (cells := [_, _, _]) E rfl rfl rfl) ?_; clear E a; intro a E
 refine zAf rfl (zBm (cells := [.int .i64 1, .int .i64 1, .int .i64 324]) E S rfl rfl dZ rfl rfl rfl rfl rfl dZ rfl ?_); clear E S a; intro a w b2 E S
 refine zp E (zBt (cells := [_, _, _, _]) E rfl rfl rfl) ?_; clear E a; intro a E
 refine zAf rfl (zBr E S rfl rfl rfl rfl (by simp [Value.oneCell']) rfl pZ (by simp) ?_); clear E S a; intro a w E S; simp only [List.take_succ_cons, List.take_zero, List.drop_succ_cons, List.drop_zero, List.cons_append, List.nil_append, List.append_nil, List.length_cons, List.length_nil, Nat.zero_add, Nat.add_zero] at S
 refine wpList_nil ?_
 refine zAb hK ?_; clear hK K
 refine wp_ret ?_
 refine zKj E rfl rfl (S.get pZ) rfl ?_
 exact ⟨_, rfl, _, [(b2, _)], rfl, zBn (T := 144) (xs := [.int .i64 1, .int .i64 1, .int .i64 324]) (s := 3) (m := 1) rfl (by simp [Value.oneCell']) oZ 1, (S.only (Bs := [[(b2, _)]]) sZ).tr⟩
abbrev zLa (p : Nat) (vD vL vT v4 v5 v6 v7 : Value) : Obj := cel [ptr p, vD, vL, vT, v4, v5, v6, v7] 42
theorem zIu (n : Nat) (hn : 3 ≤ n ∧ n ≤ 5) (w0 : World) : Ret Tryz.prog 6 #[.int .i64 n, .slice none 0 0] w0 fun u w' =>
  ∃ (x p t : Nat) (R : Rk) (C : zAj) (xs : List (Nat × Nat)) (Lv : zAj) (vl vk : Value) (CL CK : zAj) (vD : Value) (CD : zAj) (vL : Value) (CLs : zAj) (v4 v5 v6 v7 : Value),
   u = .tuple #[ptr x, .bool true, .bool true] ∧ RigOk n p R C xs Lv ∧ Buf CL 53 1 vl xs.length (xs.map fun y => ptr y.1) ∧ Buf CK 133 1 vk xs.length (List.replicate xs.length (.pointer none)) ∧ Buf CD 56 1 vD xs.length (xs.map fun y => ptr y.2) ∧ Buf CLs 53 1 vL xs.length (xs.map fun y => ptr y.1) ∧
   Trs w0 w' [] [[(x, zLa p vD vL (ptr t) v4 v5 v6 v7)], C, Lv, [(t, ptcl vl vk 32)], CL, CK, CD, CLs] := by
 have S := St.begin (zDz w0)
 refine zBx 164 Tryz.func6 rfl rfl dZ ?_; intro a E
 refine wp_seq_k ?_; intro K hK
 refine zAa ?_
 iterate 3 (refine zd E ?_; clear E a; intro a E)
 refine wpList_nil ?_
 refine zAb hK ?_; clear hK K
 refine wp_seq_k ?_; intro K hK
 refine zAa ?_
 refine zAg E rfl rfl dZ rfl Tryz.func24 rfl yZ rfl (rk_newp _) ?_
 rintro v21 w ⟨p, C0, rfl, hC0, hT⟩; clear E a; intro a E
 have S := S.fresh hT
 refine zAg E rfl rfl dZ rfl Tryz.func25 rfl yZ rfl (qnew_ret _) ?_
 rintro v22 w ⟨q, Cq0, rfl, hq0, hT⟩; clear E a; intro a E
 have S := S.fresh hT
 refine zp E (zBt (cells := [_, _, _, _, _, _, _, _]) E rfl rfl rfl) ?_; clear E a; intro a E
 refine zAf rfl (zBz E S rfl rfl dZ rfl rfl ?_); clear E S a; intro a w b24 E S
 refine zd E ?_; clear E a; intro a E
 refine wpList_nil ?_
 refine zAb hK ?_; clear hK K
 iterate 2 (refine wp_seq_k ?_; intro K hK)
 refine zAa ?_
 iterate 2 (refine zd E ?_; clear E a; intro a E)
 refine zp E (by first | exact zAc (q := 0) E rfl rfl rfl | exact zAd (q := 0) E rfl rfl rfl) ?_; clear E a; intro a E
 iterate 2 (refine zd E ?_; clear E a; intro a E)
 refine wpList_nil ?_
 refine zAb hK ?_; clear hK K
 refine zAt E rfl (rfl) ?_
 refine wp_skip ?_
 refine zAb hK ?_; clear hK K
 iterate 2 (refine wp_seq_k ?_; intro K hK)
 refine zAa ?_
 refine zd E ?_; clear E a; intro a E
 refine wpList_nil ?_
 refine zAb hK ?_; clear hK K
 refine wp_block ?_
 refine wp_loop_ghost (fun (m : Nat) (a : Act) (w' : World) => ∃ (i : Nat) (R Rq : Rk) (C Cq : zAj) (xs ms : List (Nat × Nat)) (Lv Dv : zAj) (vD : Value) (CD : zAj) (vL : Value) (CLs : zAj) (vM : Value) (CM : zAj), m = n - i ∧ i ≤ n ∧ RigOk i p R C xs Lv ∧ Fresh i Rq ∧ RfC q Rq Cq ∧ RqOk Rq ∧ ms.map Prod.snd = List.range i ∧ DvC q ms Dv ∧ Buf CD 56 1 vD xs.length (xs.map fun y => ptr y.2) ∧ Buf CLs 53 1 vL xs.length (xs.map fun y => ptr y.1) ∧ Buf CM 78 1 vM ms.length (ms.map fun y => ptr y.1) ∧
  St w0 [] w' [[(b24, zLa p vD vL (.pointer none) (ptr q) vM (.pointer none) (.slice none 0 0))], C, Lv, CD, CLs, Cq, Dv, CM] ∧ Fr a 164 [(0, .int .i64 n), (1, .slice none 0 0), (7, ptr b24), (8, .int .i64 i)]) (n - 0) ?_ ?_
 ·exact ⟨0, _, _, C0, Cq0, [], [], [], [], _, [], _, [], _, [], rfl, by omega, ⟨hC0, Fresh.zero, rfl, rfl, rfl⟩, Fresh.zero, hq0, ⟨by simp [DkOk], fun w hw => by simp at hw, fun z hz => by simp at hz, ⟨rfl, rfl⟩⟩, rfl, rfl, Buf.nil _ _, Buf.nil _ _, Buf.nil _ _, S.addNil.addNil.addNil.addNil.addNil.only sZ, E.keep (kE4 rfl rfl rfl rfl)⟩
 clear E; clear a; (try clear S); rintro m a w ⟨i, R, Rq, C, Cq, xs, ms, Lv, Dv, vD, CD, vL, CLs, vM, CM, rfl, hi, hG, hFq, hCq, hRq, hms, hDv, hD, hL, hM, S, E⟩
 iterate 2 (refine wp_seq_k ?_; intro K hK)
 refine zDl (fun (a : Act) (w' : World) => St w0 [] w' [[(b24, zLa p vD vL (.pointer none) (ptr q) vM (.pointer none) (.slice none 0 0))], C, Lv, CD, CLs, Cq, Dv, CM] ∧ Fr a 164 [(0, .int .i64 n), (1, .slice none 0 0), (7, ptr b24), (8, .int .i64 i), (37, .bool (decide (i < n)))]) ?_ ?_
 ·skip
  refine zAa ?_
  iterate 4 (refine zd E ?_; clear E a; intro a E)
  refine zAr E (t := 34) rfl (fun hb34 => ?_) (fun hb34 => ?_)
  ·have hb34n := hb34; replace hb34n := Nrm.nrm hb34n
   iterate 2 (refine zyd E hb34 ?_; clear E a; intro a E)
   refine zp E (zAi E rfl rfl hb34 rfl) ?_; clear E a; intro a E
   refine wpList_nil ?_
   refine zAx ?_
   rw [show decide ((i : Int) < 7) = decide (i < n) by rw [decide_eq_decide]; omega] at E; exact ⟨S, E.keep (kE5 rfl rfl rfl rfl rfl)⟩
  ·have hb34n := hb34; replace hb34n := Nrm.nrm hb34n
   iterate 2 (refine zn E hb34 ?_; clear E a; intro a E)
   refine zp E (zAk E rfl rfl hb34 rfl) ?_; clear E a; intro a E
   refine wpList_nil ?_
   refine zAx ?_
   rw [show decide (i < n) = false by simp; omega]; exact ⟨S, E.keep (kE5 rfl rfl rfl rfl rfl)⟩
 ·clear E S a; intro a w J; obtain ⟨S, E⟩ := J
  refine zAb hK ?_; clear hK K
  refine zAs E rfl (fun hb => ?_) (fun hb => ?_)
  ·replace hb := Nrm.nrm hb
   refine wp_skip ?_
   refine zAb hK ?_; clear hK K
   refine wp_seq_k ?_; intro K hK
   refine wp_block ?_
   refine wp_seq_k ?_; intro K hK
   have hil : i < n := by simpa using hb
   obtain ⟨hC, hFi, hxl, hxd, hLv⟩ := hG
   obtain ⟨hnd, hdk⟩ := hFi.dk
   have hml : ms.length = i := by have := congrArg List.length hms; simpa using this
   refine zAa ?_
   iterate 2 (refine zd E ?_; clear E a; intro a E)
   refine zp E (by first | exact zAc (q := 0) E rfl rfl rfl | exact zAd (q := 0) E rfl rfl rfl) ?_; clear E a; intro a E
   refine zd E ?_; clear E a; intro a E
   refine zAg E rfl rfl dZ rfl Tryz.func26 rfl yZ rfl (newd_ret p R C hC (by rw [hFi.len]; omega) _ (S.hp.sel sZ)) ?_
   rintro v45 w ⟨d, R1, C1, rfl, hA, hC1, hT⟩; clear E a; intro a E
   have S := S.call1 sZ hT
   iterate 5 (refine zd E ?_; clear E a; intro a E)
   refine wpList_nil ?_
   refine zAb hK ?_; clear hK K
   refine wp_seq_k ?_; intro K hK
   refine zAa ?_
   iterate 2 (refine zd E ?_; clear E a; intro a E)
   refine zp E (by first | exact zAc (q := 4) E rfl rfl rfl | exact zAd (q := 4) E rfl rfl rfl) ?_; clear E a; intro a E
   refine zd E ?_; clear E a; intro a E
   refine zAg E rfl rfl dZ rfl Tryz.func27 rfl yZ rfl (qnewd_ret q Rq Cq hCq hRq (by rw [hFq.len]; omega) _ (S.hp.sel sZ)) ?_
   rintro v53 w ⟨y, Rq1, Cq1, rfl, hAq, hRq1, hCq1, hT⟩; clear E a; intro a E
   have S := S.call1 sZ hT; rw [hFq.len] at E
   iterate 5 (refine zd E ?_; clear E a; intro a E)
   refine wpList_nil ?_
   refine zAb hK ?_; clear hK K
   iterate 2 (refine wp_seq_k ?_; intro K hK)
   refine zAa ?_
   iterate 3 (refine zd E ?_; clear E a; intro a E)
   refine zBg E (t := 58) rfl (rfl) (fun hb58 => ?_)
   iterate 2 (refine zyd E hb58 ?_; clear E a; intro a E)
   refine zp E (zAk E rfl rfl hb58 rfl) ?_; clear E a; intro a E
   refine wpList_nil ?_
   refine zAb hK ?_; clear hK K
   refine zAt E rfl (rfl) ?_
   refine wp_skip ?_
   refine zAb hK ?_; clear hK K
   refine wp_seq_k ?_; intro K hK
   refine zAa ?_
   refine zd E ?_; clear E a; intro a E
   refine zAg E rfl rfl dZ rfl Tryz.func29 rfl yZ rfl (label7_ret _) ?_
   rintro v65 w ⟨vO, O, rfl, hO, hT⟩; clear E a; intro a E
   have S := S.fresh hT
   refine zAg E rfl rfl dZ rfl Tryz.func28 rfl yZ rfl (lformat_ret p R1 C1 hC1 d hA.at (hA.on hFi.on) hA.fl (by rw [hA.ws, hFi.ws, List.length_nil]; omega) (by rw [hA.pw, hFi.wr]; omega) 324 (by rw [hA.pl]) O vO lab0 hO lab0_ok lab0_e lab0_sec _ (S.hp.sel sZ)) ?_
   rintro v66 w ⟨pl, L, R2, C2, F, rfl, hLl, hC2, hW, hT⟩; clear E a; intro a E
   have S := S.call3 sZ hT; obtain ⟨hF2, hds2⟩ := hFi.step hA hW
   iterate 5 (refine zd E ?_; clear E a; intro a E)
   refine wpList_nil ?_
   refine zAb hK ?_; clear hK K
   refine wp_seq_k ?_; intro K hK
   refine zAw S (.ofL [(0, 0), (1, 0), (2, 0), (3, 0), (4, 0), (5, 1), (6, 3), (7, 2), (8, 2), (9, 2), (10, 2), (11, 2)]) yZ yZ ?_
   clear S; intro w S
   iterate 2 (refine zmd E ?_; clear E a; intro a E)
   refine zm E rfl (fun w h => by first | exact zAc (q := 4) E rfl rfl rfl | exact zAd (q := 4) E rfl rfl rfl) ?_; clear E a; intro a E
   iterate 2 (refine zmd E ?_; clear E a; intro a E)
   refine zBo E rfl rfl rfl dZ rfl Tryz.func29 rfl yZ rfl (label7_ret _) ?_
   rintro v75 w ⟨vO2, O2, rfl, hO2, hT⟩; clear E a; intro a E
   have S := S.fresh hT
   refine ⟨S.stab.sub (by first | (simp; done) | (simp +contextual; done) | (simp [*]; done)), ?_⟩
   refine zDd E rfl rfl rfl dZ rfl Tryz.func30 rfl yZ rfl (dformat_ret q Rq1 Cq1 hCq1 hRq1 i y (by rw [hAq.ds, ← hFq.len, List.getElem?_append_right (Nat.le_refl _), Nat.sub_self]; rfl) hAq.fl (by rw [hAq.ws, hFq.ws, List.length_nil]; omega) (by rw [hAq.pw, hFq.wr]; omega) 324 (by rw [hAq.pl]) O2 vO2 lab0 hO2 lab0_ok lab0_e lab0_sec _ (S.hp.sel sZ)) ?_
   rintro v76 w ⟨pm, Lm, Rq2, Cq2, Fq, rfl, hLm, hCq2, hRq2, hWq, hT⟩; clear E a; intro a E
   have S := S.call3 sZ hT; obtain ⟨hFq2, _⟩ := hFq.step hAq hWq
   refine zBp E rfl rfl rfl dZ (fun w => zCp E rfl rfl) ?_; clear E a; intro a E
   iterate 2 (refine zBp E rfl rfl rfl dZ (fun w => zDw E rfl rfl rfl) ?_; clear E a; intro a E)
   iterate 2 (refine zBp E rfl rfl rfl dZ (fun w => zCi E rfl rfl) ?_; clear E a; intro a E)
   refine zBd ?_
   refine zAb hK ?_; clear hK K
   iterate 2 (refine wp_seq_k ?_; intro K hK)
   refine zAa ?_
   iterate 3 (refine zd E ?_; clear E a; intro a E)
   refine zBg E (t := 81) rfl (rfl) (fun hb81 => ?_)
   iterate 2 (refine zyd E hb81 ?_; clear E a; intro a E)
   refine zp E (zAk E rfl rfl hb81 rfl) ?_; clear E a; intro a E
   refine wpList_nil ?_
   refine zAb hK ?_; clear hK K
   refine zAt E rfl (rfl) ?_
   refine wp_skip ?_
   refine zAb hK ?_; clear hK K
   refine wp_seq_k ?_; intro K hK
   obtain ⟨adD, cD, rfl⟩ := hD.slice
   obtain ⟨adL, cL, rfl⟩ := hL.slice
   obtain ⟨adM, cM, rfl⟩ := hM.slice
   refine zAa ?_
   iterate 3 (refine zd E ?_; clear E a; intro a E)
   refine zp E (by first | exact zAc (q := 1) E rfl rfl rfl | exact zAd (q := 1) E rfl rfl rfl) ?_; clear E a; intro a E
   iterate 2 (refine zd E ?_; clear E a; intro a E)
   refine zAf rfl (zBm (cells := [_]) E S rfl rfl dZ rfl rfl rfl rfl rfl dZ rfl ?_); clear E S a; intro a w b92 E S
   refine zAf rfl (zBl (by' := 8) E S rfl rfl dZ rfl rfl hD pZ ((zBn (g := b92) (T := 56) (xs := [ptr d.d]) (s := 1) (m := 1) rfl (by simp [Value.oneCell']) oZ 1).src (S.stab.at mZ) rfl) rfl rfl rfl rfl rfl rfl (by simp only [maxLen]; omega) oZ ?_); clear E S a; intro a w v93 C93 E S hB93
   obtain ⟨ad93, c93, rfl⟩ := hB93.slice
   refine zd E ?_; clear E a; intro a E
   refine zp E (by first | exact zAc (q := 1) E rfl rfl rfl | exact zAd (q := 1) E rfl rfl rfl) ?_; clear E a; intro a E
   refine zAf rfl (zBa E S rfl rfl rfl rfl rfl rfl pZ (by first | exact Nat.le_of_ble_eq_true rfl | (simp; done) | (simp; omega)) ?_); clear E S a; intro a w E S; try dsimp only [List.set] at S
   refine wpList_nil ?_
   refine zAb hK ?_; clear hK K
   iterate 2 (refine wp_seq_k ?_; intro K hK)
   refine zAa ?_
   iterate 5 (refine zd E ?_; clear E a; intro a E)
   refine zBg E (t := 100) rfl ((by simp)) (fun hb100 => ?_)
   iterate 4 (refine zn E hb100 ?_; clear E a; intro a E)
   refine zp E (zAk E rfl rfl hb100 rfl) ?_; clear E a; intro a E
   refine wpList_nil ?_
   refine zAb hK ?_; clear hK K
   refine zAt E rfl rfl ?_
   refine wp_skip ?_
   refine zAb hK ?_; clear hK K
   refine wp_seq_k ?_; intro K hK
   refine zAa ?_
   iterate 3 (refine zd E ?_; clear E a; intro a E)
   refine zp E (by first | exact zAc (q := 2) E rfl rfl rfl | exact zAd (q := 2) E rfl rfl rfl) ?_; clear E a; intro a E
   iterate 2 (refine zd E ?_; clear E a; intro a E)
   refine zAf rfl (zBm (cells := [_]) E S rfl rfl dZ rfl rfl rfl rfl rfl dZ rfl ?_); clear E S a; intro a w b112 E S
   refine zAf rfl (zBl (by' := 8) E S rfl rfl dZ rfl rfl hL pZ ((zBn (g := b112) (T := 53) (xs := [ptr pl]) (s := 1) (m := 1) rfl (by simp [Value.oneCell']) oZ 1).src (S.stab.at mZ) rfl) rfl rfl rfl rfl rfl rfl (by simp only [maxLen]; omega) oZ ?_); clear E S a; intro a w v113 C113 E S hB113
   obtain ⟨ad113, c113, rfl⟩ := hB113.slice
   refine zd E ?_; clear E a; intro a E
   refine zp E (by first | exact zAc (q := 2) E rfl rfl rfl | exact zAd (q := 2) E rfl rfl rfl) ?_; clear E a; intro a E
   refine zAf rfl (zBa E S rfl rfl rfl rfl rfl rfl pZ (by first | exact Nat.le_of_ble_eq_true rfl | (simp; done) | (simp; omega)) ?_); clear E S a; intro a w E S; try dsimp only [List.set] at S
   refine wpList_nil ?_
   refine zAb hK ?_; clear hK K
   refine zAa ?_
   iterate 3 (refine zd E ?_; clear E a; intro a E)
   refine zp E (by first | exact zAc (q := 5) E rfl rfl rfl | exact zAd (q := 5) E rfl rfl rfl) ?_; clear E a; intro a E
   iterate 2 (refine zd E ?_; clear E a; intro a E)
   refine zAf rfl (zBm (cells := [_]) E S rfl rfl dZ rfl rfl rfl rfl rfl dZ rfl ?_); clear E S a; intro a w b122 E S
   refine zAf rfl (zBl (by' := 8) E S rfl rfl dZ rfl rfl hM pZ ((zBn (g := b122) (T := 78) (xs := [ptr pm]) (s := 1) (m := 1) rfl (by simp [Value.oneCell']) oZ 1).src (S.stab.at mZ) rfl) rfl rfl rfl rfl rfl rfl (by simp only [maxLen]; omega) oZ ?_); clear E S a; intro a w v123 C123 E S hB123
   obtain ⟨ad123, c123, rfl⟩ := hB123.slice
   refine zd E ?_; clear E a; intro a E
   refine zp E (by first | exact zAc (q := 5) E rfl rfl rfl | exact zAd (q := 5) E rfl rfl rfl) ?_; clear E a; intro a E
   refine zAf rfl (zBa E S rfl rfl rfl rfl rfl rfl pZ (by first | exact Nat.le_of_ble_eq_true rfl | (simp; done) | (simp; omega)) ?_); clear E S a; intro a w E S; try dsimp only [List.set] at S
   refine wpList_nil ?_
   refine zAq ?_
   refine zAb hK ?_; clear hK K
   refine zAa ?_
   refine zd E ?_; clear E a; intro a E
   refine zp E (zAy E rfl rfl rfl (w_in oZ)) ?_; clear E a; intro a E
   refine zd E ?_; clear E a; intro a E
   refine wpList_nil ?_
   refine zAn ?_
   exact ⟨_, by omega, i + 1, R2, Rq2, C2, Cq2, xs ++ [(pl, d.d)], ms ++ [(pm, i)], Lv ++ L, Dv ++ Lm, _, C93, _, C113, _, C123, rfl, by omega, ⟨hC2, hF2, by simp [hxl], by rw [hds2, hxd]; simp, by rw [lvs, List.map_append]; exact hLv.snoc (x := (pl, d.d)) hLl⟩, hFq2, hCq2, hRq2, by rw [List.map_append, hms, List.range_succ]; rfl, hDv.snoc (x := (pm, i)) hLm,
    by rw [List.length_append, List.map_append]; exact hB93, by rw [List.length_append, List.map_append]; exact hB113, by rw [List.length_append, List.map_append]; exact hB123, ((S.gather (A := Lv) (B := L) pZ pZ).gather (A := Dv) (B := Lm) pZ pZ).only sZ, E.keep (kE4 rfl rfl rfl rfl)⟩
  ·replace hb := Nrm.nrm hb
   refine wp_exit ?_
   refine zAl ?_; clear hK K
   refine zAl ?_
   refine zBi ?_
   refine zAb hK ?_; clear hK K
   refine wp_seq_k ?_; intro K hK
   obtain rfl : i = n := by omega
   obtain ⟨adL, cL, rfl⟩ := hL.slice
   obtain ⟨adM, cM, rfl⟩ := hM.slice
   have hml : ms.length = i := by have := congrArg List.length hms; simpa using this
   have hGl := hG.len
   refine zAa ?_
   iterate 2 (refine zd E ?_; clear E a; intro a E)
   refine zp E (by first | exact zAc (q := 2) E rfl rfl rfl | exact zAd (q := 2) E rfl rfl rfl) ?_; clear E a; intro a E
   refine zd E ?_; clear E a; intro a E
   refine zAg E rfl rfl dZ rfl Tryz.func31 rfl yZ rfl (pnew_ret p R C hG.rk xs 0 (hG.up oZ) oZ Lv hG.lv CLs _ hL.rd _ (S.hp.sel sZ)) ?_
   rintro v131 w ⟨t, vl, vk, CL, CK, rfl, hCL, hCK, hT⟩; clear E a; intro a E
   have S := S.call sZ hT; simp only [List.cons_append, List.nil_append] at S
   iterate 5 (refine zd E ?_; clear E a; intro a E)
   refine wpList_nil ?_
   refine zAb hK ?_; clear hK K
   refine wp_seq_k ?_; intro K hK
   refine zAa ?_
   iterate 2 (refine zd E ?_; clear E a; intro a E)
   refine zp E (by first | exact zAc (q := 5) E rfl rfl rfl | exact zAd (q := 5) E rfl rfl rfl) ?_; clear E a; intro a E
   refine zd E ?_; clear E a; intro a E
   refine zAg E rfl rfl dZ rfl Tryz.func32 rfl yZ rfl (dpnew_ret q Rq Cq hCq ms Dv hDv (fun m hm => by
    have hr : m.2 ∈ List.range i := by rw [← hms]; exact List.mem_map_of_mem hm
    have hlt : m.2 < Rq.ds.length := by rw [hFq.len]; simpa using hr
    exact ⟨_, List.getElem?_eq_getElem hlt, (hFq.ok _ (List.getElem_mem hlt)).2⟩) CM _ hM.rd oZ _ (S.hp.sel sZ)) ?_
   rintro v139 w ⟨tu, X, rfl, hT⟩; clear E a; intro a E
   have S := S.call sZ hT; simp only [List.cons_append, List.nil_append] at S
   iterate 5 (refine zd E ?_; clear E a; intro a E)
   refine wpList_nil ?_
   refine zAb hK ?_; clear hK K
   refine wp_seq_k ?_; intro K hK
   replace E := E.keep (e' := [(7, _), (17, _), (18, _), (19, _), (20, _)]) (kE5 rfl rfl rfl rfl rfl)
   refine zAa ?_
   iterate 3 (refine zd E ?_; clear E a; intro a E)
   refine zp E (by first | exact zAc (q := 3) E rfl rfl rfl | exact zAd (q := 3) E rfl rfl rfl) ?_; clear E a; intro a E
   refine zAf rfl (zBa E S rfl rfl rfl rfl rfl rfl pZ (by first | exact Nat.le_of_ble_eq_true rfl | (simp; done) | (simp; omega)) ?_); clear E S a; intro a w E S; try dsimp only [List.set] at S
   refine wpList_nil ?_
   refine zAb hK ?_; clear hK K
   refine wp_seq_k ?_; intro K hK
   refine zAa ?_
   iterate 3 (refine zd E ?_; clear E a; intro a E)
   refine zp E (by first | exact zAc (q := 6) E rfl rfl rfl | exact zAd (q := 6) E rfl rfl rfl) ?_; clear E a; intro a E
   refine zAf rfl (zBa E S rfl rfl rfl rfl rfl rfl pZ (by first | exact Nat.le_of_ble_eq_true rfl | (simp; done) | (simp; omega)) ?_); clear E S a; intro a w E S; try dsimp only [List.set] at S
   refine wpList_nil ?_
   refine zAb hK ?_; clear hK K
   iterate 2 (refine wp_seq_k ?_; intro K hK)
   refine zAa ?_
   iterate 4 (refine zd E ?_; clear E a; intro a E)
   refine zBg E (t := 153) rfl (rfl) (fun hb153 => ?_)
   iterate 5 (refine zyd E hb153 ?_; clear E a; intro a E)
   refine zp E (zAk E rfl rfl hb153 rfl) ?_; clear E a; intro a E
   refine wpList_nil ?_
   refine zAb hK ?_; clear hK K
   refine zAt E rfl (rfl) ?_
   refine wp_skip ?_
   refine zAb hK ?_; clear hK K
   refine wp_seq_k ?_; intro K hK
   refine zAa ?_
   iterate 6 (refine zd E ?_; clear E a; intro a E)
   refine wpList_nil ?_
   refine zAb hK ?_; clear hK K
   refine wp_ret ?_
   refine ret3 E rfl rfl rfl rfl ?_
   obtain ⟨adD, cD, rfl⟩ := hD.slice
   exact ⟨_, rfl, b24, p, t, R, C, xs, Lv, vl, vk, CL, CK, _, CD, _, CLs, _, _, _, _, rfl, hG, hCL, hCK, hD, hL, (S.only (Bs := [[(b24, _)], C, Lv, [(t, _)], CL, CK, CD, CLs]) sZ).tr⟩
end Go.Proofs.YtpjidiaekifmbaaGreatDoor
namespace Go.Proofs.YtpjidiaekifmbaaGreatDoor
open Go.Sl
set_option maxRecDepth 10000
section
variable (P : Nat) (R : Rk) (C : zAj) (hC : RkC P R C) (xs : List (Nat × Nat)) (k : Nat) (hU : Up R xs k)
include hC hU
theorem fail_in (x : Nat × Nat) (hx : x ∈ xs) (w0 : World) (H : Hp w0 [C]) : Ret Tryz.prog 17 #[ptr x.2] w0 fun _ w' => ∃ C', RkC P (R.fail (dkOf R x.2)) C' ∧ Trs w0 w' [C] [C'] := by
 obtain ⟨h1, h2⟩ := zCw (hU.has x hx)
 have := rk_fail P R C hC _ h1 w0 H
 rw [h2] at this; exact this
theorem corrupt_in (x : Nat × Nat) (hx : x ∈ xs) (at_ : Int) (v : Value) (mask : List UInt8) (D : zAj) (hD : Rd D 1 v mask.length (byt mask)) (w0 : World) (H : Hp w0 [C, D]) :
  Ret Tryz.prog 18 #[ptr x.2, .int .i64 at_, v] w0 fun u w' => u = .int .i64 (coE (dkOf R x.2).failed 41472 at_ mask) ∧ ∃ C', RkC P (R.corrupt (dkOf R x.2) at_ mask) C' ∧ Trs w0 w' [C, D] [C', D] := by
 obtain ⟨h1, h2⟩ := zCw (hU.has x hx)
 have := rk_corrupt P R C hC _ h1 at_ v mask D hD w0 H
 rw [h2, hU.pl x hx] at this; exact this
variable (hk : k ≤ 1000) (hx5 : xs.length ≤ 5) (hnd : (xs.map Prod.snd).Nodup) (Lv : zAj) (hLv : LvC (lvs xs) Lv) (t : Nat) (vl vk : Value) (CL : zAj) (hCL : Buf CL 53 1 vl xs.length ((lvs xs).map lv))
 (at_ : Int) (ha : -9223372036854775808 ≤ at_ ∧ at_ ≤ 9223372036854775807)
include hk hx5 hnd hLv hCL ha
variable (G : zAj) (hG : Tab [G] 2 shaK) (b : List UInt8) (hfit : fitsM 32 at_ b.length) (kind : Int) (hkd : kind = 1 ∨ kind = 2) (s : Fs)
include hG hfit hkd
end
end Go.Proofs.YtpjidiaekifmbaaGreatDoor
namespace Go.Proofs.YtpjidiaekifmbaaGreatDoor
open Go.Sl
set_option maxRecDepth 10000
theorem lies_rd {R : Rk} {xs : List (Nat × Nat)} {at_ : Nat} {l : List (List UInt8)} (hf : ∀ i, i < l.length → zFp R xs (at_ + i) = false) (h : Lies R xs at_ l l.length) : rdTo R xs at_ l.length = l := by
 refine List.ext_getElem (zDp ..) fun i h1 h2 => ?_
 simp only [rdTo, List.getElem_map, List.getElem_range]
 rw [hf i h2]
 simp only [Bool.false_eq_true, if_false]
 exact h i h2 h2
theorem lsTo_no {R : Rk} {xs : List (Nat × Nat)} {at_ : Nat} : ∀ {N : Nat}, (∀ i, i < N → zFp R xs (at_ + i) = false) → lsTo R xs at_ N = none
 | 0, _ => rfl
 | N + 1, h => by rw [lsTo, h N oZ]; exact lsTo_no fun i hi => h i oZ
theorem one_none {R : Rk} {xs : List (Nat × Nat)} (h : ∀ x, zFp R xs x = false) : zIt R xs := fun x y hx => by rw [h x] at hx; cases hx
theorem zFg {R : Rk} {xs : List (Nat × Nat)} (hw : 0 < xs.length) (h : ∀ y ∈ xs, (dkOf R y.2).failed = false) : ∀ x, zFp R xs x = false := fun x => h _ (zEg hw x).1
structure DirOk (R : Rk) (xs : List (Nat × Nat)) (at_ : Nat) (b : List UInt8) : Prop where
 well : ∀ y ∈ xs, (dkOf R y.2).failed = false
 blk : (blkF xs.length 0 (rdTo R xs at_ (layP xs.length b).length)).take b.length = b
theorem DirOk.good {R : Rk} {xs : List (Nat × Nat)} {at_ : Nat} {b : List UInt8} (h : DirOk R xs at_ b) (hw : 0 < xs.length) {kind : Int} {s : Fs} (hck : chkK kind s b = true) :
  ∀ col l, zKz R xs at_ (layP xs.length b).length b.length kind s col l → (blkF xs.length 0 l).take b.length = b := fun col l hl => by
 have hn : lsTo R xs at_ (layP xs.length b).length = none := lsTo_no fun i _ => zFg hw h.well _
 have hc := hl.2.2 hn (by rw [h.blk]; exact hck)
 rcases hl.2.1 with ⟨_, _, rfl⟩ | ⟨cn, _, hcn, _⟩
 ·exact h.blk
 ·omega
theorem DirOk.find {R : Rk} {xs : List (Nat × Nat)} {at_ : Nat} {b : List UInt8} (h : DirOk R xs at_ b) (hw : 0 < xs.length) {kind : Int} {s : Fs} (hck : chkK kind s b = true) :
  lsTo R xs at_ (layP xs.length b).length = none ∧ chkK kind s ((blkF xs.length 0 (rdTo R xs at_ (layP xs.length b).length)).take b.length) = true :=
 ⟨lsTo_no fun i _ => zFg hw h.well _, by rw [h.blk]; exact hck⟩
theorem DirOk.lies {R : Rk} {xs : List (Nat × Nat)} {at_ : Nat} {b : List UInt8} {l : List (List UInt8)} (hw : 0 < xs.length) (hf : ∀ y ∈ xs, (dkOf R y.2).failed = false) (hl : l.length = (layP xs.length b).length) (hb : (blkF xs.length 0 l).take b.length = b) (h : Lies R xs at_ l (layP xs.length b).length) : DirOk R xs at_ b :=
 ⟨hf, by rw [← hl] at h ⊢; rw [lies_rd (fun i _ => zFg hw hf _) h]; exact hb⟩
end Go.Proofs.YtpjidiaekifmbaaGreatDoor
namespace Go.Proofs.YtpjidiaekifmbaaGreatDoor
open Go.Sl
set_option maxRecDepth 10000
def abcB : List UInt8 := [97, 98, 99]
theorem chkK_self {kind : Int} (hk : kind = 1 ∨ kind = 2) (b : List UInt8) : chkK kind (sumK kind b).1 b = true := by
 unfold chkK
 rw [Fs.eqB_eq, decide_eq_true (sumK_err.2 hk)]; simp
end Go.Proofs.YtpjidiaekifmbaaGreatDoor
namespace Go.Proofs.YtpjidiaekifmbaaGreatDoor
open Go.Sl
set_option maxRecDepth 10000
theorem awake7_ret (G : zAj) (hG : Tab [G] 2 shaK) (w0 : World) (H : Hp w0 [G]) : Ret Tryz.prog 5 #[] w0 fun u w' => u = .bool true ∧ Trs w0 w' [G] [G] := by
 have S := St.begin H
 have habc : byt abcB = [.int .u8 97, .int .u8 98, .int .u8 99] := rfl
 refine zLj 157 Tryz.func5 rfl rfl ?_; intro a E
 refine wp_seq_k ?_; intro K hK
 refine zAa ?_
 refine zd E ?_; clear E a; intro a E
 refine wpList_nil ?_
 refine zAb hK ?_; clear hK K
 refine wp_seq_k ?_; intro K hK
 refine zAa ?_
 refine zAg E rfl rfl dZ rfl Tryz.func6 rfl yZ rfl (zIu 3 oZ _) ?_
 rintro v19 w ⟨x, p, t, R, C, xs, Lv, vl, vk, CL, CK, vD, CD, vL, CLs, v4, v5, v6, v7, rfl, hGk, hCL, hCK, hCD, hCLs, hT⟩; clear E a; intro a E
 have S := S.call sZ hT; simp only [List.cons_append, List.nil_append] at S; have hU := hGk.up oZ; have hlen := hGk.len; have hnd := hGk.nd; have hnf := fun x hx => (hGk.dk x hx).1; obtain ⟨hC, _, _, _, hLv⟩ := hGk
 obtain ⟨adD, cD, rfl⟩ := hCD.slice
 obtain ⟨gD, rfl⟩ := hCD.addr oZ
 obtain ⟨adl, cl, rfl⟩ := hCL.slice
 obtain ⟨adk, ck, rfl⟩ := hCK.slice
 have hw : 3 ≤ xs.length ∧ xs.length ≤ 5 := by omega
 have hb3 : 1 ≤ abcB.length ∧ abcB.length ≤ 1024 := by decide
 have hfit : zIh xs.length 32 2 abcB.length := by rw [hlen]; decide
 obtain ⟨l1, l2, l3⟩ := zFn hw hb3
 have hL2 : (layP xs.length abcB).length = 2 := by
  have : zFf xs.length abcB.length = 2 := by rw [hlen]; decide
  omega
 have hw0 : 0 < xs.length := by omega
 have hm0 : xs[0] ∈ xs := List.getElem_mem _
 have hm2 : xs[2] ∈ xs := List.getElem_mem _
 have hcell : (xs.map fun y => ptr y.2)[2]? = some (ptr xs[2].2) := by rw [List.getElem?_map, List.getElem?_eq_getElem oZ]; rfl
 have hne : xs[0].2 ≠ xs[2].2 := fun q => by
  have h1 : (xs.map Prod.snd)[0]'(by simp; omega) = (xs.map Prod.snd)[2]'(by simp; omega) := by simpa using q
  have := (List.getElem_inj hnd).1 h1
  omega
 iterate 7 (refine zd E ?_; clear E a; intro a E)
 refine wpList_nil ?_
 refine zAb hK ?_; clear hK K
 iterate 2 (refine wp_seq_k ?_; intro K hK)
 refine zAa ?_
 iterate 2 (refine zd E ?_; clear E a; intro a E)
 refine wpList_nil ?_
 refine zAb hK ?_; clear hK K
 refine zAt E rfl (rfl) ?_
 refine wp_skip ?_
 refine zAb hK ?_; clear hK K
 refine wp_seq_k ?_; intro K hK
 refine zAa ?_
 iterate 2 (refine zd E ?_; clear E a; intro a E)
 refine zp E (by first | exact zAc (q := 3) E rfl rfl rfl | exact zAd (q := 3) E rfl rfl rfl) ?_; clear E a; intro a E
 refine zd E ?_; clear E a; intro a E
 refine zAf rfl (zBm (cells := [_, _, _]) E S rfl rfl dZ rfl rfl rfl rfl rfl dZ rfl ?_); clear E S a; intro a w b29 E S
 refine zAf rfl (wp_mark E S rfl rfl rfl dZ rfl rfl rfl pZ ?_); clear E S a; intro a w E S
 refine zAg E rfl rfl dZ rfl Tryz.func8 rfl yZ rfl (zIs p R C hC xs 0 hU oZ hw hnd Lv hLv t adl cl _ CL hCL oZ hnf 2 _ abcB [(b29, mcel (byt abcB) 5)] (rd_mark abcB dZ) 5 oZ hfit hb3 oZ _ (S.hp.sel sZ)) ?_
 rintro v31 w ⟨rfl, R1, C1, Lv1, hC1, hLv1, hU1, hW1, hLi, hT⟩; clear E a; intro a E
 have S := S.call sZ hT; simp only [List.cons_append, List.nil_append] at S
 refine zd E ?_; clear E a; intro a E
 refine wpList_nil ?_
 refine zAb hK ?_; clear hK K
 refine wp_seq_k ?_; intro K hK
 refine zAa ?_
 iterate 2 (refine zd E ?_; clear E a; intro a E)
 refine zp E (by first | exact zAc (q := 1) E rfl rfl rfl | exact zAd (q := 1) E rfl rfl rfl) ?_; clear E a; intro a E
 refine zd E ?_; clear E a; intro a E
 refine zp E (zAz (i := 2) E rfl rfl rfl rfl rfl rfl oZ) ?_; clear E a; intro a E
 refine zp E (zAo E rfl rfl rfl (hCD.rd.cells (S.stab.at mZ) rfl 2 _ hcell)) ?_; clear E a; intro a E
 refine zAf rfl (zBm (cells := [_]) E S rfl rfl dZ rfl rfl rfl rfl rfl dZ rfl ?_); clear E S a; intro a w b38 E S
 refine zAg E rfl rfl dZ rfl Tryz.func18 rfl yZ rfl (corrupt_in p R1 C1 hC1 xs 96 hU1 xs[2] hm2 276 _ [1] [(b38, _)] (zBn (T := 5) (xs := byt [1]) (m := 1) (s := 1) rfl (by simp [byt, Value.oneCell']) oZ 1) _ (S.hp.sel sZ)) ?_
 rintro v39 w ⟨rfl, C2, hC2, hT⟩; clear E a; intro a E
 have S := S.call2 sZ hT; obtain ⟨hU2, hK2⟩ := hU1.corrupt hm2 276 [1]; rw [show coE (dkOf R1 xs[2].2).failed 41472 276 [1] = 0 by rw [hW1 _ hm2]; rfl] at E
 refine zd E ?_; clear E a; intro a E
 refine wpList_nil ?_
 refine zAb hK ?_; clear hK K
 refine wp_seq_k ?_; intro K hK
 replace E := E.keep (e' := [(0, _), (1, _), (4, _), (5, _)]) (kE4 rfl rfl rfl rfl)
 refine zAa ?_
 iterate 2 (refine zd E ?_; clear E a; intro a E)
 refine zp E (by first | exact zAc (q := 1) E rfl rfl rfl | exact zAd (q := 1) E rfl rfl rfl) ?_; clear E a; intro a E
 refine zd E ?_; clear E a; intro a E
 refine zp E (zAz (i := 2) E rfl rfl rfl rfl rfl rfl oZ) ?_; clear E a; intro a E
 refine zp E (zAo E rfl rfl rfl (hCD.rd.cells (S.stab.at mZ) rfl 2 _ hcell)) ?_; clear E a; intro a E
 refine zAf rfl (zBm (cells := [_]) E S rfl rfl dZ rfl rfl rfl rfl rfl dZ rfl ?_); clear E S a; intro a w b46 E S
 refine zAg E rfl rfl dZ rfl Tryz.func18 rfl yZ rfl (corrupt_in p (R1.corrupt (dkOf R1 xs[2].2) 276 [1]) C2 hC2 xs 96 hU2 xs[2] hm2 274 _ [1] [(b46, _)] (zBn (T := 5) (xs := byt [1]) (m := 1) (s := 1) rfl (by simp [byt, Value.oneCell']) oZ 1) _ (S.hp.sel sZ)) ?_
 rintro v47 w ⟨rfl, C3, hC3, hT⟩; clear E a; intro a E
 have S := S.call2 sZ hT; obtain ⟨hU3, hK3⟩ := hU2.corrupt hm2 274 [1]; rw [show coE (dkOf (R1.corrupt (dkOf R1 xs[2].2) 276 [1]) xs[2].2).failed 41472 274 [1] = 0 by rw [(hK2 _ hm2).1.trans (hW1 _ hm2)]; rfl] at E
 refine zd E ?_; clear E a; intro a E
 refine wpList_nil ?_
 refine zAb hK ?_; clear hK K
 refine wp_seq_k ?_; intro K hK
 obtain ⟨R3, hR3⟩ : ∃ R3, R3 = ((R1.corrupt (dkOf R1 xs[2].2) 276 [1]).corrupt (dkOf (R1.corrupt (dkOf R1 xs[2].2) 276 [1]) xs[2].2) 274 [1]) := ⟨_, rfl⟩
 rw [← hR3] at hC3 hU3 hK3
 have hd3 : dkOf R3 xs[0].2 = dkOf R1 xs[0].2 := by rw [(hK3 _ hm0).2 hne, (hK2 _ hm0).2 hne]
 have hck : chkK 1 (zEt abcB) abcB = true := chkK_self (.inl rfl) abcB
 have hf3 : ∀ x ∈ xs, (dkOf R3 x.2).failed = false := fun x hx => ((hK3 x hx).1.trans (hK2 x hx).1).trans (hW1 x hx)
 have hdir : DirOk R3 xs 2 abcB := by
  refine ⟨hf3, ?_⟩
  have hs3 : secP R3 xs 3 = secP R1 xs 3 := by
   have ho : onX xs 3 = xs[0] := by simp [onX, hlen, List.getD_eq_getElem?_getD]
   unfold secP; rw [ho, hd3]
  have hx0 := zFg hw0 hf3
  have ht := zFw hw hb3
  have h1 := hLi 1 oZ oZ
  rw [hL2]
  have e1 : rdTo R3 xs 2 2 = [secP R3 xs 2, secP R3 xs 3] := by simp [rdTo, hx0, List.range_succ]
  obtain ⟨x0, x1, hxx⟩ : ∃ x0 x1, layP xs.length abcB = [x0, x1] := by
   match h : layP xs.length abcB, hL2 with
   | [x0, x1], _ => exact ⟨x0, x1, rfl⟩
  have h1' : secP R1 xs 3 = x1 := by
   have : (layP xs.length abcB)[1] = x1 := by simp [hxx]
   rw [← this]; exact h1
  rw [e1, hs3, h1']
  rw [hxx] at ht
  rw [hlen] at ht ⊢
  exact ht
 refine zAa ?_
 refine zAf rfl (zBm (cells := [_, _, _]) E S rfl rfl dZ rfl rfl rfl rfl rfl dZ rfl ?_); clear E S a; intro a w b48 E S
 refine zAf rfl (wp_mark E S rfl rfl rfl dZ rfl rfl rfl pZ ?_); clear E S a; intro a w E S
 refine zAg E rfl rfl dZ rfl Tryz.func19 rfl yZ rfl (zId [(b48, mcel (byt abcB) 5)] _ abcB (rd_mark abcB dZ) dZ _ (S.hp.sel sZ)) ?_
 rintro v50 w ⟨rfl, hT⟩; clear E a; intro a E
 have S := S.call1 sZ hT
 refine zAf rfl (zBs E S rfl rfl dZ rfl rfl rfl ?_); clear E S a; intro a w b7 E S
 refine zAf rfl (zBr E S rfl rfl rfl rfl (by simp [Value.oneCell']) rfl pZ (by simp) ?_); clear E S a; intro a w E S; simp only [List.take_succ_cons, List.take_zero, List.drop_succ_cons, List.drop_zero, List.cons_append, List.nil_append, List.append_nil, List.length_cons, List.length_nil, Nat.zero_add, Nat.add_zero] at S
 refine wpList_nil ?_
 refine zAb hK ?_; clear hK K
 refine wp_seq_k ?_; intro K hK
 refine zAw S (.ofL [(0, 0), (1, 0), (2, 0), (3, 0), (4, 0), (5, 3), (6, 2), (7, 2), (8, 2), (9, 2), (10, 2)]) yZ yZ ?_
 clear S; intro w S
 iterate 2 (refine zmd E ?_; clear E a; intro a E)
 refine zm E rfl (fun w h => by first | exact zAc (q := 3) E rfl rfl rfl | exact zAd (q := 3) E rfl rfl rfl) ?_; clear E a; intro a E
 refine zmd E ?_; clear E a; intro a E
 refine zm E rfl (fun w h => zBf (vs := [_, _, _, _]) E rfl rfl rfl (h.one mZ) rfl rfl) ?_; clear E a; intro a E
 refine zDd E rfl rfl rfl dZ rfl Tryz.func13 rfl yZ rfl (pRead_good p R3 C3 hC3 xs 96 hU3 oZ hw hnd Lv1 hLv1 t adl cl _ CL hCL (one_none (zFg hw0 hf3)) G hG 2 abcB hb3 oZ 1 (.inl rfl) (zEt abcB) (.inl (hdir.find hw0 hck)) (hdir.good hw0 hck) _ (S.hp.sel sZ)) ?_
 rintro v57 w ⟨v8, Cg, R4, C4, Lv4, rfl, hRd, hC4, hLv4, hU4, hf4, hs4, hT⟩; clear E a; intro a E
 have S := S.call sZ hT; simp only [List.cons_append, List.nil_append] at S
 obtain ⟨ad8, c8, rfl⟩ := hRd.slice
 have hf4' : ∀ x ∈ xs, (dkOf R4 x.2).failed = false := fun x hx => (hf4 x hx).trans (hf3 x hx)
 have hdir4 : DirOk R4 xs 2 abcB := by
  rcases hs4 with ⟨rfl, _⟩ | ⟨_, l, q1, q2, q3, q4⟩
  ·exact hdir
  ·exact DirOk.lies hw0 hf4' q1 q3 q4
 refine zBp E rfl rfl rfl dZ (fun w => zCp E rfl rfl) ?_; clear E a; intro a E
 iterate 2 (refine zBp E rfl rfl rfl dZ (fun w => zDw E rfl rfl rfl) ?_; clear E a; intro a E)
 iterate 2 (refine zBp E rfl rfl rfl dZ (fun w => zCi E rfl rfl) ?_; clear E a; intro a E)
 refine zBd ?_
 refine zAb hK ?_; clear hK K
 refine wp_seq_k ?_; intro K hK
 replace E := E.keep (e' := [(0, _), (1, _), (4, _), (5, _), (6, _), (7, _), (8, _), (9, _)]) (kE8 rfl rfl rfl rfl rfl rfl rfl rfl)
 refine zAw S (.ofL [(0, 0), (1, 0), (2, 0), (3, 0), (4, 0), (5, 3), (6, 2), (7, 2), (8, 2), (9, 2), (10, 2)]) yZ yZ ?_
 clear S; intro w S
 iterate 2 (refine zmd E ?_; clear E a; intro a E)
 refine zm E rfl (fun w h => by first | exact zAc (q := 3) E rfl rfl rfl | exact zAd (q := 3) E rfl rfl rfl) ?_; clear E a; intro a E
 refine zmd E ?_; clear E a; intro a E
 refine zm E rfl (fun w h => zBf (vs := [_, _, _, _]) E rfl rfl rfl (h.one mZ) rfl rfl) ?_; clear E a; intro a E
 refine zDd E rfl rfl rfl dZ rfl Tryz.func14 rfl yZ rfl (pScrub_good p R4 C4 hC4 xs (96 + 96) hU4 oZ hw hnd Lv4 hLv4 t adl cl _ CL hCL (one_none (zFg hw0 hf4')) G hG 2 abcB hb3 oZ 1 (.inl rfl) (zEt abcB) (.inl (hdir4.find hw0 hck)) (hdir4.good hw0 hck) _ (S.hp.sel sZ)) ?_
 rintro v66 w ⟨n9, R5, C5, Lv5, rfl, hC5, hLv5, hU5, hf5, hs5, hT⟩; clear E a; intro a E
 have S := S.call sZ hT; simp only [List.cons_append, List.nil_append] at S
 have hf5' : ∀ x ∈ xs, (dkOf R5 x.2).failed = false := fun x hx => (hf5 x hx).trans (hf4' x hx)
 refine zBp E rfl rfl rfl dZ (fun w => zCp E rfl rfl) ?_; clear E a; intro a E
 iterate 2 (refine zBp E rfl rfl rfl dZ (fun w => zDw E rfl rfl rfl) ?_; clear E a; intro a E)
 iterate 2 (refine zBp E rfl rfl rfl dZ (fun w => zCi E rfl rfl) ?_; clear E a; intro a E)
 refine zBd ?_
 refine zAb hK ?_; clear hK K
 refine wp_seq_k ?_; intro K hK
 refine zAa ?_
 iterate 2 (refine zd E ?_; clear E a; intro a E)
 refine zp E (by first | exact zAc (q := 3) E rfl rfl rfl | exact zAd (q := 3) E rfl rfl rfl) ?_; clear E a; intro a E
 refine zd E ?_; clear E a; intro a E
 refine zAg E rfl rfl dZ rfl Tryz.func20 rfl yZ rfl (pFlush_ret p R5 C5 hC5 xs _ hU5 hw Lv5 hLv5 t adl cl _ CL hCL hf5' _ (S.hp.sel sZ)) ?_
 rintro v73 w ⟨rfl, C6, Lv6, hC6, hLv6, hT⟩; clear E a; intro a E
 have S := S.call sZ hT; simp only [List.cons_append, List.nil_append] at S
 refine zd E ?_; clear E a; intro a E
 refine wpList_nil ?_
 refine zAb hK ?_; clear hK K
 refine wp_seq_k ?_; intro K hK
 replace E := E.keep (e' := [(0, _), (1, _), (4, _), (5, _), (6, _), (8, _), (9, _), (10, _), (11, _), (12, _)]) (kE10 rfl rfl rfl rfl rfl rfl rfl rfl rfl rfl)
 refine zAa ?_
 iterate 2 (refine zd E ?_; clear E a; intro a E)
 refine zp E (by first | exact zAc (q := 3) E rfl rfl rfl | exact zAd (q := 3) E rfl rfl rfl) ?_; clear E a; intro a E
 refine zd E ?_; clear E a; intro a E
 refine zp E (zBt (cells := [_, _]) E rfl rfl rfl) ?_; clear E a; intro a E
 refine zAg E rfl rfl dZ rfl Tryz.func21 rfl yZ rfl (pbehind_ret t adl xs.length cl adk ck hw CK _ hCK 1 oZ (by rw [List.getElem?_replicate, if_pos oZ]) 2 4 oZ oZ oZ _ (S.hp.sel sZ)) ?_
 rintro v79 w ⟨rfl, pb, CK2, hCK2, hT⟩; clear E a; intro a E
 have S := S.call sZ hT; simp only [List.cons_append, List.nil_append] at S
 refine zd E ?_; clear E a; intro a E
 refine wpList_nil ?_
 refine zAb hK ?_; clear hK K
 refine wp_seq_k ?_; intro K hK
 refine zAa ?_
 iterate 2 (refine zd E ?_; clear E a; intro a E)
 refine zp E (by first | exact zAc (q := 3) E rfl rfl rfl | exact zAd (q := 3) E rfl rfl rfl) ?_; clear E a; intro a E
 refine zd E ?_; clear E a; intro a E
 refine zAg E rfl rfl dZ rfl Tryz.func22 rfl yZ rfl (placks_ret t adl xs.length cl adk ck hw CK2 _ hCK2 1 oZ pb (by rw [List.getElem?_set_self (by rw [List.length_replicate]; omega)]) 2 4 _ (S.hp.sel sZ)) ?_
 rintro v85 w ⟨rfl, hT⟩; clear E a; intro a E
 have S := S.call sZ hT; simp only [List.cons_append, List.nil_append] at S
 iterate 3 (refine zd E ?_; clear E a; intro a E)
 refine zAf rfl (zBs E S rfl rfl dZ rfl rfl rfl ?_); clear E S a; intro a w b14 E S
 refine zAf rfl (zBr E S rfl rfl rfl rfl (by simp [Value.oneCell']) rfl pZ (by simp) ?_); clear E S a; intro a w E S; simp only [List.take_succ_cons, List.take_zero, List.drop_succ_cons, List.drop_zero, List.cons_append, List.nil_append, List.append_nil, List.length_cons, List.length_nil, Nat.zero_add, Nat.add_zero] at S
 refine zd E ?_; clear E a; intro a E
 refine wpList_nil ?_
 refine zAb hK ?_; clear hK K
 refine wp_seq_k ?_; intro K hK
 replace E := E.keep (e' := [(0, _), (1, _), (4, _), (5, _), (6, _), (8, _), (9, _), (10, _), (11, _), (12, _), (13, _), (14, _), (15, _)]) (kE13 rfl rfl rfl rfl rfl rfl rfl rfl rfl rfl rfl rfl rfl)
 refine zAa ?_
 iterate 2 (refine zd E ?_; clear E a; intro a E)
 refine zp E (by first | exact zAc (q := 3) E rfl rfl rfl | exact zAd (q := 3) E rfl rfl rfl) ?_; clear E a; intro a E
 refine zd E ?_; clear E a; intro a E
 refine zAg E rfl rfl dZ rfl Tryz.func23 rfl yZ rfl (pwhole_ret t adl xs.length cl adk ck hw CK2 _ hCK2 1 oZ _ (S.hp.sel sZ)) ?_
 rintro v92 w ⟨rfl, CK3, hCK3, hT⟩; clear E a; intro a E
 have S := S.call sZ hT; simp only [List.cons_append, List.nil_append] at S
 refine zd E ?_; clear E a; intro a E
 refine wpList_nil ?_
 refine zAb hK ?_; clear hK K
 refine wp_seq_k ?_; intro K hK
 refine zAa ?_
 iterate 3 (refine zd E ?_; clear E a; intro a E)
 refine zCb E (t := 95) rfl (rfl) (fun hb95 => ?_)
 iterate 2 (refine zyd E hb95 ?_; clear E a; intro a E)
 refine zp E (zAi E rfl rfl hb95 rfl) ?_; clear E a; intro a E
 refine zd E ?_; clear E a; intro a E
 refine zCb E (t := 99) rfl (rfl) (fun hb99 => ?_)
 iterate 2 (refine zyd E hb99 ?_; clear E a; intro a E)
 refine zp E (zAi E rfl rfl hb99 rfl) ?_; clear E a; intro a E
 refine zd E ?_; clear E a; intro a E
 refine zCb E (t := 103) rfl (rfl) (fun hb103 => ?_)
 iterate 2 (refine zyd E hb103 ?_; clear E a; intro a E)
 refine zp E (zAi E rfl rfl hb103 rfl) ?_; clear E a; intro a E
 refine zd E ?_; clear E a; intro a E
 refine zCb E (t := 107) rfl (rfl) (fun hb107 => ?_)
 iterate 2 (refine zyd E hb107 ?_; clear E a; intro a E)
 refine zp E (zAi E rfl rfl hb107 rfl) ?_; clear E a; intro a E
 refine zd E ?_; clear E a; intro a E
 refine zCb E (t := 111) rfl (rfl) (fun hb111 => ?_)
 iterate 2 (refine zyd E hb111 ?_; clear E a; intro a E)
 refine zp E (zAi E rfl rfl hb111 rfl) ?_; clear E a; intro a E
 refine zd E ?_; clear E a; intro a E
 refine zCb E (t := 115) rfl (rfl) (fun hb115 => ?_)
 iterate 2 (refine zyd E hb115 ?_; clear E a; intro a E)
 refine zp E (zAi E rfl rfl hb115 rfl) ?_; clear E a; intro a E
 refine zd E ?_; clear E a; intro a E
 refine zCb E (t := 119) rfl (rfl) (fun hb119 => ?_)
 iterate 2 (refine zyd E hb119 ?_; clear E a; intro a E)
 refine zp E (zAi E rfl rfl hb119 rfl) ?_; clear E a; intro a E
 refine zd E ?_; clear E a; intro a E
 refine wpList_nil ?_
 refine zAb hK ?_; clear hK K
 refine wp_seq_k ?_; intro K hK
 replace E := E.keep (e' := [(0, _), (1, _), (8, _), (10, _), (14, _), (15, _), (17, _)]) (kE7 rfl rfl rfl rfl rfl rfl rfl)
 refine zAa ?_
 iterate 2 (refine zd E ?_; clear E a; intro a E)
 refine zCb E (t := 124) rfl (rfl) (fun hb124 => ?_)
 refine zyd E hb124 ?_; clear E a; intro a E
 refine zy E hb124 (zCc E rfl rfl rfl rfl rfl (sl_of Cg (b := abcB) hRd rfl rfl) (S.stab.at mZ)) ?_; clear E a; intro a E
 refine zyd E hb124 ?_; clear E a; intro a E
 refine zp E (zAi E rfl rfl hb124 rfl) ?_; clear E a; intro a E
 refine zd E ?_; clear E a; intro a E
 refine zCb E (t := 129) rfl (rfl) (fun hb129 => ?_)
 iterate 2 (refine zyd E hb129 ?_; clear E a; intro a E)
 refine zp E (zAi E rfl rfl hb129 rfl) ?_; clear E a; intro a E
 refine zd E ?_; clear E a; intro a E
 refine zCb E (t := 133) rfl ((decide_eq_true oZ)) (fun hb133 => ?_)
 refine zyd E hb133 ?_; clear E a; intro a E
 refine zp E (zAi E rfl rfl hb133 rfl) ?_; clear E a; intro a E
 refine zd E ?_; clear E a; intro a E
 refine zCb E (t := 136) rfl (rfl) (fun hb136 => ?_)
 refine zy E hb136 (zBf (vs := [_, _]) E rfl rfl rfl (S.get pZ) rfl rfl) ?_; clear E a; intro a E
 refine zy E hb136 (zBt (cells := [_, _]) E rfl rfl rfl) ?_; clear E a; intro a E
 refine zy E hb136 (by first | exact zKh E rfl rfl rfl rfl yZ yZ rfl rfl rfl | exact zIz E rfl rfl rfl rfl yZ yZ rfl) ?_; clear E a; intro a E
 refine zp E (zAi E rfl rfl hb136 rfl) ?_; clear E a; intro a E
 refine zd E ?_; clear E a; intro a E
 refine zCb E (t := 141) rfl (rfl) (fun hb141 => ?_)
 iterate 2 (refine zyd E hb141 ?_; clear E a; intro a E)
 refine zy E hb141 (by first | exact zAc (q := 3) E rfl rfl rfl | exact zAd (q := 3) E rfl rfl rfl) ?_; clear E a; intro a E
 refine zyd E hb141 ?_; clear E a; intro a E
 refine zBy E rfl rfl rfl rfl hb141 ?_; refine zCe E rfl dZ rfl Tryz.func10 rfl yZ rfl (zGu t adl xs.length cl _ 32 _ mZ hw 1 _ S.hp) ?_
 rintro v146 w ⟨rfl, hT⟩; clear E a; intro a E
 have S := S.all hT; rw [hlen, show zFf 3 1 = 2 by decide] at E
 refine zyd E hb141 ?_; clear E a; intro a E
 refine zp E (zAi E rfl rfl hb141 rfl) ?_; clear E a; intro a E
 refine zd E ?_; clear E a; intro a E
 refine zCb E (t := 149) rfl (rfl) (fun hb149 => ?_)
 iterate 2 (refine zyd E hb149 ?_; clear E a; intro a E)
 refine zy E hb149 (by first | exact zAc (q := 3) E rfl rfl rfl | exact zAd (q := 3) E rfl rfl rfl) ?_; clear E a; intro a E
 refine zyd E hb149 ?_; clear E a; intro a E
 refine zBy E rfl rfl rfl rfl hb149 ?_; refine zCe E rfl dZ rfl Tryz.func9 rfl yZ rfl (zIj t adl xs.length cl _ 32 _ mZ hw oZ _ S.hp) ?_
 rintro v154 w ⟨rfl, hT⟩; clear E a; intro a E
 have S := S.all hT; rw [hlen] at E
 refine zyd E hb149 ?_; clear E a; intro a E
 refine zp E (zAi E rfl rfl hb149 rfl) ?_; clear E a; intro a E
 refine zd E ?_; clear E a; intro a E
 refine wpList_nil ?_
 refine zAb hK ?_; clear hK K
 refine wp_ret ?_
 refine ret1 E rfl rfl ?_
 exact ⟨_, rfl, rfl, (S.only (Bs := [G]) sZ).tr⟩
end Go.Proofs.YtpjidiaekifmbaaGreatDoor
namespace Go.Sl
theorem zLi {row : List (List UInt8)} {m : Nat} (hm : m < row.length) : xall (row.take (m + 1)) = xr (xall (row.take m)) row[m] := by
 rw [← List.take_append_getElem hm, xall_snoc]
section
variable {w at_ : Nat} {ss : List (List UInt8)}
end
end Go.Sl
namespace Go.Sl
open Go.ChangeShapes Go.WideShapes Go.ChangeAt Go.RowKit Go.ChangeMaps
def old (w : World) : zAj := w.heap.toList.zipIdx.map fun x => (x.2, x.1)
theorem mem_old {w : World} {b : Nat} {o : Obj} (h : w.heap[b]? = some o) : (b, o) ∈ old w := by
 refine List.mem_map.2 ⟨(o, b), ?_, rfl⟩
 rw [List.mem_zipIdx_iff_getElem?]
 simpa using h
theorem old_own (w : World) : Own w (old w) := by
 refine ⟨?_, fun x hx => ?_⟩
 ·have : (old w).map (·.1) = List.range' 0 w.heap.toList.length := by simp [old, Function.comp_def]
  rw [this]; exact List.nodup_range'
 ·obtain ⟨y, hy, rfl⟩ := List.mem_map.1 hx
  rw [List.mem_zipIdx_iff_getElem?] at hy
  simpa using hy
theorem hp_old (w : World) : Hp w [old w] := by simpa [Hp] using old_own w
theorem below_old {w w' : World} {Bs : List zAj} (h : Trs w w' [old w] (old w :: Bs)) : Below w.heap.size w w' :=
 ⟨h.os, h.tape, h.output, h.size, fun k hk => by
  have e : w.heap[k]? = some w.heap[k] := Array.getElem?_eq_getElem hk
  rw [e]
  have h1 := h.own [] (by simpa using old_own w)
  exact h1.2 (k, w.heap[k]) (by simp [mem_old e])⟩
def Dec {H : Type} (enc : TypeId × Value → H) (P : Program) (w : World) (e : TypeId) (s : Nat) {α : Type} (lay : α → List Value) (good : α → Prop) : Prop :=
 ∀ n cs x, DataW.trod enc P w 0 (fun _ => true) true n e cs = some x → cs.length = s → (x.1.weights P e).all (· ≤ reachBytes) = true → ∃ a, cs = lay a ∧ good a
section
variable {H : Type} {enc : TypeId × Value → H} {P : Program} {w : World} {t e : TypeId} {s : Nat} {α : Type} {lay : α → List Value} {good : α → Prop}
theorem Dec.imp {good' : α → Prop} (h : Dec enc P w e s lay good) (k : ∀ a, good a → good' a) : Dec enc P w e s lay good' := fun n cs x h1 h2 h3 => by
 obtain ⟨a, h4, h5⟩ := h n cs x h1 h2 h3
 exact ⟨a, h4, k a h5⟩
theorem Dec.map {β : Type} {lay' : β → List Value} {good' : β → Prop} (h : Dec enc P w e s lay good) (k : ∀ a, good a → ∃ b, lay a = lay' b ∧ good' b) : Dec enc P w e s lay' good' := fun n cs x h1 h2 h3 => by
 obtain ⟨a, h4, h5⟩ := h n cs x h1 h2 h3
 obtain ⟨b, h6, h7⟩ := k a h5
 exact ⟨b, h4.trans h6, h7⟩
theorem dec_int {k : IntKind} (ht : P.underlying t = some (.int k)) : Dec enc P w t 1 (fun z => [.int k z]) (fun z => (Lit.int k z).wf = true) := fun n cs x h _ _ => by
 obtain ⟨z, h1, _, h2⟩ := DataW.trod_int ht h
 exact ⟨z, h1, h2⟩
theorem dec_i64 (ht : P.underlying t = some (.int .i64)) : Dec enc P w t 1 (fun z => [.int .i64 z]) (fun z => -9223372036854775808 ≤ z ∧ z ≤ 9223372036854775807) :=
 (dec_int ht).imp fun z hz => by simpa [Lit.wf, IntKind.min, IntKind.max, IntKind.signed, IntKind.bits] using hz
theorem dec_u8 (ht : P.underlying t = some (.int .u8)) : Dec enc P w t 1 (fun b : UInt8 => [.int .u8 b.toNat]) (fun _ => True) :=
 (dec_int ht).map fun z hz => by
  have hz : 0 ≤ z ∧ z ≤ 255 := by simpa [Lit.wf, IntKind.min, IntKind.max, IntKind.signed, IntKind.bits] using hz
  refine ⟨UInt8.ofNat z.toNat, ?_, trivial⟩
  have : (UInt8.ofNat z.toNat).toNat = z.toNat := by simp; omega
  rw [this, Int.toNat_of_nonneg hz.1]
theorem zHj : ∀ {ds : List (DataW H)} {d : DataW H}, d ∈ ds → ∀ n ∈ d.weights P e, n ∈ DataW.weightsAll P e ds
 | d0 :: ds, d, hd, n, hn => by
  simp only [DataW.weightsAll, List.mem_append]
  rcases List.mem_cons.1 hd with rfl | hd
  ·exact .inl hn
  ·exact .inr (zHj hd n hn)
 | [], _, hd, _, _ => by cases hd
theorem list_of {n : Nat} {p : Nat → α → Prop} (h : ∀ i, i < n → ∃ a, p i a) : ∃ asx : List α, asx.length = n ∧ ∀ i a, asx[i]? = some a → p i a := by
 induction n with
 | zero => exact ⟨[], rfl, by simp⟩
 | succ n ih =>
  obtain ⟨asx, h1, h2⟩ := ih (fun i hi => h i oZ)
  obtain ⟨a, ha⟩ := h n oZ
  refine ⟨asx ++ [a], by simp [h1], fun i b hb => ?_⟩
  by_cases hi : i < n
  ·rw [List.getElem?_append_left oZ] at hb; exact h2 i b hb
  ·rw [List.getElem?_append_right oZ] at hb
   have : i = n := by
    have := (List.getElem?_eq_some_iff.1 hb).1
    simp at this; omega
   subst this
   simp [h1] at hb
   exact hb ▸ ha
theorem flat_get {asx : List α} (hl : ∀ a ∈ asx, (lay a).length = s) {l : Array Value} {off : Nat} : ∀ (k : Nat), (∀ i a, asx[i]? = some a → ∀ j v, (lay a)[j]? = some v → l[off + (k + i) * s + j]? = some v) →
  ∀ i u, (asx.flatMap lay)[i]? = some u → l[off + k * s + i]? = some u := by
 induction asx with
 | nil => intro k _ i u h; simp at h
 | cons a r ih =>
  intro k h i u hu
  rw [List.flatMap_cons] at hu
  have ha := hl a (List.mem_cons_self ..)
  by_cases hi : i < s
  ·rw [List.getElem?_append_left oZ] at hu
   exact h 0 a rfl i u hu
  ·rw [List.getElem?_append_right oZ, ha] at hu
   have := ih (fun b hb => hl b (List.mem_cons_of_mem _ hb)) (k + 1) (fun i b hb j v hv => by
    have := h (i + 1) b (by simpa using hb) j v hv
    rwa [show k + 1 + i = k + (i + 1) by omega]) (i - s) u hu
   rw [Nat.succ_mul] at this
   rwa [show off + (k * s + s) + (i - s) = off + k * s + i by omega] at this
theorem flat_length {asx : List α} (hl : ∀ a ∈ asx, (lay a).length = s) : (asx.flatMap lay).length = asx.length * s := by
 induction asx with
 | nil => simp
 | cons a r ih => rw [List.flatMap_cons, List.length_append, ih (fun b hb => hl b (List.mem_cons_of_mem _ hb)), hl a (List.mem_cons_self ..), List.length_cons, Nat.succ_mul, Nat.add_comm]
def OldS (w : World) (s sz : Nat) (lay : α → List Value) (good : α → Prop) (x : Value × List α) : Prop :=
 ∃ ad c, x.1 = .slice ad x.2.length c ∧ x.2.length ≤ c ∧ c * sz ≤ 140737488351232 ∧ Rd (old w) s x.1 x.2.length (x.2.flatMap lay) ∧ ∀ a ∈ x.2, good a
theorem dec_slice (ht : P.underlying t = some (.slice e)) (hs : P.cellsOf e = s) (h0 : 0 < s) {sz : Nat} (hz : P.bytesOf e = sz) (hd : Dec enc P w e s lay good) (one : ∀ a, good a → ∀ u ∈ lay a, u.oneCell' = true) :
  Dec enc P w t 1 (fun x : Value × List α => [x.1]) (OldS w s sz lay good) := fun n cs x h _ hw => by
 rcases Deep.open_slice ht h with ⟨rfl, rfl⟩ | ⟨a, len, cap, m, n, D, Pl, rfl, _, hl, hm, hmm, rfl, hx⟩
 ·exact ⟨(.slice none 0 0, []), rfl, none, 0, rfl, Nat.le_refl _, by simp, ⟨by simp, by simp, Nat.zero_le _, .inl ⟨rfl, none, 0, rfl⟩⟩, by simp⟩
 ·simp only [if_true] at hmm
  subst hmm
  simp only [DataW.weights, ht, List.length_map, List.length_range, List.all_cons, Bool.and_eq_true, decide_eq_true_eq, List.all_append] at hw
  obtain ⟨hw1, hw2, _⟩ := hw
  have hstep : ∀ i, i < len → ∃ b : α, w.cells? 0 (a.add (i * s)) s = some (lay b) ∧ good b := fun i hi => by
   obtain ⟨cs', h1, h2⟩ := hx i oZ
   rw [hs] at h1
   have hlen : cs'.length = s := (World.cells?_some h1).2.1
   obtain ⟨b, rfl, hb⟩ := hd _ _ _ h2 hlen (List.all_eq_true.2 fun n hn => List.all_eq_true.1 hw2 n (zHj (List.mem_map.2 ⟨i, by simpa using hi, rfl⟩) n hn))
   exact ⟨b, h1, hb⟩
  obtain ⟨asx, hal, has⟩ := list_of hstep
  have hgood : ∀ b ∈ asx, good b := fun b hb => by
   obtain ⟨i, hi⟩ := List.getElem?_of_mem hb
   exact (has i b hi).2
  have hlay : ∀ b ∈ asx, (lay b).length = s := fun b hb => by
   obtain ⟨i, hi⟩ := List.getElem?_of_mem hb
   exact (World.cells?_some (has i b hi).1).2.1
  have hlen := flat_length hlay
  refine ⟨(.slice (some a) len m, asx), rfl, some a, m, by rw [hal], by simp only [hal]; exact hl, ?_, ?_, hgood⟩
  ·rw [hz, show len + (m - len) = m by omega] at hw1
   exact hw1
  ·simp only [hal]
   refine ⟨by rw [hlen, hal], fun u hu => ?_, by omega, ?_⟩
   ·obtain ⟨b, hb, hu⟩ := List.mem_flatMap.1 hu
    exact one b (hgood b hb) u hu
   ·by_cases hl0 : len = 0
    ·exact .inl ⟨hl0, some a, m, by rw [hl0]⟩
    ·obtain ⟨b0, hb0, -⟩ := hstep 0 oZ
     have hc0 := (World.cells?_some hb0).2.2 0 h0
     have hlb : (lay b0).length = s := (World.cells?_some hb0).2.1
     rw [List.getElem?_eq_getElem oZ] at hc0
     obtain ⟨b, off, spot⟩ := a
     simp only [World.cell?, Addr.add, Nat.zero_mul, Nat.add_zero] at hc0
     split at hc0
     ·rename_i l T fr hh
      have hh' : w.heap[b]? = some (.cells l T fr) := hh
      cases spot with
      | some q => simp at hc0
      | none =>
       refine .inr ⟨b, off, m, l, T, fr, rfl, mem_old hh', ?_⟩
       have := flat_get (lay := lay) (asx := asx) (s := s) (l := l) (off := off) hlay 0 (fun i c hc j v hv => by
        obtain ⟨h1, _⟩ := has i c hc
        have hls : (lay c).length = s := (World.cells?_some h1).2.1
        have hj : j < s := by
         have := (List.getElem?_eq_some_iff.1 hv).1
         omega
        have h3 := (World.cells?_some h1).2.2 j hj
        rw [Addr.add_lit, Addr.add_lit, zGl hh', hv] at h3
        rw [Nat.zero_add]
        exact h3)
       simpa using this
     ·cases hc0
theorem Dec.arg (hd : Dec enc P w t 1 lay good) {v : Value} {d : DataW H} {p : List MemPlace} (h : DataW.Trod enc P w 0 (fun _ => true) true t v d p) (h1 : v.cells.toList = [v]) {ts : List TypeId} {ds : List (DataW H)}
  (hw : (DataW.weightsEach P ts ds).all (· ≤ reachBytes) = true) {j : Nat} (ht : ts[j]? = some t) (hdj : ds[j]? = some d) : ∃ a, [v] = lay a ∧ good a := by
 obtain ⟨n, hn⟩ := h
 rw [h1] at hn
 exact hd n _ _ hn rfl (List.all_eq_true.2 fun k hk => List.all_eq_true.1 hw k (DataW.weights_mem_each ht hdj k hk))
theorem one_slice {b : Nat} (ht : P.underlying t = some (.slice e)) {v : Value} (h : Value.okWide P w .any b t v) : v.cells.toList = [v] := by
 obtain ⟨a, l, c, rfl⟩ := okWide_slice ht h
 rfl
theorem one_int {b : Nat} {k : IntKind} (ht : P.underlying t = some (.int k)) {v : Value} (h : Value.okWide P w .any b t v) : v.cells.toList = [v] := by
 obtain ⟨s, rfl⟩ := okWide_int ht h
 rfl
theorem flat_byt (bs : List UInt8) : (bs.flatMap fun b => [Value.int .u8 b.toNat]) = byt bs := by
 induction bs with
 | nil => rfl
 | cons b r ih => rw [List.flatMap_cons, ih]; rfl
end
end Go.Sl
namespace Go.Proofs.YtpjidiaekifmbaaGreatDoor
open Go.Sl Go.ChangeShapes Go.WideShapes Go.RowKit
theorem zIv {P : Program} {W : World} {nm : String} {g m : Nat} {t e : TypeId} {cs : Array Value} {fuel : Nat} {p : List MemPlace} (l : List Int) (hg : P.globalNamed nm = some g) (ht : P.underlying t = some (.array m e)) (he : P.underlying e = some (.int .u32)) (ce : P.cellsOf e = 1) (ct : P.cellsOf t = l.length) (hm : m = l.length)
  (hv : W.var? P nm = some cs) (hd : DataW.trod (fun _ : TypeId × Value => ()) P W 0 (fun _ => true) false fuel t cs.toList = some (DataW.agg (l.map fun n => .lit (.int .u32 n)), p)) : Tab [old W] g l := by
 subst hm
 obtain ⟨xs, k, _, ex, hlen, hl, hel⟩ := DataW.trod_array ht hd
 rw [ct] at hlen
 have e3 : (xs.map (·.1)) = l.map fun n => (DataW.lit (.int .u32 n) : DataW Unit) := (DataW.agg.inj (Prod.mk.inj ex).1).symm
 have hcs : cs.toList = u32s l := by
  apply List.ext_getElem?
  intro i
  rcases Nat.lt_or_ge i l.length with hi | hi
  ·have hE := hel i hi
   rw [ce, Nat.mul_one, List.getElem?_eq_getElem oZ] at hE
   obtain ⟨z, e1, e2, _⟩ := DataW.trod_int he hE
   have e4 : (xs.map (·.1))[i]? = (l.map fun n => (DataW.lit (.int .u32 n) : DataW Unit))[i]? := by rw [e3]
   rw [List.getElem?_map, List.getElem?_map, List.getElem?_eq_getElem (by omega : i < xs.length), List.getElem?_eq_getElem hi, e2] at e4
   simp only [Option.map_some, Option.some.injEq, DataW.lit.injEq, Lit.int.injEq, true_and] at e4
   have h0 : ((cs.toList.drop i).take 1)[0]? = some (.int .u32 z) := by rw [e1]; rfl
   have h1 : cs.toList[i]? = some (.int .u32 z) := by simpa using h0
   rw [h1, e4]
   simp [u32s, hi]
  ·rw [List.getElem?_eq_none oZ, List.getElem?_eq_none (by simp [u32s]; omega)]
 simp only [World.var?, hg, Option.bind_some] at hv
 split at hv
 ·rename_i c T fr hh
  cases hv
  exact ⟨_, List.Mem.head _, T, fr, mem_old (by rw [← hcs]; simpa using hh)⟩
 ·cases hv
def Lay3 (O : zAj) : Prop := Tab [O] 2 shaK ∧ Tab [O] 0 sha0.l ∧ Tab [O] 1 shaK
theorem laid3 {W : World} (h : laidMetH Tryz.prog [("undercroft/undercroftref02.first", Rows.laid_undercroft_undercroftref02_first), ("undercroft/undercroftref02.rounds", Rows.laid_undercroft_undercroftref02_rounds), ("undercroft/sum.rounds", Rows.laid_undercroft_sum_rounds)] W) : Lay3 (old W) := by
 rw [MakeChecks.laidMetH_plain _ _ _ yZ] at h
 obtain ⟨ps, ⟨g0, t0, cs0, f0, p0, q0, hg0, ht0, hv0, hd0, ⟨g1, t1, cs1, f1, p1, q1, hg1, ht1, hv1, hd1, ⟨g2, t2, cs2, f2, p2, q2, hg2, ht2, hv2, hd2, _, _⟩, _⟩, _⟩, _, _⟩ := h
 have a0 : Tryz.prog.globalNamed "undercroft/undercroftref02.first" = some 0 := by kernel_rfl
 have a1 : Tryz.prog.globalNamed "undercroft/undercroftref02.rounds" = some 1 := by kernel_rfl
 have a2 : Tryz.prog.globalNamed "undercroft/sum.rounds" = some 2 := by kernel_rfl
 obtain rfl := Option.some.inj (a0.symm.trans hg0)
 obtain rfl := Option.some.inj (a1.symm.trans hg1)
 obtain rfl := Option.some.inj (a2.symm.trans hg2)
 obtain rfl := Option.some.inj ((show (Tryz.prog.globals[(0 : Nat)]?).map (·.type) = some 113 by kernel_rfl).symm.trans ht0)
 obtain rfl := Option.some.inj ((show (Tryz.prog.globals[(1 : Nat)]?).map (·.type) = some 119 by kernel_rfl).symm.trans ht1)
 obtain rfl := Option.some.inj ((show (Tryz.prog.globals[(2 : Nat)]?).map (·.type) = some 119 by kernel_rfl).symm.trans ht2)
 exact ⟨zIv shaK a2 Tryz.underlying119 Tryz.underlying112 yZ yZ yZ hv2 hd2,
  zIv sha0.l a0 Tryz.underlying113 Tryz.underlying112 yZ yZ yZ hv0 hd0,
  zIv shaK a1 Tryz.underlying119 Tryz.underlying112 yZ yZ yZ hv1 hd1⟩
end Go.Proofs.YtpjidiaekifmbaaGreatDoor
namespace Go.Proofs.YtpjidiaekifmbaaGreatDoor
open Go.Sl
set_option maxRecDepth 10000
structure Hurt (R : Rk) (xs : List (Nat × Nat)) (bad at_ : Nat) (b : List UInt8) : Prop where
 lost : ∀ x, zFp R xs x = true → x % xs.length = bad
 sec : ∀ i (h : i < (layP xs.length b).length), (at_ + i) % xs.length ≠ bad → secP R xs (at_ + i) = (layP xs.length b)[i]
def Finds (R : Rk) (xs : List (Nat × Nat)) (at_ : Nat) (b : List UInt8) (kind : Int) (s : Fs) : Prop :=
 (lsTo R xs at_ (layP xs.length b).length = none ∧ chkK kind s ((blkF xs.length 0 (rdTo R xs at_ (layP xs.length b).length)).take b.length) = true) ∨ ∃ col, Cand xs.length at_ (layP xs.length b).length (lsTo R xs at_ (layP xs.length b).length) col ∧ chkK kind s ((blkF xs.length 0 (rebF xs.length at_ col (rdTo R xs at_ (layP xs.length b).length))).take b.length) = true
def Goods (R : Rk) (xs : List (Nat × Nat)) (at_ : Nat) (b : List UInt8) (kind : Int) (s : Fs) : Prop :=
 ∀ col l, zKz R xs at_ (layP xs.length b).length b.length kind s col l → (blkF xs.length 0 l).take b.length = b
def NoClash (R : Rk) (xs : List (Nat × Nat)) (at_ : Nat) (b : List UInt8) (kind : Int) (s : Fs) : Prop :=
 lsTo R xs at_ (layP xs.length b).length = none → (chkK kind s ((blkF xs.length 0 (rdTo R xs at_ (layP xs.length b).length)).take b.length) = true → (blkF xs.length 0 (rdTo R xs at_ (layP xs.length b).length)).take b.length = b) ∧
  ∀ col, col < xs.length → chkK kind s ((blkF xs.length 0 (rebF xs.length at_ col (rdTo R xs at_ (layP xs.length b).length))).take b.length) = true → (blkF xs.length 0 (rebF xs.length at_ col (rdTo R xs at_ (layP xs.length b).length))).take b.length = b
section
variable {R : Rk} {xs : List (Nat × Nat)} {bad at_ k : Nat} {b : List UInt8} {kind : Int} {s : Fs} (hw : 3 ≤ xs.length ∧ xs.length ≤ 5) (hb : 1 ≤ b.length ∧ b.length ≤ 1024) (hN : at_ + (layP xs.length b).length ≤ xs.length * 32) (hU : Up R xs k)
theorem Hurt.one (h : Hurt R xs bad at_ b) : zIt R xs := fun x y hx hy => (h.lost x hx).trans (h.lost y hy).symm
theorem Hurt.rd (h : Hurt R xs bad at_ b) {i : Nat} (hi : i < (layP xs.length b).length) (hi2 : i < (rdTo R xs at_ (layP xs.length b).length).length) (hq : (at_ + i) % xs.length ≠ bad) : (rdTo R xs at_ (layP xs.length b).length)[i] = (layP xs.length b)[i] := by
 have hl : zFp R xs (at_ + i) = false := by
  rcases hx : zFp R xs (at_ + i) with _ | _
  ·rfl
  ·exact absurd (h.lost _ hx) hq
 simp only [rdTo, List.getElem_map, List.getElem_range, hl, Bool.false_eq_true, if_false]
 exact h.sec i hi hq
include hw hb hN hU in
theorem Hurt.reb (h : Hurt R xs bad at_ b) : rebF xs.length at_ bad (rdTo R xs at_ (layP xs.length b).length) = layP xs.length b :=
 reb_fix oZ (zGv hb) (zIm hU hw.1 hN) (layP_row hw hb) (zDp ..) fun _ h1 h2 hq => h.rd h2 h1 hq
theorem Hurt.same (h : Hurt R xs bad at_ b) (hn : zGi xs.length at_ bad (layP xs.length b).length = false) : rdTo R xs at_ (layP xs.length b).length = layP xs.length b :=
 List.ext_getElem (zDp ..) fun i h1 h2 => h.rd h2 h1 fun q => by
  rw [zIl.2 ⟨i, h2, q⟩] at hn; cases hn
theorem Hurt.ls (h : Hurt R xs bad at_ b) : lsTo R xs at_ (layP xs.length b).length = none ∨ lsTo R xs at_ (layP xs.length b).length = some bad := by
 rcases hq : lsTo R xs at_ (layP xs.length b).length with _ | j
 ·exact .inl rfl
 ·obtain ⟨i, h1, h2, h3⟩ := lsTo_is hq
  rw [h3, h.lost _ h2]; exact .inr rfl
theorem Hurt.ls_no (h : Hurt R xs bad at_ b) (hn : zGi xs.length at_ bad (layP xs.length b).length = false) : lsTo R xs at_ (layP xs.length b).length = none := by
 refine lsTo_no fun i hi => ?_
 rcases hx : zFp R xs (at_ + i) with _ | _
 ·rfl
 ·rw [zIl.2 ⟨i, hi, h.lost _ hx⟩] at hn; cases hn
include hw hb hN hU in
theorem Hurt.finds (h : Hurt R xs bad at_ b) (hbad : bad < xs.length) (hck : chkK kind s b = true) : Finds R xs at_ b kind s := by
 rcases hn : zGi xs.length at_ bad (layP xs.length b).length with _ | _
 ·exact .inl ⟨h.ls_no hn, by rw [h.same hn, zFw hw hb]; exact hck⟩
 ·exact .inr ⟨bad, ⟨hbad, h.ls, hn⟩, by rw [h.reb hw hb hN hU, zFw hw hb]; exact hck⟩
include hw hb hN hU in
theorem Hurt.goods (h : Hurt R xs bad at_ b) (hno : NoClash R xs at_ b kind s) : Goods R xs at_ b kind s := fun col l hl => by
 rcases hl.2.1 with ⟨_, h2, rfl⟩ | ⟨cn, ⟨h1, h2, h3⟩, _, rfl⟩
 ·exact (hno h2).1 hl.1
 ·rcases h2 with h2 | h2
  ·exact (hno h2).2 cn h1 hl.1
  ·rcases h.ls with q | q
   ·rw [q] at h2; cases h2
   ·rw [q] at h2; cases h2
    rw [h.reb hw hb hN hU]; exact zFw hw hb
theorem Hurt.dead (hw : 3 ≤ xs.length ∧ xs.length ≤ 5) (hb : 1 ≤ b.length ∧ b.length ≤ 1024) (h : Hurt R xs bad at_ b) (hd : ∀ x, x % xs.length = bad → zFp R xs x = true) (hck : chkK kind s b = true) : NoClash R xs at_ b kind s := fun hq => by
 have hn : zGi xs.length at_ bad (layP xs.length b).length = false := by
  rcases hn : zGi xs.length at_ bad (layP xs.length b).length with _ | _
  ·rfl
  ·obtain ⟨i, h1, h2⟩ := zIl.1 hn
   have := zIk hq i h1
   rw [hd _ h2] at this; cases this
 rw [h.same hn]
 refine ⟨fun _ => zFw hw hb, fun col hc _ => ?_⟩
 rw [reb_fix (L := layP xs.length b) oZ (zGv hb) (zGv hb) (layP_row hw hb) rfl fun _ _ _ _ => rfl]
 exact zFw hw hb
end
theorem hurt_fail {R : Rk} {xs : List (Nat × Nat)} {at_ k bad : Nat} {b : List UInt8} (hw : 0 < xs.length) (hU : Up R xs k) (hnd : (xs.map Prod.snd).Nodup) (hbad : bad < xs.length) (hf : ∀ y ∈ xs, (dkOf R y.2).failed = false) (hL : Lies R xs at_ (layP xs.length b) (layP xs.length b).length) :
  Hurt (R.fail (dkOf R xs[bad].2)) xs bad at_ b ∧ ∀ x, x % xs.length = bad → zFp (R.fail (dkOf R xs[bad].2)) xs x = true := by
 obtain ⟨_, hK⟩ := hU.fail (List.getElem_mem hbad)
 have hon : ∀ x, onX xs x = xs[x % xs.length]'(Nat.mod_lt _ hw) := fun x => by
  have := (zEg hw x).2
  rw [List.getElem?_eq_getElem (Nat.mod_lt _ hw)] at this
  exact (Option.some.inj this).symm
 have hne : ∀ x, x % xs.length ≠ bad → (onX xs x).2 ≠ xs[bad].2 := fun x hx => by rw [hon]; exact xs_neq hnd hbad (Nat.mod_lt _ hw) hx
 have hd : ∀ x, dkOf (R.fail (dkOf R xs[bad].2)) (onX xs x).2 = if x % xs.length = bad then { dkOf R xs[bad].2 with now := (dkOf R xs[bad].2).pl, failed := true } else dkOf R (onX xs x).2 := fun x => by
  rw [hK _ (zEg hw x).1]
  by_cases q : x % xs.length = bad
  ·rw [if_pos q, if_pos (by rw [hon]; simp only [q])]
  ·rw [if_neg q, if_neg (hne x q)]
 refine ⟨⟨fun x hx => ?_, fun i hi hq => ?_⟩, fun x hx => ?_⟩
 ·apply Classical.byContradiction
  intro q
  unfold zFp at hx
  rw [hd, if_neg q, hf _ (zEg hw x).1] at hx; cases hx
 ·unfold secP
  rw [hd, if_neg hq]; exact hL i hi hi
 ·unfold zFp; rw [hd, if_pos hx]
end Go.Proofs.YtpjidiaekifmbaaGreatDoor
namespace Go.Sl
end Go.Sl
namespace Go.Proofs.YtpjidiaekifmbaaGreatDoor
open Go.Sl
set_option maxRecDepth 10000
theorem fitP_is {w : Nat} {b : List UInt8} {at_ : Int} (hw : 3 ≤ w ∧ w ≤ 5) (h : zIh w 32 at_ b.length) : (1 ≤ b.length ∧ b.length ≤ 1024) ∧ 0 ≤ at_ ∧ at_ + (layP w b).length ≤ w * 32 := by
 obtain ⟨h1, h2, h3, h4⟩ := h
 have hm := (zEz hw b.length).2.2.1 h1
 have hb : 1 ≤ b.length ∧ b.length ≤ 1024 := by
  unfold zDq at hm
  split at hm <;> omega
 refine ⟨hb, h2, ?_⟩
 rw [← (zFn hw hb).1]; omega
theorem fitP_not {w : Nat} {b : List UInt8} {at_ : Int} (hw : 3 ≤ w ∧ w ≤ 5) (h : ¬ zIh w 32 at_ b.length) (h1 : 1 ≤ b.length) (h2 : b.length ≤ 1024) (h3 : 0 ≤ at_) : (w : Int) * 32 - zFf w b.length < at_ := by
 have hm : 0 < zDq b.length := by unfold zDq; rw [if_neg oZ]; omega
 have hn := (zEz hw b.length).2.2.2 hm
 unfold zIh at h
 omega
theorem needP_le {w : Nat} (hw : 3 ≤ w ∧ w ≤ 5) (n : Int) : 0 ≤ zFf w n ∧ zFf w n ≤ 12 := ⟨(zEz hw n).1, (zEz hw n).2.1⟩
end Go.Proofs.YtpjidiaekifmbaaGreatDoor
