/-
  Texts put together (10).
-/
import Derived.Test.YtpjidiaekifmbaaGreatDoorZParityRows9
set_option maxHeartbeats 1000000
namespace Go.Sl
theorem setD_get {ds : List Dk} {d : Nat} {g : Dk → Dk} {i : Nat} {x : Dk} (h : ds[i]? = some x) : (setD ds d g)[i]? = some (if x.d = d then g x else x) := by
 rw [setD, List.getElem?_map, h]; rfl
theorem setD_inv {ds : List Dk} {d : Nat} {g : Dk → Dk} {i : Nat} {z : Dk} (h : (setD ds d g)[i]? = some z) : ∃ x, ds[i]? = some x ∧ z = if x.d = d then g x else x := by
 rw [setD, List.getElem?_map] at h
 cases hq : ds[i]? with
 | none => rw [hq] at h; cases h
 | some x => rw [hq] at h; exact ⟨x, rfl, (Option.some.inj h).symm⟩
end Go.Sl
namespace Go.Proofs.YtpjidiaekifmbaaGreatDoor
open Go.Sl
set_option maxRecDepth 10000
theorem dd_now {J : zAj} {ds : List Dk} {ys : List Dd} (h : All2 (DdOk J) ds ys) (d : Nat) (g : Dk → Dk) (hg : ∀ x, (g x).failed = x.failed ∧ (g x).pl = x.pl) : All2 (DdOk J) (setD ds d g) ys := by
 refine ⟨by rw [setD, List.length_map]; exact h.1, fun i z y hz hy => ?_⟩
 obtain ⟨x, hx, rfl⟩ := setD_inv hz
 have := h.2 i x y hx hy
 split
 ·obtain ⟨h1, h2⟩ := hg x
  unfold DdOk at *; rw [h1, h2]; exact this
 ·exact this
theorem dw_set {J : zAj} {ds : List Dk} {ws : List Wt} {us : List Dw} (h : All2 (DwOk J ds) ws us) (d : Nat) (g : Dk → Dk) (hg : ∀ x, (g x).d = x.d) : All2 (DwOk J (setD ds d g)) ws us :=
 h.imp fun w u ⟨⟨x, h1, h2⟩, h3, h4⟩ => ⟨⟨_, setD_get h1, by split; rw [hg]; exact h2; exact h2⟩, h3, h4⟩
theorem qwrite_ret (q : Nat) (R : Rk) (C : zAj) (hC : RfC q R C) (hok : DkOk R.ds) (n : Nat) (x : Dk) (hx : R.ds[n]? = some x) (hmod : x.pl.length % 128 = 0) (hws : R.ws.length + 8192 ≤ 244335861110) (hwr : R.pw.wr ≤ 1000000000000000000) (hlf : R.pw.left ≤ 9223372036854775807)
    (at_ : Int) (ha : -9223372036854775808 ≤ at_ ∧ at_ ≤ 9223372036854775807) (v : Value) (b : List UInt8) (D : zAj) (hD : Rd D 1 v b.length (byt b)) (hcap : ∃ ad c, v = .slice ad b.length c ∧ b.length ≤ c) (w0 : World) (H : Hp w0 [C, D]) :
    Ret Tryz.prog 69 #[ptr q, .int .i64 n, .int .i64 at_, v] w0 fun u w' => ∃ C', u = .int .i64 (R.writeE x at_ b) ∧ RfC q (R.write x at_ b) C' ∧ Trs w0 w' [C, D] [C', D] := by
  obtain ⟨vd, vw, Cd, Cw, J, ys, us, h1, h2, h3, h4, rfl⟩ := hC
  obtain ⟨adb, cb, rfl, hcb⟩ := hcap
  have S := rf_open (St.begin H)
  obtain ⟨y, hy, hyo⟩ := h3.at hx
  have hxm : x ∈ R.ds := List.mem_of_getElem? hx
  have hxl := hok.2 x hxm
  have hbl := hD.2.2.1
  simp only [maxLen] at hbl
  obtain ⟨y1, y2, y3, y4⟩ := hyo
  obtain ⟨A, B, rfl, hAl⟩ := zGs hy
  have S := rf_out S
  obtain ⟨add, cd, rfl⟩ := h1.slice
  obtain ⟨adp, cp, hvp⟩ := y2.slice
  obtain ⟨gd, rfl⟩ := h1.addr (by simp; omega)
  obtain ⟨s, ws, ds⟩ := R
  simp only at h3 h4 hok hx hxm hxl S hws hwr hlf
  have hnlt : n < (A ++ y :: B).length := by simp; omega
  have hpt : ((A ++ y :: B).map fun y => ptr y.b)[n]? = some (ptr y.b) := by rw [List.getElem?_map, hy]; rfl
  have hdd1 : dd1 y = [(y.b, cel [.slice adp y.vs.length cp, .bool x.failed] 140)] := by show [(y.b, cel [y.vp, .bool y.f] _)] = _; rw [hvp, y1]
  obtain ⟨C0, hC0⟩ : ∃ C0, C0 = (RfL q s (.slice (some ⟨gd, 0, none⟩) (A ++ y :: B).length cd) vw Cd Cw J (A ++ y :: B)).flatten := ⟨_, rfl⟩
  rw [← hC0] at S ⊢
  obtain ⟨fin, hfin⟩ : ∃ fin, fin = wrS x.d x.pl.length at_ b s x.failed x.now ws := ⟨_, rfl⟩
  have done : ∀ {w' : World} {s' : Pw} {vw' : Value} {Cw' J' : zAj} {us' : List Dw} {nw' : List UInt8} {ws' : List Wt} {e : Int}, fin = (s', nw', ws', e) → Buf Cw' 177 3 vw' us'.length (us'.flatMap Dw.lay) → All2 (DdOk J') ds (A ++ y :: B) → All2 (DwOk J' ds) ws' us' →
      St w0 [C0, D] w' ([(q, qcl s' (.slice (some ⟨gd, 0, none⟩) (A ++ y :: B).length cd) vw')] :: Cd :: Cw' :: J' :: dd1 y :: y.C :: (dch (A ++ B) ++ [D])) →
      ∃ C', Value.int .i64 e = .int .i64 (Rk.writeE ⟨s, ws, ds⟩ x at_ b) ∧ RfC q (Rk.write ⟨s, ws, ds⟩ x at_ b) C' ∧ Trs w0 w' [C0, D] [C', D] := by
    intro w' s' vw' Cw' J' us' nw' ws' e hf hB hA2 hW2 S
    have S := zGf (Ls := [D]) (rf_in S)
    rw [hf] at hfin
    refine ⟨_, by rw [Rk.writeE, ← hfin], ⟨_, vw', Cd, Cw', J', A ++ y :: B, us', h1, hB, ?_, ?_, rfl⟩, ?_⟩
    · rw [Rk.write, ← hfin]; exact dd_now hA2 _ _ fun _ => ⟨rfl, rfl⟩
    · rw [Rk.write, ← hfin]; exact dw_set hW2 _ _ fun _ => rfl
    · rw [Rk.write, ← hfin]; exact S.tr
  refine enter4 112 Tryz.func69 rfl rfl dZ ?_; intro a E
  refine wp_seq_k ?_; intro K hK
  refine zAa ?_
  refine zd E ?_; clear E a; intro a E
  refine wpList_nil ?_
  refine zAb hK ?_; clear hK K
  refine wp_seq_k ?_; intro K hK
  refine zAa ?_
  iterate 2 (refine zd E ?_; clear E a; intro a E)
  refine zAg E rfl rfl dZ rfl Tryz.func90 rfl yZ rfl (qdown_ret q s _ _ Cd _ h1 n y hy _ (S.hp.sel sZ)) ?_
  rintro v15 w ⟨rfl, hT⟩; clear E a; intro a E
  have S := (S.call3 sZ hT).front6 (A := [(q, _)]) pZ (B := Cd) pZ (C := Cw) pZ (D := J) pZ (F := dd1 y) pZ (G := y.C) pZ; rw [y1] at E
  refine zd E ?_; clear E a; intro a E
  refine wpList_nil ?_
  refine zAb hK ?_; clear hK K
  iterate 2 (refine wp_seq_k ?_; intro K hK)
  refine zAa ?_
  iterate 2 (refine zd E ?_; clear E a; intro a E)
  refine wpList_nil ?_
  refine zAb hK ?_; clear hK K
  refine zAs E rfl (fun hb => ?_) (fun hb => ?_)
  · replace hb := Nrm.nrm hb
    refine wp_seq_k ?_; intro K hK
    refine zAa ?_
    iterate 2 (refine zd E ?_; clear E a; intro a E)
    refine wpList_nil ?_
    refine zAb hK ?_; clear hK K
    refine wp_ret ?_
    refine zBc ?_; clear hK K
    refine ret1 E rfl rfl ?_
    have hfe : fin = (s, x.now, ws, flE s x.failed) := by
      rw [hfin]; unfold wrS flE
      by_cases hs : s.off = true
      · rw [if_pos hs, if_pos hs]
      · by_cases hf : x.failed = true
        · rw [if_neg hs, if_pos hf, if_neg hs, if_pos hf]
        · unfold flE at hb; rw [if_neg hs, if_neg hf] at hb; exact absurd rfl hb
    obtain ⟨C', e1, e2, e3⟩ := done hfe h2 h3 h4 S
    exact ⟨_, rfl, C', e1, e2, e3⟩
  · replace hb := Nrm.nrm hb
    refine wp_skip ?_
    refine zAb hK ?_; clear hK K
    refine wp_seq_k ?_; intro K hK
    have hs : s.off = false := by cases h : s.off; rfl; simp [flE, h] at hb
    have hf : x.failed = false := by cases h : x.failed; rfl; simp [flE, hs, h] at hb
    rw [hdd1] at S
    refine zAa ?_
    iterate 2 (refine zd E ?_; clear E a; intro a E)
    refine zp E (by first | exact zAc (q := 0) E rfl rfl rfl | exact zAd (q := 0) E rfl rfl rfl) ?_; clear E a; intro a E
    iterate 2 (refine zd E ?_; clear E a; intro a E)
    refine zp E (zAp (i := n) E rfl rfl rfl rfl rfl rfl oZ) ?_; clear E a; intro a E
    refine zp E (zAo E rfl rfl rfl (h1.rd.cells (S.stab.at mZ) rfl n _ hpt)) ?_; clear E a; intro a E
    refine zd E ?_; clear E a; intro a E
    refine zp E (by first | exact zAc (q := 0) E rfl rfl rfl | exact zAd (q := 0) E rfl rfl rfl) ?_; clear E a; intro a E
    iterate 3 (refine zd E ?_; clear E a; intro a E)
    refine wpList_nil ?_
    refine zAb hK ?_; clear hK K
    iterate 2 (refine wp_seq_k ?_; intro K hK)
    refine zDl (fun (a : Act) (w' : World) => ∃ c : Bool, c = decide (¬ zDy x.pl.length at_ b) ∧ St w0 [C0, D] w' ([(q, qcl s (.slice (some ⟨gd, 0, none⟩) (A ++ y :: B).length cd) vw)] :: Cd :: Cw :: J :: dd1 y :: y.C :: (dch (A ++ B) ++ [D])) ∧ Fr a 112 [(0, ptr q), (1, .int .i64 n), (2, .int .i64 at_), (3, .slice adb b.length cb), (51, .bool c)]) ?_ ?_
    · skip
      refine zAa ?_
      iterate 2 (refine zd E ?_; clear E a; intro a E)
      refine zp E (zGh E rfl rfl rfl dZ (by first | exact zLn (y := 128) | exact rfl)) ?_; clear E a; intro a E
      iterate 2 (refine zd E ?_; clear E a; intro a E)
      refine zAr E (t := 34) rfl (fun hb34 => ?_) (fun hb34 => ?_)
      · have hb34n := hb34; replace hb34n := Nrm.nrm hb34n
        iterate 2 (refine zn E hb34 ?_; clear E a; intro a E)
        refine zp E (zAi E rfl rfl hb34 rfl) ?_; clear E a; intro a E
        refine zd E ?_; clear E a; intro a E
        iterate 3 (refine zn E rfl ?_; clear E a; intro a E)
        refine zp E (zAi E rfl rfl rfl rfl) ?_; clear E a; intro a E
        refine zd E ?_; clear E a; intro a E
        iterate 7 (refine zn E rfl ?_; clear E a; intro a E)
        refine zp E (zAi E rfl rfl rfl rfl) ?_; clear E a; intro a E
        refine wpList_nil ?_
        refine zAx ?_
        refine ⟨_, ?_, by rw [hdd1]; exact S, E.keep (kE5 rfl rfl rfl rfl rfl)⟩
        rw [Bool.eq_iff_iff]; simp only [decide_eq_true_eq, eq_self, true_iff]; unfold zDy; rw [← y3, Nat.mul_div_cancel_left _ (by decide : 0 < 128)]; omega
      · have hb34n := hb34; replace hb34n := Nrm.nrm hb34n
        iterate 2 (refine zyd E hb34 ?_; clear E a; intro a E)
        refine zp E (zAk E rfl rfl hb34 rfl) ?_; clear E a; intro a E
        refine zd E ?_; clear E a; intro a E
        refine zAr E (t := 38) rfl (fun hb38 => ?_) (fun hb38 => ?_)
        · have hb38n := hb38; replace hb38n := Nrm.nrm hb38n
          iterate 3 (refine zn E hb38 ?_; clear E a; intro a E)
          refine zp E (zAi E rfl rfl hb38 rfl) ?_; clear E a; intro a E
          refine zd E ?_; clear E a; intro a E
          iterate 7 (refine zn E rfl ?_; clear E a; intro a E)
          refine zp E (zAi E rfl rfl rfl rfl) ?_; clear E a; intro a E
          refine wpList_nil ?_
          refine zAx ?_
          refine ⟨_, ?_, by rw [hdd1]; exact S, E.keep (kE5 rfl rfl rfl rfl rfl)⟩
          rw [Bool.eq_iff_iff]; simp only [decide_eq_true_eq, eq_self, true_iff]; unfold zDy; rw [← y3, Nat.mul_div_cancel_left _ (by decide : 0 < 128)]; omega
        · have hb38n := hb38; replace hb38n := Nrm.nrm hb38n
          iterate 3 (refine zyd E hb38 ?_; clear E a; intro a E)
          refine zp E (zAk E rfl rfl hb38 rfl) ?_; clear E a; intro a E
          refine zd E ?_; clear E a; intro a E
          refine zAr E (t := 43) rfl (fun hb43 => ?_) (fun hb43 => ?_)
          · have hb43n := hb43; replace hb43n := Nrm.nrm hb43n
            iterate 7 (refine zn E hb43 ?_; clear E a; intro a E)
            refine zp E (zAi E rfl rfl hb43 rfl) ?_; clear E a; intro a E
            refine wpList_nil ?_
            refine zAx ?_
            refine ⟨_, ?_, by rw [hdd1]; exact S, E.keep (kE5 rfl rfl rfl rfl rfl)⟩
            rw [Bool.eq_iff_iff]; simp only [decide_eq_true_eq, eq_self, true_iff]; unfold zDy; rw [← y3, Nat.mul_div_cancel_left _ (by decide : 0 < 128)]; omega
          · have hb43n := hb43; replace hb43n := Nrm.nrm hb43n
            iterate 2 (refine zyd E hb43 ?_; clear E a; intro a E)
            refine zy E hb43 (zGg E rfl rfl rfl dZ (by first | exact zKb (y := 128) oZ | exact zHl (y := 128) oZ | exact rfl)) ?_; clear E a; intro a E
            iterate 2 (refine zyd E hb43 ?_; clear E a; intro a E)
            refine zy E hb43 (zCo E rfl rfl rfl (w_in oZ)) ?_; clear E a; intro a E
            refine zyd E hb43 ?_; clear E a; intro a E
            refine zp E (zAk E rfl rfl hb43 rfl) ?_; clear E a; intro a E
            refine wpList_nil ?_
            refine zAx ?_
            refine ⟨_, ?_, by rw [hdd1]; exact S, E.keep (kE5 rfl rfl rfl rfl rfl)⟩
            rw [Bool.eq_iff_iff]; simp only [decide_eq_true_eq, eq_self, true_iff]; unfold zDy; rw [← y3, Nat.mul_div_cancel_left _ (by decide : 0 < 128)]; omega
    · clear E S a; intro a w J; obtain ⟨c, hc, S, E⟩ := J
      refine zAb hK ?_; clear hK K
      refine zAs E rfl (fun hb => ?_) (fun hb => ?_)
      · replace hb := Nrm.nrm hb
        have hno : ¬ zDy x.pl.length at_ b := (by rw [hb] at hc; exact of_decide_eq_true hc.symm)
        refine wp_seq_k ?_; intro K hK
        refine zAa ?_
        refine zd E ?_; clear E a; intro a E
        refine wpList_nil ?_
        refine zAb hK ?_; clear hK K
        refine wp_ret ?_
        refine zBc ?_; clear hK K
        refine ret1 E rfl rfl ?_
        have hfe : fin = (s, x.now, ws, 1) := by rw [hfin]; unfold wrS; rw [if_neg (by simp [hs]), if_neg (by simp [hf]), if_pos hno]
        obtain ⟨C', e1, e2, e3⟩ := done hfe h2 h3 h4 S
        exact ⟨_, rfl, C', e1, e2, e3⟩
      · replace hb := Nrm.nrm hb
        have hyes : zDy x.pl.length at_ b := (by rw [hb] at hc; exact Decidable.not_not.1 (of_decide_eq_false hc.symm))
        refine wp_skip ?_
        refine zAb hK ?_; clear hK K
        iterate 2 (refine wp_seq_k ?_; intro K hK)
        have hfe : fin = wrN x.d at_.toNat b (b.length / 128) 0 s x.now ws := by rw [hfin]; unfold wrS; rw [if_neg (by simp [hs]), if_neg (by simp [hf]), if_neg (fun q => q hyes)]
        obtain ⟨m1, m2, m3, m4⟩ := hyes
        rw [← y3, Nat.mul_div_cancel_left _ (by decide : 0 < 128)] at m3 m4
        obtain ⟨an, rfl⟩ : ∃ an : Nat, at_ = an := ⟨at_.toNat, by omega⟩
        rw [Int.toNat_natCast] at hfe
        obtain ⟨N, hN⟩ : ∃ N, N = b.length / 128 := ⟨_, rfl⟩
        rw [← hN] at hfe m4
        have hwl0 := h4.1
        refine zAa ?_
        refine zd E ?_; clear E a; intro a E
        refine wpList_nil ?_
        refine zAb hK ?_; clear hK K
        refine wp_block ?_
        refine wp_loop_ghost (fun (m : Nat) (a : Act) (w' : World) => ∃ (i : Nat) (s' : Pw) (nw' : List UInt8) (ws' : List Wt) (us' : List Dw) (vw' : Value) (Cw' J' : zAj), m = N - i ∧ i ≤ N ∧ wrN x.d an b (N - i) i s' nw' ws' = fin ∧ ws'.length ≤ ws.length + i ∧ s'.wr ≤ s.wr + i ∧ s'.left ≤ 9223372036854775807 ∧ Buf Cw' 177 3 vw' us'.length (us'.flatMap Dw.lay) ∧ All2 (DdOk J') ds (A ++ y :: B) ∧ All2 (DwOk J' ds) ws' us' ∧
         St w0 [C0, D] w' ([(q, qcl s' (.slice (some ⟨gd, 0, none⟩) (A ++ y :: B).length cd) vw')] :: Cd :: Cw' :: J' :: dd1 y :: y.C :: (dch (A ++ B) ++ [D])) ∧ Fr a 112 [(0, ptr q), (1, .int .i64 n), (2, .int .i64 an), (3, .slice adb b.length cb), (11, .int .i64 i)]) (N - 0) ?_ ?_
        · exact ⟨0, s, x.now, ws, us, vw, Cw, J, rfl, by omega, hfe.symm, by omega, by omega, hlf, h2, h3, h4, S, E.keep (kE5 rfl rfl rfl rfl rfl)⟩
        clear E; clear a; (try clear S); rintro m a w ⟨i, s', nw', ws', us', vw', Cw', J', rfl, hi, hrest, hwl, hwr', hlf', h2', h3', h4', S, E⟩
        iterate 2 (refine wp_seq_k ?_; intro K hK)
        refine zAa ?_
        iterate 3 (refine zd E ?_; clear E a; intro a E)
        refine zp E (zGg E rfl rfl rfl dZ (by first | exact zKb (y := 128) oZ | exact zHl (y := 128) oZ | exact rfl)) ?_; clear E a; intro a E
        rw [← hN] at E
        refine zd E ?_; clear E a; intro a E
        refine wpList_nil ?_
        refine zAb hK ?_; clear hK K
        refine zAs E rfl (fun hb => ?_) (fun hb => ?_)
        · replace hb := Nrm.nrm hb
          refine wp_skip ?_
          refine zAb hK ?_; clear hK K
          refine wp_seq_k ?_; intro K hK
          refine wp_block ?_
          iterate 2 (refine wp_seq_k ?_; intro K hK)
          have hiN : i < N := by omega
          rw [show N - i = (N - i - 1) + 1 by omega, wrN] at hrest
          refine zAa ?_
          iterate 2 (refine zd E ?_; clear E a; intro a E)
          refine zp E (by first | exact zAc (q := 2) E rfl rfl rfl | exact zAd (q := 2) E rfl rfl rfl) ?_; clear E a; intro a E
          iterate 2 (refine zd E ?_; clear E a; intro a E)
          refine wpList_nil ?_
          refine zAb hK ?_; clear hK K
          refine zAs E rfl (fun hb => ?_) (fun hb => ?_)
          · replace hb := Nrm.nrm hb
            rw [if_pos hb] at hrest
            refine wp_seq_k ?_; intro K hK
            refine zAa ?_
            iterate 2 (refine zd E ?_; clear E a; intro a E)
            refine zp E (by first | exact zAc (q := 3) E rfl rfl rfl | exact zAd (q := 3) E rfl rfl rfl) ?_; clear E a; intro a E
            refine zAf rfl (zBa E S rfl rfl rfl rfl rfl rfl pZ (by first | exact Nat.le_of_ble_eq_true rfl | (simp; done) | (simp; omega)) ?_); clear E S a; intro a w E S; try dsimp only [List.set] at S
            refine wpList_nil ?_
            refine zAb hK ?_; clear hK K
            refine wp_seq_k ?_; intro K hK
            refine zAa ?_
            iterate 2 (refine zd E ?_; clear E a; intro a E)
            refine zp E (by first | exact zAc (q := 2) E rfl rfl rfl | exact zAd (q := 2) E rfl rfl rfl) ?_; clear E a; intro a E
            refine zAf rfl (zBa E S rfl rfl rfl rfl rfl rfl pZ (by first | exact Nat.le_of_ble_eq_true rfl | (simp; done) | (simp; omega)) ?_); clear E S a; intro a w E S; try dsimp only [List.set] at S
            refine wpList_nil ?_
            refine zAb hK ?_; clear hK K
            refine wp_seq_k ?_; intro K hK
            refine zAa ?_
            refine zd E ?_; clear E a; intro a E
            refine wpList_nil ?_
            refine zAb hK ?_; clear hK K
            refine wp_ret ?_
            refine zBc ?_; clear hK K
            refine zDr ?_
            refine zBc ?_; clear hK K
            refine zBc ?_
            refine zDr ?_
            refine zBc ?_; clear hK K
            refine ret1 E rfl rfl ?_
            obtain ⟨C', e1, e2, e3⟩ := done hrest.symm h2' h3' h4' (s' := { s' with left := -1, off := true }) S
            exact ⟨_, rfl, C', e1, e2, e3⟩
          · replace hb := Nrm.nrm hb
            rw [if_neg hb] at hrest
            refine wp_skip ?_
            refine zAb hK ?_; clear hK K
            iterate 2 (refine wp_seq_k ?_; intro K hK)
            refine zAa ?_
            iterate 2 (refine zd E ?_; clear E a; intro a E)
            refine zp E (by first | exact zAc (q := 2) E rfl rfl rfl | exact zAd (q := 2) E rfl rfl rfl) ?_; clear E a; intro a E
            iterate 2 (refine zd E ?_; clear E a; intro a E)
            refine wpList_nil ?_
            refine zAb hK ?_; clear hK K
            refine zDl (fun (a : Act) (w' : World) => ∃ lf : Int, lf = (if 0 < s'.left then s'.left - 1 else s'.left) ∧ St w0 [C0, D] w' ([(q, qcl { s' with left := lf } (.slice (some ⟨gd, 0, none⟩) (A ++ y :: B).length cd) vw')] :: Cd :: Cw' :: J' :: dd1 y :: y.C :: (dch (A ++ B) ++ [D])) ∧ Fr a 112 [(0, ptr q), (1, .int .i64 n), (2, .int .i64 an), (3, .slice adb b.length cb), (11, .int .i64 i)]) ?_ ?_
            · skip
              refine zAs E rfl (fun hb => ?_) (fun hb => ?_)
              · replace hb := Nrm.nrm hb
                refine zAa ?_
                iterate 2 (refine zd E ?_; clear E a; intro a E)
                refine zp E (by first | exact zAc (q := 2) E rfl rfl rfl | exact zAd (q := 2) E rfl rfl rfl) ?_; clear E a; intro a E
                refine zd E ?_; clear E a; intro a E
                refine zp E (zCo E rfl rfl rfl (by first | exact zEc (y := 1) oZ oZ | exact w_in oZ | exact zBj oZ | exact rfl)) ?_; clear E a; intro a E
                refine zd E ?_; clear E a; intro a E
                refine zp E (by first | exact zAc (q := 2) E rfl rfl rfl | exact zAd (q := 2) E rfl rfl rfl) ?_; clear E a; intro a E
                refine zAf rfl (zBa E S rfl rfl rfl rfl rfl rfl pZ (by first | exact Nat.le_of_ble_eq_true rfl | (simp; done) | (simp; omega)) ?_); clear E S a; intro a w E S; try dsimp only [List.set] at S
                refine wpList_nil ?_
                refine zAx ?_
                exact ⟨s'.left - 1, by rw [if_pos hb], S, E.keep (kE5 rfl rfl rfl rfl rfl)⟩
              · replace hb := Nrm.nrm hb
                refine wp_skip ?_
                refine zAx ?_
                exact ⟨s'.left, by rw [if_neg hb], S, E.keep (kE5 rfl rfl rfl rfl rfl)⟩
            · clear S E a; intro a w J; obtain ⟨lf, hlf2, S, E⟩ := J
              refine zAb hK ?_; clear hK K
              refine wp_seq_k ?_; intro K hK
              refine zAa ?_
              iterate 2 (refine zd E ?_; clear E a; intro a E)
              refine zp E (by first | exact zAc (q := 4) E rfl rfl rfl | exact zAd (q := 4) E rfl rfl rfl) ?_; clear E a; intro a E
              refine zd E ?_; clear E a; intro a E
              dsimp only at E S
              refine zp E (zAy E rfl rfl rfl (by first | exact zBq (y := 1) oZ | exact w_in oZ | exact zBj oZ | exact rfl)) ?_; clear E a; intro a E
              refine zd E ?_; clear E a; intro a E
              refine zp E (by first | exact zAc (q := 4) E rfl rfl rfl | exact zAd (q := 4) E rfl rfl rfl) ?_; clear E a; intro a E
              refine zAf rfl (zBa E S rfl rfl rfl rfl rfl rfl pZ (by first | exact Nat.le_of_ble_eq_true rfl | (simp; done) | (simp; omega)) ?_); clear E S a; intro a w E S; try dsimp only [List.set] at S
              refine wpList_nil ?_
              refine zAb hK ?_; clear hK K
              refine wp_seq_k ?_; intro K hK
              have hbi : 128 * i + 128 ≤ b.length := by omega
              have hsl := zCf hbi
              refine zAa ?_
              iterate 2 (refine zd E ?_; clear E a; intro a E)
              refine zp E (zCx E rfl rfl rfl (by first | exact zGa (y := 128) oZ | exact w_in oZ | exact rfl)) ?_; clear E a; intro a E
              refine zd E ?_; clear E a; intro a E
              refine zp E (zAy E rfl rfl rfl (by first | exact zBq (y := 1) oZ | exact w_in oZ | exact zBj oZ | exact rfl)) ?_; clear E a; intro a E
              refine zp E (zCx E rfl rfl rfl (by first | exact zGa (y := 128) oZ | exact w_in oZ | exact rfl)) ?_; clear E a; intro a E
              refine zp E (zGb (s := 1) (lo := i * 128) (hi := i * 128 + 128) E rfl rfl rfl rfl rfl rfl oZ oZ oZ oZ) ?_; clear E a; intro a E
              obtain ⟨ad95, c95, he95, hR95⟩ := hD.cut (lo := i * 128) (hi := i * 128 + 128) oZ oZ oZ
              rw [he95] at E
              rw [Nat.mul_one, Nat.mul_one, zEx, zEl, Nat.add_sub_cancel_left, Nat.mul_comm i 128] at hR95
              rw [Nat.add_sub_cancel_left] at E
              have S := S.addNil
              have hDm : D ∈ dch (A ++ B) ++ [D] := List.mem_append_right _ (List.mem_singleton.2 rfl)
              have hR95 : Rd D 1 (.slice ad95 128 c95) 128 (byt (secB b i)) := hR95
              refine zAf rfl (zBl (by' := 1) E S rfl rfl dZ rfl rfl (Buf.nil 5 1) pZ (hR95.src (S.stab.at mZ) rfl) rfl rfl rfl rfl rfl rfl (by simp only [maxLen]; omega) oZ ?_); clear E S a; intro a w v96 C96 E S hB96
              rw [Nat.zero_add, List.nil_append] at hB96
              refine zd E ?_; clear E a; intro a E
              refine wpList_nil ?_
              refine zAb hK ?_; clear hK K
              obtain ⟨adw, cw, rfl⟩ := h2'.slice
              have hul := h4'.1
              obtain ⟨ad96, c96, rfl⟩ := hB96.slice
              obtain ⟨u, hu⟩ : ∃ u : Dw, u = ⟨n, an + i, .slice ad96 128 c96⟩ := ⟨_, rfl⟩
              refine zAa ?_
              iterate 3 (refine zd E ?_; clear E a; intro a E)
              refine zp E (by first | exact zAc (q := 1) E rfl rfl rfl | exact zAd (q := 1) E rfl rfl rfl) ?_; clear E a; intro a E
              iterate 4 (refine zd E ?_; clear E a; intro a E)
              refine zp E (zAy E rfl rfl rfl (by first | exact wa1 oZ | exact w_in oZ | exact zBj oZ | exact rfl)) ?_; clear E a; intro a E
              refine zd E ?_; clear E a; intro a E
              refine zp E (zBt (cells := [_, _, _]) E rfl rfl rfl) ?_; clear E a; intro a E
              refine zAf rfl (zBm (cells := [_, _, _]) E S rfl rfl dZ rfl rfl rfl rfl rfl dZ rfl ?_); clear E S a; intro a w b108 E S
              rw [show [Value.int .i64 (n : Int), .int .i64 (an + i : Nat), .slice ad96 128 c96] = u.lay by rw [hu]; rfl] at S
              refine zAf rfl (zBl (by' := 40) E S rfl rfl dZ rfl rfl h2' pZ ((zBn (g := b108) (T := 177) (xs := u.lay) (s := 3) (m := 1) (Dw.lay_len u) (by rw [hu]; intro w hw; simp [Dw.lay] at hw; rcases hw with rfl | rfl | rfl <;> rfl) oZ 1).src (S.stab.at mZ) rfl) rfl rfl rfl rfl rfl rfl (by simp only [maxLen]; omega) oZ ?_); clear E S a; intro a w v109 C109 E S hB109
              obtain ⟨ad109, c109, rfl⟩ := hB109.slice
              refine zd E ?_; clear E a; intro a E
              refine zp E (by first | exact zAc (q := 1) E rfl rfl rfl | exact zAd (q := 1) E rfl rfl rfl) ?_; clear E a; intro a E
              refine zAf rfl (zBa E S rfl rfl rfl rfl rfl rfl pZ (by first | exact Nat.le_of_ble_eq_true rfl | (simp; done) | (simp; omega)) ?_); clear E S a; intro a w E S; try dsimp only [List.set] at S
              refine wpList_nil ?_
              refine zAq ?_
              refine zAb hK ?_; clear hK K
              refine zAa ?_
              refine zd E ?_; clear E a; intro a E
              refine zp E (zAy E rfl rfl rfl (by first | exact zBq (y := 1) oZ | exact w_in oZ | exact zBj oZ | exact rfl)) ?_; clear E a; intro a E
              refine zd E ?_; clear E a; intro a E
              refine wpList_nil ?_
              refine zAn ?_
              have S := (S.del (A := [(b108, _)]) pZ).gather (A := C96) (B := J') pZ pZ
              have hsubJ : ∀ c ∈ J', c ∈ C96 ++ J' := fun c hc => List.mem_append_right _ hc
              refine ⟨_, by omega, i + 1, ⟨lf, s'.off, s'.wr + 1⟩, _, _, us' ++ [u], .slice ad109 (us'.length + 1) c109, C109, C96 ++ J', rfl, by omega, by rw [show N - (i + 1) = N - i - 1 by omega, hlf2]; exact hrest, by rw [List.length_append, List.length_singleton]; omega, by simp only; omega, by simp only; rw [hlf2]; split <;> omega, ?_, h3'.imp fun _ _ h => h.sub hsubJ, ?_, ?_, E.keep (kE5 rfl rfl rfl rfl rfl)⟩
              · rw [List.length_append, List.length_singleton, List.flatMap_append]; simpa using hB109
              · refine (h4'.imp fun _ _ h => h.sub hsubJ).snoc ⟨⟨x, by rw [hu]; exact hx, rfl⟩, by rw [hu]; rfl, ?_⟩
                rw [hu]; simp only [mkW]; rw [pad_id hsl]; exact hB96.rd.sub fun c hc => List.mem_append_left _ hc
              · exact S.front6 (A := [(q, _)]) pZ (B := Cd) pZ (C := C109) pZ (D := C96 ++ J') pZ (F := dd1 y) pZ (G := y.C) pZ
        · replace hb := Nrm.nrm hb
          refine wp_exit ?_
          refine zAl ?_; clear hK K
          refine zAl ?_
          refine zBi ?_
          refine zAb hK ?_; clear hK K
          refine wp_seq_k ?_; intro K hK
          refine zAa ?_
          refine zd E ?_; clear E a; intro a E
          refine wpList_nil ?_
          refine zAb hK ?_; clear hK K
          refine wp_ret ?_
          refine ret1 E rfl rfl ?_
          obtain rfl : i = N := by omega
          rw [Nat.sub_self, wrN] at hrest
          obtain ⟨C', e1, e2, e3⟩ := done hrest.symm h2' h3' h4' S
          exact ⟨_, rfl, C', e1, e2, e3⟩
end Go.Proofs.YtpjidiaekifmbaaGreatDoor
namespace Go.Sl
theorem zJp {ds : List Dk} {n : Nat} {x : Dk} (g : Dk → Dk) (hnd : (ds.map Dk.d).Nodup) (hx : ds[n]? = some x) : setD ds x.d g = ds.set n (g x) := by
 obtain ⟨A, B, rfl, rfl⟩ := zGs hx
 rw [zHp g hnd, set_mid]
end Go.Sl
namespace Go.Proofs.YtpjidiaekifmbaaGreatDoor
open Go.Sl
set_option maxRecDepth 10000
theorem qwithout_ret (q : Nat) (s : Pw) (vd vw : Value) (Cd Cw J : zAj) (ds : List Dk) (ws : List Wt) (ys : List Dd) (us : List Dw) (hCd : Buf Cd 138 1 vd ys.length (ys.map fun y => ptr y.b)) (hCw : Buf Cw 177 3 vw us.length (us.flatMap Dw.lay))
    (hds : All2 (DdOk J) ds ys) (hws : All2 (DwOk J ds) ws us) (hok : DkOk ds) (hwo : WtOk ws ds) (hwsl : ws.length ≤ 244335861110) (n : Nat) (x : Dk) (hx : ds[n]? = some x) (y : Dd) (hy : ys[n]? = some y) (keep : Bool) (As : List zAj) (w0 : World) (H : Hp w0 ([(q, qcl s vd vw)] :: Cd :: Cw :: dd1 y :: y.C :: As)) :
    Ret Tryz.prog 91 #[ptr q, .int .i64 n, .bool keep] w0 fun _ w' => ∃ vw' Cw' us' vs' C', Buf Cw' 177 3 vw' us'.length (us'.flatMap Dw.lay) ∧ All2 (DwOk J ds) (outW x.d ws) us' ∧ Buf C' 22 1 y.vp vs'.length vs' ∧ vs'.length = y.vs.length ∧
      (∀ j v, vs'[j]? = some v → Rd J 1 v 128 (byt (secB (if keep then nowW x.d ws x.pl else x.pl) j))) ∧ Trs w0 w' ([(q, qcl s vd vw)] :: Cd :: Cw :: dd1 y :: y.C :: As) ([(q, qcl s vd vw')] :: Cd :: Cw' :: dd1 y :: C' :: As) := by
  have S := St.begin H
  obtain ⟨y1, y2, y3, y4⟩ := hds.2 n x y hx hy
  obtain ⟨add, cd, rfl⟩ := hCd.slice
  obtain ⟨adw, cw, rfl⟩ := hCw.slice
  obtain ⟨adp, cp, hvp⟩ := y2.slice
  have hn : n < ys.length := (List.getElem?_eq_some_iff.1 hy).1
  have hxm : x ∈ ds := List.mem_of_getElem? hx
  have hwl := hws.1
  obtain ⟨gd, rfl⟩ := hCd.addr oZ
  have hfit : ∀ w ∈ ws, w.d = x.d → 128 * w.at_ + 128 ≤ x.pl.length := fun w hw h => (hwo w hw).2 x hxm h.symm
  have hlen : ∀ j, (nowW x.d (ws.take j) x.pl).length = x.pl.length := fun j => zHs _ _ rfl fun w hw => hfit w (List.mem_of_mem_take hw)
  have hpt : (ys.map fun y => ptr y.b)[n]? = some (ptr y.b) := by rw [List.getElem?_map, hy]; rfl
  have hdd1 : dd1 y = [(y.b, cel [.slice adp y.vs.length cp, .bool y.f] 140)] := by show [(y.b, cel [y.vp, .bool y.f] _)] = _; rw [hvp]
  rw [hvp] at y2
  refine zDi 53 Tryz.func91 rfl rfl dZ ?_; intro a E
  refine wp_seq_k ?_; intro K hK
  refine zAa ?_
  refine zd E ?_; clear E a; intro a E
  refine wpList_nil ?_
  refine zAb hK ?_; clear hK K
  iterate 2 (refine wp_seq_k ?_; intro K hK)
  refine zAa ?_
  refine zd E ?_; clear E a; intro a E
  refine wpList_nil ?_
  refine zAb hK ?_; clear hK K
  refine wp_block ?_
  refine wp_loop_ghost (fun (m : Nat) (a : Act) (w' : World) => ∃ (i : Nat) (us' : List Dw) (vs' : List Value) (vo : Value) (Co C' : zAj), m = us.length - i ∧ i ≤ us.length ∧ Buf Co 177 3 vo us'.length (us'.flatMap Dw.lay) ∧ All2 (DwOk J ds) (outW x.d (ws.take i)) us' ∧ Buf C' 22 1 (.slice adp y.vs.length cp) y.vs.length vs' ∧ vs'.length = y.vs.length ∧
   (∀ j v, vs'[j]? = some v → Rd J 1 v 128 (byt (secB (if keep then nowW x.d (ws.take i) x.pl else x.pl) j))) ∧ St w0 ([(q, qcl s (.slice (some ⟨gd, 0, none⟩) ys.length cd) (.slice adw us.length cw))] :: Cd :: Cw :: dd1 y :: y.C :: As) w' ([(q, qcl s (.slice (some ⟨gd, 0, none⟩) ys.length cd) (.slice adw us.length cw))] :: Cd :: Co :: dd1 y :: C' :: Cw :: As) ∧ Fr a 53 [(0, ptr q), (1, .int .i64 n), (2, .bool keep), (6, vo), (7, .int .i64 i)]) (us.length - 0) ?_ ?_
  · exact ⟨0, [], y.vs, _, [], y.C, rfl, by omega, Buf.nil _ _, by simpa [outW] using All2.nil, y2, rfl, (fun j v hv => by have h := y4 j v hv; cases keep <;> exact h), S.addNil.front6 (A := [(q, _)]) pZ (B := Cd) pZ (C := []) pZ (D := dd1 y) pZ (F := y.C) pZ (G := Cw) pZ, E.keep (kE5 rfl rfl rfl rfl rfl)⟩
  clear E; clear a; (try clear S); rintro m a w ⟨i, us', vs', vo, Co, C', rfl, hi, hCo, hout, hC', hvl, hvs, S, E⟩
  iterate 2 (refine wp_seq_k ?_; intro K hK)
  refine zAa ?_
  iterate 3 (refine zd E ?_; clear E a; intro a E)
  refine zp E (by first | exact zAc (q := 1) E rfl rfl rfl | exact zAd (q := 1) E rfl rfl rfl) ?_; clear E a; intro a E
  iterate 3 (refine zd E ?_; clear E a; intro a E)
  refine wpList_nil ?_
  refine zAb hK ?_; clear hK K
  refine zAs E rfl (fun hb => ?_) (fun hb => ?_)
  · replace hb := Nrm.nrm hb
    refine wp_skip ?_
    refine zAb hK ?_; clear hK K
    refine wp_seq_k ?_; intro K hK
    refine wp_block ?_
    refine wp_seq_k ?_; intro K hK
    have hiu : i < us.length := by omega
    obtain ⟨wt, u, h1, h2, ⟨z, hz, hzd⟩, h3, h4⟩ := hws.get (show i < ws.length by omega)
    obtain ⟨gw, rfl⟩ := hCw.addr oZ
    obtain ⟨hiu2, hu⟩ := List.getElem?_eq_some_iff.1 h2
    have hel := fun (w : World) (h : ∀ x ∈ Cw, w.heap[x.1]? = some x.2) => hCw.rd.elem (lay := Dw.lay) (w := w) Dw.lay_len h hiu
    rw [hu] at hel
    have hkn : u.k = n → wt.d = x.d := fun q => by rw [q] at hz; rw [← hzd]; rw [hz] at hx; cases hx; rfl
    have hnk : wt.d = x.d → u.k = n := fun q => idx_one hok.1 hz hx (hzd.trans q)
    have hwmem : wt ∈ ws := List.mem_of_getElem? h1
    obtain ⟨hiw, hwe⟩ := List.getElem?_eq_some_iff.1 h1
    have hst := outW_take x.d ws hiw
    rw [hwe] at hst
    have hnt := nowW_take x.d ws x.pl h1
    have hul := hout.1
    have hul2 := zIp x.d (ws.take i)
    rw [List.length_take] at hul2
    obtain ⟨ado, co, rfl⟩ := hCo.slice
    obtain ⟨adv, cv, huv⟩ := h4.slice
    have hlay : u.lay = [.int .i64 u.k, .int .i64 u.at_, .slice adv 128 cv] := by rw [← huv]; rfl
    refine zAa ?_
    iterate 2 (refine zd E ?_; clear E a; intro a E)
    refine zp E (by first | exact zAc (q := 1) E rfl rfl rfl | exact zAd (q := 1) E rfl rfl rfl) ?_; clear E a; intro a E
    iterate 2 (refine zd E ?_; clear E a; intro a E)
    refine zp E (zAz (i := i) (s := 3) E rfl rfl rfl rfl rfl rfl oZ) ?_; clear E a; intro a E
    refine zp E (zDx (vs := [.int .i64 u.k, .int .i64 u.at_, .slice adv 128 cv]) E rfl rfl rfl rfl (by rw [← hlay]; exact hel _ (S.stab.at mZ))) ?_; clear E a; intro a E
    refine zAf rfl (zBs E S rfl rfl dZ rfl rfl rfl ?_); clear E S a; intro a w b8 E S
    refine zAf rfl (zBr E S rfl rfl rfl rfl (by simp [Value.oneCell']) rfl pZ (by simp) ?_); clear E S a; intro a w E S; simp only [List.take_succ_cons, List.take_zero, List.drop_succ_cons, List.drop_zero, List.cons_append, List.nil_append, List.append_nil, List.length_cons, List.length_nil, Nat.zero_add, Nat.add_zero] at S
    refine wpList_nil ?_
    refine zAb hK ?_; clear hK K
    refine wp_seq_k ?_; intro K hK
    refine zAa ?_
    refine zp E (by first | exact zAc (q := 0) E rfl rfl rfl | exact zAd (q := 0) E rfl rfl rfl) ?_; clear E a; intro a E
    iterate 3 (refine zd E ?_; clear E a; intro a E)
    refine wpList_nil ?_
    refine zAb hK ?_; clear hK K
    refine zAs E rfl (fun hb => ?_) (fun hb => ?_)
    · replace hb := Nrm.nrm hb
      have hne : u.k ≠ n := oZ
      refine zAa ?_
      refine zd E ?_; clear E a; intro a E
      refine zp E (zBf (vs := [_, _, _]) E rfl rfl rfl (S.get (show List.Perm _ ([(b8, _)] :: _) from pZ)) rfl rfl) ?_; clear E a; intro a E
      refine zAf rfl (zBm (cells := [_, _, _]) E S rfl rfl dZ rfl rfl rfl rfl rfl dZ rfl ?_); clear E S a; intro a w b31 E S
      refine zAf rfl (zBl (by' := 40) E S rfl rfl dZ rfl rfl hCo pZ ((zBn (g := b31) (T := 177) (xs := [.int .i64 u.k, .int .i64 u.at_, .slice adv 128 cv]) (s := 3) (m := 1) rfl (by intro w hw; simp at hw; rcases hw with rfl | rfl | rfl <;> rfl) oZ 1).src (S.stab.at mZ) rfl) rfl rfl rfl rfl rfl rfl (by simp only [maxLen]; omega) oZ ?_); clear E S a; intro a w v32 C32 E S hB32
      refine zd E ?_; clear E a; intro a E
      refine wpList_nil ?_
      refine zAq ?_
      refine zAb hK ?_; clear hK K
      refine zAa ?_
      refine zd E ?_; clear E a; intro a E
      refine zp E (zAy E rfl rfl rfl (by first | exact zBq (y := 1) oZ | exact w_in oZ | exact zBj oZ | exact rfl)) ?_; clear E a; intro a E
      refine zd E ?_; clear E a; intro a E
      refine wpList_nil ?_
      refine zAn ?_
      first
      | (have S := ((S.del (A := [(b31, _)]) pZ).del (A := [(b8, _)]) pZ).front6 (A := [(q, _)]) pZ (B := Cd) pZ (C := C32) pZ (D := dd1 y) pZ (F := C') pZ (G := Cw) pZ
         have hdn : wt.d ≠ x.d := fun q => hne (hnk q)
         rw [if_pos hdn] at hst
         rw [if_neg hdn] at hnt
         exact ⟨_, by omega, i + 1, us' ++ [u], vs', _, C32, C', rfl, by omega, by rw [List.length_append, List.length_singleton, List.flatMap_append, List.flatMap_singleton, hlay]; exact hB32, by rw [hst]; exact hout.snoc ⟨⟨z, hz, hzd⟩, h3, h4⟩, hC', hvl, (by rw [hnt]; exact hvs), S, E.keep (kE5 rfl rfl rfl rfl rfl)⟩)
      | (have hdn : wt.d = x.d := hkn heq
         rw [if_neg (fun q => q hdn), List.append_nil] at hst
         rw [if_pos hdn] at hnt
         have hkt : keep = true := by simpa using hb
         subst hkt
         have S := (S.del (A := [(b8, _)]) pZ).front6 (A := [(q, _)]) pZ (B := Cd) pZ (C := Co) pZ (D := [(y.b, cel [.slice (some ⟨gp, 0, none⟩) y.vs.length cp, .bool y.f] 140)]) pZ (F := Cs15) pZ (G := Cw) pZ
         rw [← hdd1] at S
         refine ⟨_, by omega, i + 1, us', vs'.set u.at_ (.slice adv 128 cv), _, Co, Cs15, rfl, by omega, hCo, by rw [hst]; exact hout, hBs15, by rw [List.length_set]; exact hvl, ?_, S, E.keep (kE5 rfl rfl rfl rfl rfl)⟩
         intro j v hv
         rw [if_pos rfl, hnt, putS]
         rw [List.getElem?_set] at hv
         split at hv
         · rename_i hj
           subst hj
           split at hv
           · cases hv; rw [← h3, zIa (by rw [hlen]; omega) wt.hb, ← huv]; exact h4
           · cases hv
         · rename_i hj
           rw [zFj (by rw [hlen]; omega) wt.hb oZ]
           have := hvs j v hv
           rw [if_pos rfl] at this; exact this)
      | (have hdn : wt.d = x.d := hkn heq
         rw [if_neg (fun q => q hdn), List.append_nil] at hst
         have hkf : keep = false := by simpa using hb
         subst hkf
         have S := (S.del (A := [(b8, _)]) pZ).front6 (A := [(q, _)]) pZ (B := Cd) pZ (C := Co) pZ (D := dd1 y) pZ (F := C') pZ (G := Cw) pZ
         exact ⟨_, by omega, i + 1, us', vs', _, Co, C', rfl, by omega, hCo, by rw [hst]; exact hout, hC', hvl, hvs, S, E.keep (kE5 rfl rfl rfl rfl rfl)⟩)
    · replace hb := Nrm.nrm hb
      have heq : u.k = n := oZ
      refine wp_seq_k ?_; intro K hK
      refine zAa ?_
      refine zd E ?_; clear E a; intro a E
      refine wpList_nil ?_
      refine zAb hK ?_; clear hK K
      refine zAs E rfl (fun hb => ?_) (fun hb => ?_)
      · replace hb := Nrm.nrm hb
        obtain ⟨gp, rfl⟩ := hC'.addr (by have := hfit wt hwmem (hkn heq); omega)
        have hfw := hfit wt hwmem (hkn heq)
        rw [hdd1] at S
        refine zAw S (.ofL [(0, 0), (1, 0), (2, 0), (3, 0), (4, 0), (5, 0), (6, 0), (7, 0), (8, 0), (9, 0), (10, 0), (11, 0), (12, 0), (13, 0), (14, 0), (15, 3)]) yZ yZ ?_
        clear S; intro w S
        iterate 2 (refine zmd E ?_; clear E a; intro a E)
        refine zm E rfl (fun w h => by first | exact zAc (q := 0) E rfl rfl rfl | exact zAd (q := 0) E rfl rfl rfl) ?_; clear E a; intro a E
        iterate 2 (refine zmd E ?_; clear E a; intro a E)
        refine zm E rfl (fun w h => zAp (i := n) E rfl rfl rfl rfl rfl rfl oZ) ?_; clear E a; intro a E
        refine zm E rfl (fun w h => zAo E rfl rfl rfl (hCd.rd.cells (h.at mZ) rfl n _ hpt)) ?_; clear E a; intro a E
        refine zmd E ?_; clear E a; intro a E
        refine zm E rfl (fun w h => by first | exact zAc (q := 0) E rfl rfl rfl | exact zAd (q := 0) E rfl rfl rfl) ?_; clear E a; intro a E
        refine zmd E ?_; clear E a; intro a E
        refine zm E rfl (fun w h => by first | exact zAc (q := 1) E rfl rfl rfl | exact zAd (q := 1) E rfl rfl rfl) ?_; clear E a; intro a E
        refine zmd E ?_; clear E a; intro a E
        refine zm E rfl (fun w h => by first | exact zAc (q := 2) E rfl rfl rfl | exact zAd (q := 2) E rfl rfl rfl) ?_; clear E a; intro a E
        refine zmd E ?_; clear E a; intro a E
        refine zm E rfl (fun w h => zHn (i := u.at_) E rfl rfl rfl rfl rfl rfl oZ) ?_; clear E a; intro a E
        refine zCd rfl rfl (zJl E S rfl rfl rfl rfl rfl rfl hC' pZ (i := u.at_) oZ rfl ?_); clear E S a; intro a w Cs15 E hBs15 S
        refine zBd ?_
        refine zAq ?_
        refine zAb hK ?_; clear hK K
        refine zAa ?_
        refine zd E ?_; clear E a; intro a E
        refine zp E (zAy E rfl rfl rfl (by first | exact zBq (y := 1) oZ | exact w_in oZ | exact zBj oZ | exact rfl)) ?_; clear E a; intro a E
        refine zd E ?_; clear E a; intro a E
        refine wpList_nil ?_
        refine zAn ?_
        first
        | (have S := ((S.del (A := [(b31, _)]) pZ).del (A := [(b8, _)]) pZ).front6 (A := [(q, _)]) pZ (B := Cd) pZ (C := C32) pZ (D := dd1 y) pZ (F := C') pZ (G := Cw) pZ
           have hdn : wt.d ≠ x.d := fun q => hne (hnk q)
           rw [if_pos hdn] at hst
           rw [if_neg hdn] at hnt
           exact ⟨_, by omega, i + 1, us' ++ [u], vs', _, C32, C', rfl, by omega, by rw [List.length_append, List.length_singleton, List.flatMap_append, List.flatMap_singleton, hlay]; exact hB32, by rw [hst]; exact hout.snoc ⟨⟨z, hz, hzd⟩, h3, h4⟩, hC', hvl, (by rw [hnt]; exact hvs), S, E.keep (kE5 rfl rfl rfl rfl rfl)⟩)
        | (have hdn : wt.d = x.d := hkn heq
           rw [if_neg (fun q => q hdn), List.append_nil] at hst
           rw [if_pos hdn] at hnt
           have hkt : keep = true := by simpa using hb
           subst hkt
           have S := (S.del (A := [(b8, _)]) pZ).front6 (A := [(q, _)]) pZ (B := Cd) pZ (C := Co) pZ (D := [(y.b, cel [.slice (some ⟨gp, 0, none⟩) y.vs.length cp, .bool y.f] 140)]) pZ (F := Cs15) pZ (G := Cw) pZ
           rw [← hdd1] at S
           refine ⟨_, by omega, i + 1, us', vs'.set u.at_ (.slice adv 128 cv), _, Co, Cs15, rfl, by omega, hCo, by rw [hst]; exact hout, hBs15, by rw [List.length_set]; exact hvl, ?_, S, E.keep (kE5 rfl rfl rfl rfl rfl)⟩
           intro j v hv
           rw [if_pos rfl, hnt, putS]
           rw [List.getElem?_set] at hv
           split at hv
           · rename_i hj
             subst hj
             split at hv
             · cases hv; rw [← h3, zIa (by rw [hlen]; omega) wt.hb, ← huv]; exact h4
             · cases hv
           · rename_i hj
             rw [zFj (by rw [hlen]; omega) wt.hb oZ]
             have := hvs j v hv
             rw [if_pos rfl] at this; exact this)
        | (have hdn : wt.d = x.d := hkn heq
           rw [if_neg (fun q => q hdn), List.append_nil] at hst
           have hkf : keep = false := by simpa using hb
           subst hkf
           have S := (S.del (A := [(b8, _)]) pZ).front6 (A := [(q, _)]) pZ (B := Cd) pZ (C := Co) pZ (D := dd1 y) pZ (F := C') pZ (G := Cw) pZ
           exact ⟨_, by omega, i + 1, us', vs', _, Co, C', rfl, by omega, hCo, by rw [hst]; exact hout, hC', hvl, hvs, S, E.keep (kE5 rfl rfl rfl rfl rfl)⟩)
      · replace hb := Nrm.nrm hb
        refine wp_skip ?_
        refine zAq ?_
        refine zAb hK ?_; clear hK K
        refine zAa ?_
        refine zd E ?_; clear E a; intro a E
        refine zp E (zAy E rfl rfl rfl (by first | exact zBq (y := 1) oZ | exact w_in oZ | exact zBj oZ | exact rfl)) ?_; clear E a; intro a E
        refine zd E ?_; clear E a; intro a E
        refine wpList_nil ?_
        refine zAn ?_
        first
        | (have S := ((S.del (A := [(b31, _)]) pZ).del (A := [(b8, _)]) pZ).front6 (A := [(q, _)]) pZ (B := Cd) pZ (C := C32) pZ (D := dd1 y) pZ (F := C') pZ (G := Cw) pZ
           have hdn : wt.d ≠ x.d := fun q => hne (hnk q)
           rw [if_pos hdn] at hst
           rw [if_neg hdn] at hnt
           exact ⟨_, by omega, i + 1, us' ++ [u], vs', _, C32, C', rfl, by omega, by rw [List.length_append, List.length_singleton, List.flatMap_append, List.flatMap_singleton, hlay]; exact hB32, by rw [hst]; exact hout.snoc ⟨⟨z, hz, hzd⟩, h3, h4⟩, hC', hvl, (by rw [hnt]; exact hvs), S, E.keep (kE5 rfl rfl rfl rfl rfl)⟩)
        | (have hdn : wt.d = x.d := hkn heq
           rw [if_neg (fun q => q hdn), List.append_nil] at hst
           rw [if_pos hdn] at hnt
           have hkt : keep = true := by simpa using hb
           subst hkt
           have S := (S.del (A := [(b8, _)]) pZ).front6 (A := [(q, _)]) pZ (B := Cd) pZ (C := Co) pZ (D := [(y.b, cel [.slice (some ⟨gp, 0, none⟩) y.vs.length cp, .bool y.f] 140)]) pZ (F := Cs15) pZ (G := Cw) pZ
           rw [← hdd1] at S
           refine ⟨_, by omega, i + 1, us', vs'.set u.at_ (.slice adv 128 cv), _, Co, Cs15, rfl, by omega, hCo, by rw [hst]; exact hout, hBs15, by rw [List.length_set]; exact hvl, ?_, S, E.keep (kE5 rfl rfl rfl rfl rfl)⟩
           intro j v hv
           rw [if_pos rfl, hnt, putS]
           rw [List.getElem?_set] at hv
           split at hv
           · rename_i hj
             subst hj
             split at hv
             · cases hv; rw [← h3, zIa (by rw [hlen]; omega) wt.hb, ← huv]; exact h4
             · cases hv
           · rename_i hj
             rw [zFj (by rw [hlen]; omega) wt.hb oZ]
             have := hvs j v hv
             rw [if_pos rfl] at this; exact this)
        | (have hdn : wt.d = x.d := hkn heq
           rw [if_neg (fun q => q hdn), List.append_nil] at hst
           have hkf : keep = false := by simpa using hb
           subst hkf
           have S := (S.del (A := [(b8, _)]) pZ).front6 (A := [(q, _)]) pZ (B := Cd) pZ (C := Co) pZ (D := dd1 y) pZ (F := C') pZ (G := Cw) pZ
           exact ⟨_, by omega, i + 1, us', vs', _, Co, C', rfl, by omega, hCo, by rw [hst]; exact hout, hC', hvl, hvs, S, E.keep (kE5 rfl rfl rfl rfl rfl)⟩)
  · replace hb := Nrm.nrm hb
    refine wp_exit ?_
    refine zAl ?_; clear hK K
    refine zAl ?_
    refine zBi ?_
    refine zAb hK ?_; clear hK K
    obtain ⟨ado, co, rfl⟩ := hCo.slice
    refine zAa ?_
    iterate 3 (refine zd E ?_; clear E a; intro a E)
    refine zp E (by first | exact zAc (q := 1) E rfl rfl rfl | exact zAd (q := 1) E rfl rfl rfl) ?_; clear E a; intro a E
    refine zAf rfl (zBa E S rfl rfl rfl rfl rfl rfl pZ (by first | exact Nat.le_of_ble_eq_true rfl | (simp; done) | (simp; omega)) ?_); clear E S a; intro a w E S; try dsimp only [List.set] at S
    refine wpList_nil ?_
    refine end0 E rfl ?_
    obtain rfl : i = us.length := by omega
    rw [← hwl, List.take_length] at hout hvs
    refine ⟨_, rfl, _, Co, us', vs', C', hCo, hout, by rw [hvp, hvl]; exact hC', hvl, hvs, (S.del (A := Cw) pZ).tr⟩
end Go.Proofs.YtpjidiaekifmbaaGreatDoor
namespace Go.Sl
theorem set_self {α : Type} {l : List α} {n : Nat} {x : α} (h : l[n]? = some x) : l.set n x = l := by
 obtain ⟨A, B, rfl, rfl⟩ := zGs h
 rw [set_mid]
end Go.Sl
namespace Go.Proofs.YtpjidiaekifmbaaGreatDoor
open Go.Sl
set_option maxRecDepth 10000
theorem dd_swap {J : zAj} {ds : List Dk} {A B : List Dd} {y y' : Dd} {x' : Dk} (h : All2 (DdOk J) ds (A ++ y :: B)) (h' : DdOk J x' y') : All2 (DdOk J) (ds.set A.length x') (A ++ y' :: B) := by
 rw [← set_mid (a := y) (b := y')]; exact h.set _ h'
theorem qflush_ret (q : Nat) (R : Rk) (C : zAj) (hC : RfC q R C) (hok : DkOk R.ds) (hwo : WtOk R.ws R.ds) (hnow : zLg R) (hwsl : R.ws.length ≤ 244335861110) (n : Nat) (x : Dk) (hx : R.ds[n]? = some x) (w0 : World) (H : Hp w0 [C]) :
    Ret Tryz.prog 71 #[ptr q, .int .i64 n] w0 fun u w' => u = .int .i64 (flE R.pw x.failed) ∧ ∃ C', RfC q (R.flush x) C' ∧ Trs w0 w' [C] [C'] := by
  obtain ⟨vd, vw, Cd, Cw, J, ys, us, h1, h2, h3, h4, rfl⟩ := hC
  have S := rf_open (St.begin H)
  obtain ⟨y, hy, hyo⟩ := h3.at hx
  have hxm : x ∈ R.ds := List.mem_of_getElem? hx
  have hnw := (hnow x hxm).1
  have hnwl := (hok.2 x hxm).1
  have hyy := hyo
  obtain ⟨y1, y2, y3, y4⟩ := hyo
  obtain ⟨A, B, rfl, hAl⟩ := zGs hy
  have S := rf_out S
  obtain ⟨s, ws, ds⟩ := R
  simp only at h3 h4 hok hwo hx hxm hnw hwsl
  obtain ⟨C0, hC0⟩ : ∃ C0, C0 = (RfL q s vd vw Cd Cw J (A ++ y :: B)).flatten := ⟨_, rfl⟩
  have S : St w0 [C0] w0 ([(q, qcl s vd vw)] :: Cd :: Cw :: J :: dd1 y :: y.C :: (dch (A ++ B) ++ [])) := by rw [hC0]; exact S
  show Ret _ _ _ _ fun u w' => u = .int .i64 (flE s x.failed) ∧ ∃ C', RfC q (Rk.flush ⟨s, ws, ds⟩ x) C' ∧ Trs w0 w' [(RfL q s vd vw Cd Cw J (A ++ y :: B)).flatten] [C']
  rw [← hC0]
  refine zBx 15 Tryz.func71 rfl rfl dZ ?_; intro a E
  refine wp_seq_k ?_; intro K hK
  refine zAa ?_
  refine zd E ?_; clear E a; intro a E
  refine wpList_nil ?_
  refine zAb hK ?_; clear hK K
  refine wp_seq_k ?_; intro K hK
  refine zAa ?_
  iterate 2 (refine zd E ?_; clear E a; intro a E)
  refine zAg E rfl rfl dZ rfl Tryz.func90 rfl yZ rfl (qdown_ret q s _ _ Cd _ h1 n y hy _ (S.hp.sel sZ)) ?_
  rintro v8 w ⟨rfl, hT⟩; clear E a; intro a E
  have S := (S.call3 sZ hT).front6 (A := [(q, _)]) pZ (B := Cd) pZ (C := Cw) pZ (D := J) pZ (F := dd1 y) pZ (G := y.C) pZ; rw [y1] at E
  refine zd E ?_; clear E a; intro a E
  refine wpList_nil ?_
  refine zAb hK ?_; clear hK K
  iterate 2 (refine wp_seq_k ?_; intro K hK)
  refine zAa ?_
  iterate 2 (refine zd E ?_; clear E a; intro a E)
  refine wpList_nil ?_
  refine zAb hK ?_; clear hK K
  refine zAs E rfl (fun hb => ?_) (fun hb => ?_)
  · replace hb := Nrm.nrm hb
    refine zAa ?_
    iterate 2 (refine zd E ?_; clear E a; intro a E)
    have S := S.front5 (A := [(q, _)]) pZ (B := Cd) pZ (C := Cw) pZ (D := dd1 y) pZ (F := y.C) pZ
    refine zAg E rfl rfl dZ rfl Tryz.func91 rfl yZ rfl (qwithout_ret q s vd vw Cd Cw J ds ws _ us h1 h2 h3 h4 hok hwo hwsl n x hx y hy true _ _ S.hp) ?_
    rintro v13 w ⟨vw', Cw', us', vs', C', hB, hW, hC', hvl, hvs, hT⟩; clear E a; intro a E
    have S := S.all hT
    rw [if_pos rfl, ← hnw] at hvs
    refine wpList_nil ?_
    refine zAb hK ?_; clear hK K
    refine wp_seq_k ?_; intro K hK
    refine zAa ?_
    iterate 2 (refine zd E ?_; clear E a; intro a E)
    refine wpList_nil ?_
    refine zAb hK ?_; clear hK K
    refine wp_ret ?_
    refine ret1 E rfl rfl ?_
    have hne : flE s x.failed ≠ 0 ∨ flE s x.failed = 0 := by omega
    first
    | (have hfl : flE s x.failed = 0 := hb
       have hset : setD ds x.d (fun y => { y with pl := x.now }) = ds.set n { x with pl := x.now } := zJp _ hok.1 hx
       have S := S.front6 (A := [(q, qcl s vd vw')]) pZ (B := Cd) pZ (C := Cw') pZ (D := J) pZ (F := dd1 y) pZ (G := C') pZ
       have S := zGf (Ls := []) (rf_in (y := { y with C := C', vs := vs' }) S)
       have hdd : DdOk J { x with pl := x.now } { y with C := C', vs := vs' } := ⟨y1, hC', by show 128 * vs'.length = x.now.length; omega, hvs⟩
       have hsw := dd_swap h3 hdd
       rw [hAl] at hsw
       refine ⟨_, rfl, rfl, _, ⟨vd, vw', Cd, Cw', J, _, us', ?_, hB, ?_, ?_, rfl⟩, S.tr⟩
       · simpa using h1
       · simp only [Rk.flush, flP, hfl, if_true]; rw [hset]; exact hsw
       · simp only [Rk.flush, flP, flW, hfl, if_true]; exact dw_set hW _ _ fun _ => rfl)
    | (have hfl : flE s x.failed ≠ 0 := hb
       have hset : setD ds x.d (fun y => { y with pl := x.pl }) = ds := by rw [zJp _ hok.1 hx]; exact set_self hx
       refine ⟨_, rfl, rfl, C0, ⟨vd, vw, Cd, Cw, J, _, us, h1, h2, ?_, ?_, hC0⟩, by rw [hC0]; rw [hC0] at S; exact (zGf (Ls := []) (rf_in S)).tr⟩
       · simp only [Rk.flush, flP, if_neg hfl]; rw [hset]; exact h3
       · simp only [Rk.flush, flP, flW, if_neg hfl]; rw [hset]; exact h4)
  · replace hb := Nrm.nrm hb
    refine wp_skip ?_
    refine zAb hK ?_; clear hK K
    refine wp_seq_k ?_; intro K hK
    refine zAa ?_
    iterate 2 (refine zd E ?_; clear E a; intro a E)
    refine wpList_nil ?_
    refine zAb hK ?_; clear hK K
    refine wp_ret ?_
    refine ret1 E rfl rfl ?_
    have hne : flE s x.failed ≠ 0 ∨ flE s x.failed = 0 := by omega
    first
    | (have hfl : flE s x.failed = 0 := hb
       have hset : setD ds x.d (fun y => { y with pl := x.now }) = ds.set n { x with pl := x.now } := zJp _ hok.1 hx
       have S := S.front6 (A := [(q, qcl s vd vw')]) pZ (B := Cd) pZ (C := Cw') pZ (D := J) pZ (F := dd1 y) pZ (G := C') pZ
       have S := zGf (Ls := []) (rf_in (y := { y with C := C', vs := vs' }) S)
       have hdd : DdOk J { x with pl := x.now } { y with C := C', vs := vs' } := ⟨y1, hC', by show 128 * vs'.length = x.now.length; omega, hvs⟩
       have hsw := dd_swap h3 hdd
       rw [hAl] at hsw
       refine ⟨_, rfl, rfl, _, ⟨vd, vw', Cd, Cw', J, _, us', ?_, hB, ?_, ?_, rfl⟩, S.tr⟩
       · simpa using h1
       · simp only [Rk.flush, flP, hfl, if_true]; rw [hset]; exact hsw
       · simp only [Rk.flush, flP, flW, hfl, if_true]; exact dw_set hW _ _ fun _ => rfl)
    | (have hfl : flE s x.failed ≠ 0 := hb
       have hset : setD ds x.d (fun y => { y with pl := x.pl }) = ds := by rw [zJp _ hok.1 hx]; exact set_self hx
       refine ⟨_, rfl, rfl, C0, ⟨vd, vw, Cd, Cw, J, _, us, h1, h2, ?_, ?_, hC0⟩, by rw [hC0]; rw [hC0] at S; exact (zGf (Ls := []) (rf_in S)).tr⟩
       · simp only [Rk.flush, flP, if_neg hfl]; rw [hset]; exact h3
       · simp only [Rk.flush, flP, flW, if_neg hfl]; rw [hset]; exact h4)
end Go.Proofs.YtpjidiaekifmbaaGreatDoor
namespace Go.Sl
theorem secB_zeros {n i : Nat} (h : 128 * i + 128 ≤ n) : secB (List.replicate n 0) i = List.replicate 128 0 := by
 rw [secB, List.drop_replicate, List.take_replicate]; congr 1; omega
end Go.Sl
namespace Go.Proofs.YtpjidiaekifmbaaGreatDoor
open Go.Sl
set_option maxRecDepth 10000
theorem qadd_ret (q : Nat) (R : Rk) (C : zAj) (hC : RfC q R C) (hl : R.ds.length ≤ 1000) (n : Nat) (hn1 : 1 ≤ n) (hn2 : n ≤ 8192) (w0 : World) (H : Hp w0 [C]) :
    Ret Tryz.prog 27 #[ptr q, .int .i64 n] w0 fun u w' => ∃ C', u = .tuple #[.int .i64 R.ds.length, .int .i64 0] ∧ (∀ d gp gn, RfC q (R.add d gp gn n) C') ∧ Trs w0 w' [C] [C'] := by
  obtain ⟨vd, vw, Cd, Cw, J, ys, us, h1, h2, h3, h4, rfl⟩ := hC
  have S := rf_open (St.begin H)
  obtain ⟨s, ws, ds⟩ := R
  simp only at h3 h4 hl
  have hdl := h3.1
  obtain ⟨add, cd, rfl⟩ := h1.slice
  obtain ⟨C0, hC0⟩ : ∃ C0, C0 = (RfL q s (.slice add ys.length cd) vw Cd Cw J ys).flatten := ⟨_, rfl⟩
  have S : St w0 [C0] w0 ([(q, qcl s (.slice add ys.length cd) vw)] :: Cd :: Cw :: J :: (dch ys ++ [])) := by rw [hC0]; exact S
  show Ret _ _ _ _ fun u w' => ∃ C', u = .tuple #[.int .i64 ds.length, .int .i64 0] ∧ (∀ d gp gn, RfC q (Rk.add ⟨s, ws, ds⟩ d gp gn n) C') ∧ Trs w0 w' [(RfL q s (.slice add ys.length cd) vw Cd Cw J ys).flatten] [C']
  rw [← hC0]
  refine zBx 49 Tryz.func27 rfl rfl dZ ?_; intro a E
  refine wp_seq_k ?_; intro K hK
  refine zAa ?_
  iterate 2 (refine zd E ?_; clear E a; intro a E)
  refine wpList_nil ?_
  refine zAb hK ?_; clear hK K
  iterate 2 (refine wp_seq_k ?_; intro K hK)
  refine zAa ?_
  iterate 3 (refine zd E ?_; clear E a; intro a E)
  refine zBg E (t := 11) rfl ((decide_eq_false oZ)) (fun hb11 => ?_)
  iterate 2 (refine zyd E hb11 ?_; clear E a; intro a E)
  refine zp E (zAk E rfl rfl hb11 rfl) ?_; clear E a; intro a E
  refine wpList_nil ?_
  refine zAb hK ?_; clear hK K
  refine zAt E rfl ((decide_eq_false oZ)) ?_
  refine wp_skip ?_
  refine zAb hK ?_; clear hK K
  refine wp_seq_k ?_; intro K hK
  refine zAa ?_
  refine zp E (zBt (cells := [_, _]) E rfl rfl rfl) ?_; clear E a; intro a E
  refine zAf rfl (zBz E S rfl rfl dZ rfl rfl ?_); clear E S a; intro a w b16 E S
  refine zd E ?_; clear E a; intro a E
  refine wpList_nil ?_
  refine zAb hK ?_; clear hK K
  iterate 2 (refine wp_seq_k ?_; intro K hK)
  have S := S.addNil
  refine zAa ?_
  refine zd E ?_; clear E a; intro a E
  refine wpList_nil ?_
  refine zAb hK ?_; clear hK K
  refine wp_block ?_
  refine wp_loop_ghost (fun (m : Nat) (a : Act) (w' : World) => ∃ (i : Nat) (vp : Value) (Cp J2 : zAj) (vs : List Value), m = n - i ∧ i ≤ n ∧ Buf Cp 22 1 vp vs.length vs ∧ vs.length = i ∧ (∀ c ∈ J, c ∈ J2) ∧ (∀ (j : Nat) (v : Value), vs[j]? = some v → Rd J2 1 v 128 (byt (List.replicate 128 0))) ∧
   St w0 [C0] w' (Cp :: [(b16, cel [vp, .bool false] 140)] :: [(q, qcl s (.slice add ys.length cd) vw)] :: Cd :: Cw :: J2 :: (dch ys ++ [])) ∧ Fr a 49 [(0, ptr q), (1, .int .i64 n), (6, ptr b16), (7, .int .i64 i)]) (n - 0) ?_ ?_
  · exact ⟨0, _, [], J, [], rfl, by omega, Buf.nil _ _, rfl, fun c h => h, (fun j v h => by simp at h), S, E.keep (kE4 rfl rfl rfl rfl)⟩
  clear E; clear a; (try clear S); rintro m a w ⟨i, vp, Cp, J2, vs, rfl, hi, hCp, hvl, hJ2, hvs, S, E⟩
  iterate 2 (refine wp_seq_k ?_; intro K hK)
  refine zAa ?_
  iterate 3 (refine zd E ?_; clear E a; intro a E)
  refine wpList_nil ?_
  refine zAb hK ?_; clear hK K
  refine zAs E rfl (fun hb => ?_) (fun hb => ?_)
  · replace hb := Nrm.nrm hb
    refine wp_skip ?_
    refine zAb hK ?_; clear hK K
    refine wp_seq_k ?_; intro K hK
    refine wp_block ?_
    refine wp_seq_k ?_; intro K hK
    have hin : i < n := by omega
    refine zAa ?_
    refine zAg E rfl rfl dZ rfl Tryz.func58 rfl yZ rfl (noughts_ret _) ?_
    rintro v22 w ⟨vz, Cz, rfl, hz, hT⟩; clear E a; intro a E
    have S := S.fresh hT; obtain ⟨adz, cz, rfl⟩ := hz.slice
    refine zd E ?_; clear E a; intro a E
    refine wpList_nil ?_
    refine zAb hK ?_; clear hK K
    obtain ⟨adp, cp, rfl⟩ := hCp.slice
    refine zAa ?_
    iterate 3 (refine zd E ?_; clear E a; intro a E)
    refine zp E (by first | exact zAc (q := 0) E rfl rfl rfl | exact zAd (q := 0) E rfl rfl rfl) ?_; clear E a; intro a E
    iterate 2 (refine zd E ?_; clear E a; intro a E)
    refine zAf rfl (zBm (cells := [_]) E S rfl rfl dZ rfl rfl rfl rfl rfl dZ rfl ?_); clear E S a; intro a w b29 E S
    refine zAf rfl (zBl (by' := 24) E S rfl rfl dZ rfl rfl hCp pZ ((zBn (g := b29) (T := 22) (xs := [.slice adz 128 cz]) (s := 1) (m := 1) rfl (by simp [Value.oneCell']) oZ 1).src (S.stab.at mZ) rfl) rfl rfl rfl rfl rfl rfl (by simp only [maxLen]; omega) oZ ?_); clear E S a; intro a w v30 C30 E S hB30
    obtain ⟨ad30, c30, rfl⟩ := hB30.slice
    refine zd E ?_; clear E a; intro a E
    refine zp E (by first | exact zAc (q := 0) E rfl rfl rfl | exact zAd (q := 0) E rfl rfl rfl) ?_; clear E a; intro a E
    refine zAf rfl (zBa E S rfl rfl rfl rfl rfl rfl pZ (by first | exact Nat.le_of_ble_eq_true rfl | (simp; done) | (simp; omega)) ?_); clear E S a; intro a w E S; try dsimp only [List.set] at S
    refine wpList_nil ?_
    refine zAq ?_
    refine zAb hK ?_; clear hK K
    refine zAa ?_
    refine zd E ?_; clear E a; intro a E
    refine zp E (zAy E rfl rfl rfl (by first | exact zBq (y := 1) oZ | exact w_in oZ | exact zBj oZ | exact rfl)) ?_; clear E a; intro a E
    refine zd E ?_; clear E a; intro a E
    refine wpList_nil ?_
    refine zAn ?_
    have S := (S.del (A := [(b29, _)]) pZ).gather (A := Cz) (B := J2) pZ pZ
    have S := S.front6 (A := C30) pZ (B := [(b16, _)]) pZ (C := [(q, _)]) pZ (D := Cd) pZ (F := Cw) pZ (G := Cz ++ J2) pZ
    refine ⟨_, by omega, i + 1, .slice ad30 (vs.length + 1) c30, C30, Cz ++ J2, vs ++ [.slice adz 128 cz], rfl, by omega, by rw [List.length_append, List.length_singleton]; exact hB30, by rw [List.length_append, List.length_singleton, hvl], fun c hc => List.mem_append_right _ (hJ2 c hc), ?_, S, E.keep (kE4 rfl rfl rfl rfl)⟩
    intro j v hv
    rcases Nat.lt_or_ge j vs.length with h | h
    · rw [List.getElem?_append_left h] at hv; exact (hvs j v hv).sub fun c hc => List.mem_append_right _ hc
    · rw [List.getElem?_append_right h] at hv
      have h0 := (List.getElem?_eq_some_iff.1 hv).1
      rw [show j - vs.length = 0 by simp at h0; omega] at hv
      cases hv; exact hz.rd.sub fun c hc => List.mem_append_left _ hc
  · replace hb := Nrm.nrm hb
    refine wp_exit ?_
    refine zAl ?_; clear hK K
    refine zAl ?_
    refine zBi ?_
    refine zAb hK ?_; clear hK K
    refine wp_seq_k ?_; intro K hK
    obtain rfl : i = n := by omega
    obtain ⟨adp, cp, rfl⟩ := hCp.slice
    refine zAa ?_
    iterate 3 (refine zd E ?_; clear E a; intro a E)
    refine zp E (by first | exact zAc (q := 0) E rfl rfl rfl | exact zAd (q := 0) E rfl rfl rfl) ?_; clear E a; intro a E
    iterate 2 (refine zd E ?_; clear E a; intro a E)
    refine zAf rfl (zBm (cells := [_]) E S rfl rfl dZ rfl rfl rfl rfl rfl dZ rfl ?_); clear E S a; intro a w b39 E S
    refine zAf rfl (zBl (by' := 8) E S rfl rfl dZ rfl rfl h1 pZ ((zBn (g := b39) (T := 138) (xs := [ptr b16]) (s := 1) (m := 1) rfl (by simp [Value.oneCell']) oZ 1).src (S.stab.at mZ) rfl) rfl rfl rfl rfl rfl rfl (by simp only [maxLen]; omega) oZ ?_); clear E S a; intro a w v40 C40 E S hB40
    obtain ⟨ad40, c40, rfl⟩ := hB40.slice
    refine zd E ?_; clear E a; intro a E
    refine zp E (by first | exact zAc (q := 0) E rfl rfl rfl | exact zAd (q := 0) E rfl rfl rfl) ?_; clear E a; intro a E
    refine zAf rfl (zBa E S rfl rfl rfl rfl rfl rfl pZ (by first | exact Nat.le_of_ble_eq_true rfl | (simp; done) | (simp; omega)) ?_); clear E S a; intro a w E S; try dsimp only [List.set] at S
    refine wpList_nil ?_
    refine zAb hK ?_; clear hK K
    refine wp_seq_k ?_; intro K hK
    refine zAa ?_
    iterate 2 (refine zd E ?_; clear E a; intro a E)
    refine zp E (by first | exact zAc (q := 0) E rfl rfl rfl | exact zAd (q := 0) E rfl rfl rfl) ?_; clear E a; intro a E
    iterate 2 (refine zd E ?_; clear E a; intro a E)
    refine zp E (zCo E rfl rfl rfl (by first | exact zEc (y := 1) oZ oZ | exact w_in oZ | exact zBj oZ | exact rfl)) ?_; clear E a; intro a E
    iterate 2 (refine zd E ?_; clear E a; intro a E)
    refine wpList_nil ?_
    refine zAb hK ?_; clear hK K
    refine wp_ret ?_
    refine ret2 E rfl rfl rfl ?_
    obtain ⟨y, hy⟩ : ∃ y : Dd, y = ⟨b16, .slice adp vs.length cp, Cp, vs, false⟩ := ⟨_, rfl⟩
    have S := (S.del (A := [(b39, _)]) pZ).front6 (A := [(q, qcl s (.slice ad40 (ys.length + 1) c40) vw)]) pZ (B := C40) pZ (C := Cw) pZ (D := J2) pZ (F := [(b16, cel [.slice adp vs.length cp, .bool false] 140)]) pZ (G := Cp) pZ
    have S : St w0 [C0] w ([(q, qcl s (.slice ad40 (ys.length + 1) c40) vw)] :: C40 :: Cw :: J2 :: dd1 y :: y.C :: (dch ys ++ [])) := by rw [hy]; exact S
    have e9 : dch ys ++ [] = dch (ys ++ []) ++ [] := by rw [List.append_nil ys]
    rw [e9] at S
    have S := zGf (Ls := []) (rf_in (A := ys) (B := []) S)
    refine ⟨_, rfl, _, by rw [hdl]; rfl, fun d gp gn => ⟨.slice ad40 (ys.length + 1) c40, vw, C40, Cw, J2, ys ++ [y], us, ?_, h2, ?_, ?_, rfl⟩, S.tr⟩
    · rw [List.length_append, List.length_singleton, List.map_append, List.map_singleton, hy]; exact hB40
    · simp only [Rk.add]
      refine (h3.imp fun _ _ h => h.sub hJ2).snoc ?_
      rw [hy]
      refine ⟨rfl, hCp, by show 128 * vs.length = (List.replicate (i * 128) (0 : UInt8)).length; rw [List.length_replicate]; omega, fun j v hv => ?_⟩
      have hj := (List.getElem?_eq_some_iff.1 hv).1
      show Rd J2 1 v 128 (byt (secB (List.replicate (i * 128) 0) j))
      rw [secB_zeros (by simp only at hj; omega)]; exact hvs j v hv
    · simp only [Rk.add]
      exact h4.imp fun w u ⟨⟨x, g1, g2⟩, g3, g4⟩ => ⟨⟨x, by rw [List.getElem?_append_left (List.getElem?_eq_some_iff.1 g1).1]; exact g1, g2⟩, g3, g4.sub hJ2⟩
end Go.Proofs.YtpjidiaekifmbaaGreatDoor
namespace Go.Sl
theorem nowW_out (d e : Nat) (ws : List Wt) (pl : List UInt8) : nowW d (outW e ws) pl = if d = e then pl else nowW d ws pl := by
 unfold nowW outW
 rw [List.filter_filter]
 by_cases h : d = e
 ·rw [if_pos h]
  have : ws.filter (fun a => decide (a.d = d) && decide (a.d ≠ e)) = [] := by
   rw [List.filter_eq_nil_iff]; intro a _; simp; omega
  rw [this]; rfl
 ·rw [if_neg h]
  congr 1
  apply List.filter_congr
  intro a _
  by_cases h2 : a.d = d <;> simp [h2, h]
theorem nowW_none {d : Nat} {ws : List Wt} (h : ∀ w ∈ ws, w.d ≠ d) (pl : List UInt8) : nowW d ws pl = pl := by
 unfold nowW
 rw [show ws.filter (fun w => decide (w.d = d)) = [] from by rw [List.filter_eq_nil_iff]; intro a ha; simpa using h a ha]
 rfl
theorem nowW_app {d : Nat} (ws t : List Wt) (pl : List UInt8) (h : ∀ w ∈ t, w.d ≠ d) : nowW d (ws ++ t) pl = nowW d ws pl := by
 unfold nowW
 rw [List.filter_append, show t.filter (fun w => decide (w.d = d)) = [] from by rw [List.filter_eq_nil_iff]; intro a ha; simpa using h a ha, List.append_nil]
theorem wrN_now {d a : Nat} {b pl : List UInt8} : ∀ (k i : Nat) (s : Pw) (nw : List UInt8) (ws : List Wt), 128 * (i + k) ≤ b.length → nw = nowW d ws pl → (wrN d a b k i s nw ws).2.1 = nowW d (wrN d a b k i s nw ws).2.2.1 pl
 | 0, i, s, nw, ws, _, h => h
 | k + 1, i, s, nw, ws, hb, h => by
  rw [wrN]
  split
  ·exact h
  ·refine wrN_now k (i + 1) _ _ _ oZ ?_
   rw [nowW_snoc, if_pos (show (mkW d (a + i) (secB b i)).d = d from rfl), ← h]
   show setS nw (a + i) (secB b i) = setS nw (a + i) (pad (secB b i))
   rw [pad_id (zCf oZ)]
theorem wrS_app (d n : Nat) (at_ : Int) (b : List UInt8) (s : Pw) (f : Bool) (nw : List UInt8) (ws : List Wt) : ∃ t, (wrS d n at_ b s f nw ws).2.2.1 = ws ++ t ∧ ∀ w ∈ t, w.d = d := by
 unfold wrS
 split
 ·exact ⟨[], by simp, by simp⟩
 split
 ·exact ⟨[], by simp, by simp⟩
 split
 ·exact ⟨[], by simp, by simp⟩
 ·exact wrN_app _ _ _ _ _
theorem wrS_now {d n : Nat} {at_ : Int} {b pl : List UInt8} (s : Pw) (f : Bool) (nw : List UInt8) (ws : List Wt) (h : nw = nowW d ws pl) : (wrS d n at_ b s f nw ws).2.1 = nowW d (wrS d n at_ b s f nw ws).2.2.1 pl := by
 unfold wrS
 split; exact h
 split; exact h
 split; exact h
 exact wrN_now _ _ _ _ _ oZ h
end Go.Sl
namespace Go.Proofs.YtpjidiaekifmbaaGreatDoor
open Go.Sl
theorem mem_setD {ds : List Dk} {d : Nat} {g : Dk → Dk} {z : Dk} (h : z ∈ setD ds d g) : ∃ y ∈ ds, z = if y.d = d then g y else y := by
 obtain ⟨y, h1, h2⟩ := List.mem_map.1 h
 exact ⟨y, h1, h2.symm⟩
theorem now_set {R : Rk} (hok : DkOk R.ds) (h : zLg R) {x : Dk} (hx : x ∈ R.ds) (s' : Pw) (ws' : List Wt) (g : Dk → Dk) (hgd : (g x).d = x.d) (hx' : (g x).now = nowW x.d ws' (g x).pl ∧ (g x).pl.length % 128 = 0) (hy' : ∀ d pl, d ≠ x.d → nowW d ws' pl = nowW d R.ws pl) : zLg ⟨s', ws', setD R.ds x.d g⟩ := by
 intro z hz
 obtain ⟨y, hy, rfl⟩ := mem_setD hz
 by_cases hd : y.d = x.d
 ·rw [if_pos hd, zGx hok.1 hy hx hd, hgd]; exact hx'
 ·rw [if_neg hd]
  show y.now = nowW y.d ws' y.pl ∧ _
  rw [hy' y.d y.pl hd]; exact h y hy
theorem now_write {R : Rk} (hok : DkOk R.ds) (h : zLg R) {x : Dk} (hx : x ∈ R.ds) (at_ : Int) (b : List UInt8) : zLg (R.write x at_ b) := by
 obtain ⟨h1, h2⟩ := h x hx
 refine now_set hok h hx _ _ _ rfl ⟨wrS_now _ _ _ _ h1, h2⟩ fun d pl hd => ?_
 obtain ⟨t, e, ht⟩ := wrS_app x.d x.pl.length at_ b R.pw x.failed x.now R.ws
 rw [e]; exact nowW_app _ _ _ fun w hw q => hd (by rw [← q, ht w hw])
theorem now_flush {R : Rk} (hok : DkOk R.ds) (h : zLg R) {x : Dk} (hx : x ∈ R.ds) : zLg (R.flush x) := by
 obtain ⟨h1, h2⟩ := h x hx
 have hl := (hok.2 x hx).1
 refine now_set hok h hx _ _ _ rfl ?_ fun d pl hd => ?_
 ·simp only [flW, flP]
  by_cases hf : flE R.pw x.failed = 0
  ·simp only [if_pos hf]; rw [nowW_out, if_pos rfl]; exact ⟨rfl, by rw [hl]; exact h2⟩
  ·simp only [if_neg hf]; exact ⟨h1, h2⟩
 ·simp only [flW]; split
  ·rw [nowW_out, if_neg hd]
  ·rfl
theorem now_add {R : Rk} (hwo : WtOk R.ws R.ds) (h : zLg R) (d gp gn n : Nat) (hd : ∀ y ∈ R.ds, y.d ≠ d) : zLg (R.add d gp gn n) := by
 intro z hz
 rcases List.mem_append.1 hz with hz | hz
 ·exact h z hz
 ·rw [List.mem_singleton.1 hz]
  refine ⟨?_, by simp only [List.length_replicate]; omega⟩
  show List.replicate (n * 128) 0 = nowW d R.ws (List.replicate (n * 128) 0)
  rw [nowW_none]
  intro w hw q
  obtain ⟨⟨y, h1, h2⟩, -⟩ := hwo w hw
  exact hd y h1 (h2.trans q)
end Go.Proofs.YtpjidiaekifmbaaGreatDoor
namespace Go.Sl
end Go.Sl
namespace Go.Proofs.YtpjidiaekifmbaaGreatDoor
open Go.Sl
set_option maxRecDepth 10000
theorem dlbencode_ret (O : zAj) (v : Value) (l : Lbl) (hO : Rd O 3 v l.tops.length (l.tops.flatMap Tp.lay)) (ho : l.Ok) (w0 : World) (H : Hp w0 [O]) :
  Ret Tryz.prog 67 #[lbagg l v] w0 fun u w' => ∃ v C, u = .tuple #[v, .int .i64 (lbE l)] ∧ Buf C 5 1 v (lbO l).length (byt (lbO l)) ∧ Trs w0 w' [O] [C, O] := by
 have S := St.begin H
 have hO0 := hO
 have o1 := ho.pool
 have hl4 : lLet.length = 4 := rfl
 have hHl := zGz l
 obtain ⟨ad, c, rfl⟩ := hO.slice
 refine zCh 66 Tryz.func67 rfl rfl dZ ?_; intro a E
 refine wp_seq_k ?_; intro K hK
 refine zAa ?_
 refine zAf rfl (zBz E S rfl rfl dZ rfl rfl ?_); clear E S a; intro a w b1 E S
 iterate 2 (refine zd E ?_; clear E a; intro a E)
 refine wpList_nil ?_
 refine zAb hK ?_; clear hK K
 refine wp_seq_k ?_; intro K hK
 refine zAa ?_
 refine zp E (zBf (vs := [_, _, _, _]) E rfl rfl rfl (S.get pZ) rfl rfl) ?_; clear E a; intro a E
 refine zAg E rfl rfl dZ rfl Tryz.func87 rfl yZ rfl (dlbcheck_ret O _ l hO0 _ (S.hp.sel sZ)) ?_
 rintro v8 w ⟨rfl, hT⟩; clear E a; intro a E
 have S := S.call1 sZ hT
 refine zd E ?_; clear E a; intro a E
 refine wpList_nil ?_
 refine zAb hK ?_; clear hK K
 iterate 2 (refine wp_seq_k ?_; intro K hK)
 refine zAa ?_
 iterate 2 (refine zd E ?_; clear E a; intro a E)
 refine wpList_nil ?_
 refine zAb hK ?_; clear hK K
 refine zAs E rfl (fun hb => ?_) (fun hb => ?_)
 ·replace hb := Nrm.nrm hb
  refine wp_seq_k ?_; intro K hK
  refine zAa ?_
  iterate 3 (refine zd E ?_; clear E a; intro a E)
  refine wpList_nil ?_
  refine zAb hK ?_; clear hK K
  refine wp_ret ?_
  refine zBc ?_; clear hK K
  refine ret2 E rfl rfl rfl ?_
  exact ⟨_, rfl, .slice none 0 0, [], rfl, by rw [lbO_no hb]; exact Buf.nil _ _, (S.addNil.only (Bs := [[], O]) sZ).tr⟩
 ·replace hb := Nrm.nrm hb
  refine wp_skip ?_
  refine zAb hK ?_; clear hK K
  refine wp_seq_k ?_; intro K hK
  have hpe := hb
  obtain ⟨hh, hmm⟩ := (zGr l).1 hb
  have hpl := half_place hh hmm
  obtain ⟨m1, m2, m3, m4, m5, m6⟩ := hh
  obtain ⟨g, off, rfl⟩ := hO.addr oZ
  obtain ⟨tn, htn⟩ : ∃ n : Nat, l.top = n := ⟨l.top.toNat, by omega⟩
  obtain ⟨pn, hpn⟩ : ∃ n : Nat, l.place = n := ⟨l.place.toNat, by omega⟩
  have hH : lbH l = lLet ++ zBu l.pool 8 ++ [UInt8.ofNat tn, UInt8.ofNat pn, UInt8.ofNat l.tops.length] := by simp [lbH, htn, hpn, form1]
  have hsm := zKn hpe
  refine zAa ?_
  refine zAf rfl (zBm (cells := [_, _, _, _]) E S rfl rfl dZ rfl rfl rfl rfl rfl dZ rfl ?_); clear E S a; intro a w b12 E S
  refine zAf rfl (wp_mark E S rfl rfl rfl dZ rfl rfl rfl pZ ?_); clear E S a; intro a w E S
  refine zd E ?_; clear E a; intro a E
  refine wpList_nil ?_
  refine zAb hK ?_; clear hK K
  refine wp_seq_k ?_; intro K hK
  refine zAa ?_
  refine zd E ?_; clear E a; intro a E
  refine zp E (by first | exact zAc (q := 0) E rfl rfl rfl | exact zAd (q := 0) E rfl rfl rfl) ?_; clear E a; intro a E
  refine zd E ?_; clear E a; intro a E
  refine zAg E rfl rfl dZ rfl Tryz.func88 rfl yZ rfl (dnumf_ret b12 lLet _ l.pool 8 (rd_mark lLet oZ) oZ o1 oZ oZ _ (S.hp.sel sZ)) ?_
  rintro v17 w ⟨C1, hC1, hT⟩; clear E a; intro a E
  have S := S.call1 sZ hT
  refine zd E ?_; clear E a; intro a E
  refine wpList_nil ?_
  refine zAb hK ?_; clear hK K
  refine wp_seq_k ?_; intro K hK
  have hq1 : (lLet ++ zBu l.pool 8).length = 12 := by rw [List.length_append, zBh]; omega
  have hq2 : [UInt8.ofNat tn, UInt8.ofNat pn, UInt8.ofNat l.tops.length].length = 3 := rfl
  refine zAa ?_
  refine zd E ?_; clear E a; intro a E
  refine zp E (by first | exact zAc (q := 2) E rfl rfl rfl | exact zAd (q := 2) E rfl rfl rfl) ?_; clear E a; intro a E
  refine zd E ?_; clear E a; intro a E
  rw [htn] at E
  refine zp E (zBe E rfl rfl rfl rfl (w8 _)) ?_; clear E a; intro a E
  refine zp E (by first | exact zAc (q := 3) E rfl rfl rfl | exact zAd (q := 3) E rfl rfl rfl) ?_; clear E a; intro a E
  refine zd E ?_; clear E a; intro a E
  rw [hpn] at E
  refine zp E (zBe E rfl rfl rfl rfl (w8 _)) ?_; clear E a; intro a E
  refine zp E (by first | exact zAc (q := 1) E rfl rfl rfl | exact zAd (q := 1) E rfl rfl rfl) ?_; clear E a; intro a E
  iterate 2 (refine zd E ?_; clear E a; intro a E)
  refine zp E (zBe E rfl rfl rfl rfl (w8 _)) ?_; clear E a; intro a E
  refine zAf rfl (zBm (cells := [_, _, _]) E S rfl rfl dZ rfl rfl rfl rfl rfl dZ rfl ?_); clear E S a; intro a w b29 E S
  refine zAf rfl (zBl (by' := 1) E S rfl rfl dZ rfl rfl hC1 pZ ((zFv b29 [UInt8.ofNat tn, UInt8.ofNat pn, UInt8.ofNat l.tops.length] 5 (by simp)).rd.src (S.stab.at mZ) rfl) rfl rfl rfl rfl rfl rfl (by simp only [maxLen]; omega) oZ ?_); clear E S a; intro a w v30 C30 E S hB30
  refine zd E ?_; clear E a; intro a E
  refine wpList_nil ?_
  have hC2 : Buf C30 5 1 v30 (lbH l).length (byt (lbH l)) := by rw [hH, zBw, List.length_append]; exact hB30
  refine zAb hK ?_; clear hK K
  iterate 2 (refine wp_seq_k ?_; intro K hK)
  replace E := E.keep (e' := [(1, _), (2, _), (3, _), (5, _)]) (kE4 rfl rfl rfl rfl)
  refine zAa ?_
  refine zd E ?_; clear E a; intro a E
  refine wpList_nil ?_
  refine zAb hK ?_; clear hK K
  refine wp_block ?_
  refine wp_loop_ghost (fun (m : Nat) (a : Act) (w' : World) => ∃ (i : Nat) (v : Value) (C' : zAj), m = l.tops.length - i ∧ i ≤ l.tops.length ∧ Buf C' 5 1 v (lbH l ++ (l.tops.take i).flatMap tpB).length (byt (lbH l ++ (l.tops.take i).flatMap tpB)) ∧ (∃ Ls, St w0 [O] w' (C' :: [(b1, cel [.int .u64 l.pool, .slice (some ⟨g, off, none⟩) l.tops.length c, .int .i64 l.top, .int .i64 l.place] 76)] :: O :: Ls)) ∧ Fr a 66 [(1, ptr b1), (5, v), (6, .int .i64 i)]) (l.tops.length - 0) ?_ ?_
  ·exact ⟨0, v30, C30, rfl, by omega, by simpa using hC2, ⟨_, S.front3 pZ (B := [(b1, _)]) pZ (C := O) pZ⟩, E.keep (kE3 rfl rfl rfl)⟩
  clear E; clear a; (try clear S); rintro m a w ⟨i, v, C', rfl, hi, hC', ⟨Ls, S⟩, E⟩
  iterate 2 (refine wp_seq_k ?_; intro K hK)
  refine zAa ?_
  refine zd E ?_; clear E a; intro a E
  refine zp E (by first | exact zAc (q := 1) E rfl rfl rfl | exact zAd (q := 1) E rfl rfl rfl) ?_; clear E a; intro a E
  iterate 3 (refine zd E ?_; clear E a; intro a E)
  refine wpList_nil ?_
  refine zAb hK ?_; clear hK K
  refine zAs E rfl (fun hb => ?_) (fun hb => ?_)
  ·replace hb := Nrm.nrm hb
   refine wp_skip ?_
   refine zAb hK ?_; clear hK K
   refine wp_seq_k ?_; intro K hK
   refine wp_block ?_
   refine wp_seq_k ?_; intro K hK
   have hib : i < l.tops.length := by omega
   have hmd := hmm _ (List.getElem_mem hib)
   have hst := zHh l.tops hib
   have htl := zJn (l.tops.take i)
   rw [List.length_take, Nat.min_eq_left oZ] at htl
   unfold Tp.made at hmd
   obtain ⟨kn, hkn⟩ : ∃ n : Nat, l.tops[i].kind = n := ⟨l.tops[i].kind.toNat, by omega⟩
   obtain ⟨vn, hvn⟩ : ∃ n : Nat, l.tops[i].leaves = n := ⟨l.tops[i].leaves.toNat, by omega⟩
   obtain ⟨sn, hsn⟩ : ∃ n : Nat, l.tops[i].sectors = n := ⟨l.tops[i].sectors.toNat, by omega⟩
   have hB : tpB l.tops[i] = [UInt8.ofNat kn, UInt8.ofNat vn] ++ zBu sn 4 := by simp [tpB, hkn, hvn, hsn, form1]
   have hq3 : (lbH l ++ (l.tops.take i).flatMap tpB).length = 15 + 6 * i := by rw [List.length_append, htl, hHl]
   have hq4 : [UInt8.ofNat kn, UInt8.ofNat vn].length = 2 := rfl
   refine zAw S (.ofL [(0, 0), (1, 0), (2, 0), (3, 0), (4, 0), (5, 0), (6, 0), (7, 0), (8, 0), (9, 0), (10, 0), (11, 0), (12, 0), (13, 0), (14, 0), (15, 1), (16, 3), (17, 2)]) yZ yZ ?_
   clear S; intro w S
   refine zmd E ?_; clear E a; intro a E
   refine zm E rfl (fun w h => by first | exact zAc (q := 1) E rfl rfl rfl | exact zAd (q := 1) E rfl rfl rfl) ?_; clear E a; intro a E
   iterate 2 (refine zmd E ?_; clear E a; intro a E)
   refine zm E rfl (fun w h => by first | exact zAp E rfl rfl rfl rfl rfl rfl oZ | exact zAz E rfl rfl rfl rfl rfl rfl oZ | exact zAm E rfl rfl rfl rfl rfl rfl oZ) ?_; clear E a; intro a E
   refine zm E rfl (fun w h => by first | exact zAc (q := 0) E rfl rfl rfl | exact zAd (q := 0) E rfl rfl rfl) ?_; clear E a; intro a E
   refine zm E rfl (fun w h => zAo E rfl rfl rfl (hO.elem (lay := Tp.lay) Tp.lay_len (h.at mZ) (i := i) hib 0 _ rfl)) ?_; clear E a; intro a E
   rw [hkn] at E
   refine zm E rfl (fun w h => zBe E rfl rfl rfl rfl (w8 _)) ?_; clear E a; intro a E
   refine zm E rfl (fun w h => by first | exact zAc (q := 1) E rfl rfl rfl | exact zAd (q := 1) E rfl rfl rfl) ?_; clear E a; intro a E
   iterate 2 (refine zmd E ?_; clear E a; intro a E)
   refine zm E rfl (fun w h => by first | exact zAp E rfl rfl rfl rfl rfl rfl oZ | exact zAz E rfl rfl rfl rfl rfl rfl oZ | exact zAm E rfl rfl rfl rfl rfl rfl oZ) ?_; clear E a; intro a E
   refine zm E rfl (fun w h => by first | exact zAc (q := 1) E rfl rfl rfl | exact zAd (q := 1) E rfl rfl rfl) ?_; clear E a; intro a E
   refine zm E rfl (fun w h => zAo E rfl rfl rfl (hO.elem (lay := Tp.lay) Tp.lay_len (h.at mZ) (i := i) hib 1 _ rfl)) ?_; clear E a; intro a E
   rw [hvn] at E
   refine zm E rfl (fun w h => zBe E rfl rfl rfl rfl (w8 _)) ?_; clear E a; intro a E
   refine zDb rfl rfl (zBm (cells := [_, _]) E S rfl rfl dZ rfl rfl rfl rfl rfl dZ rfl ?_); clear E S a; intro a w b53 E S; refine ⟨S.stab.sub (by first | (simp; done) | (simp +contextual; done) | (simp [*]; done)), ?_⟩
   refine zCd rfl rfl (zBl (by' := 1) E S rfl rfl dZ rfl rfl hC' pZ ((zFv b53 [UInt8.ofNat kn, UInt8.ofNat vn] 5 (by simp)).rd.src (S.stab.at mZ) rfl) rfl rfl rfl rfl rfl rfl (by simp only [maxLen]; omega) oZ ?_); clear E S a; intro a w v54 C54 E S hB54
   refine zBp E rfl rfl rfl dZ (fun w => zCi E rfl rfl) ?_; clear E a; intro a E
   refine zBd ?_
   have hC3 : Buf C54 5 1 v54 (lbH l ++ (l.tops.take i).flatMap tpB ++ [UInt8.ofNat kn, UInt8.ofNat vn]).length (byt (lbH l ++ (l.tops.take i).flatMap tpB ++ [UInt8.ofNat kn, UInt8.ofNat vn])) := by rw [zBw, List.length_append]; exact hB54
   refine zAb hK ?_; clear hK K
   refine zAa ?_
   refine zd E ?_; clear E a; intro a E
   refine zp E (by first | exact zAc (q := 1) E rfl rfl rfl | exact zAd (q := 1) E rfl rfl rfl) ?_; clear E a; intro a E
   iterate 2 (refine zd E ?_; clear E a; intro a E)
   refine zp E (by first | exact zAp E rfl rfl rfl rfl rfl rfl oZ | exact zAz E rfl rfl rfl rfl rfl rfl oZ | exact zAm E rfl rfl rfl rfl rfl rfl oZ) ?_; clear E a; intro a E
   refine zp E (by first | exact zAc (q := 2) E rfl rfl rfl | exact zAd (q := 2) E rfl rfl rfl) ?_; clear E a; intro a E
   refine zp E (zAo E rfl rfl rfl (hO.elem (lay := Tp.lay) Tp.lay_len (S.stab.at mZ) (i := i) hib 2 _ rfl)) ?_; clear E a; intro a E
   rw [hsn] at E
   refine zp E (by first | exact zBe E rfl rfl rfl rfl (by first | exact wu8 _ | exact zHm oZ | exact zEo oZ | exact w_in oZ | exact zBj oZ | exact rfl) | exact zCc E rfl rfl rfl rfl rfl (by assumption) (S.stab.at (by simp))) ?_; clear E a; intro a E
   refine zAg E rfl rfl dZ rfl Tryz.func88 rfl yZ rfl (zIc _ _ C54 sn 4 hC3 (by simp only [List.length_append, List.length_cons, List.length_nil]; omega) oZ oZ _ (S.hp.sel sZ)) ?_
   rintro v63 w ⟨C4, hC4, hT⟩; clear E a; intro a E
   have S := S.call1 sZ hT
   refine zd E ?_; clear E a; intro a E
   refine wpList_nil ?_
   refine zAq ?_
   refine zAb hK ?_; clear hK K
   refine zAa ?_
   refine zd E ?_; clear E a; intro a E
   refine zp E (zAy E rfl rfl rfl (by first | exact zBq (y := 1) oZ | exact w_in oZ | exact zBj oZ | exact rfl)) ?_; clear E a; intro a E
   refine zd E ?_; clear E a; intro a E
   refine wpList_nil ?_
   refine zAn ?_
   have e : lbH l ++ (l.tops.take (i + 1)).flatMap tpB = lbH l ++ (l.tops.take i).flatMap tpB ++ [UInt8.ofNat kn, UInt8.ofNat vn] ++ zBu sn 4 := by rw [hst, hB]; simp only [List.append_assoc]
   rw [← e] at hC4
   exact ⟨_, by omega, i + 1, _, C4, rfl, by omega, hC4, ⟨_, S.front3 pZ (B := [(b1, _)]) pZ (C := O) pZ⟩, E.keep (kE3 rfl rfl rfl)⟩
  ·replace hb := Nrm.nrm hb
   refine wp_exit ?_
   refine zAl ?_; clear hK K
   refine zAl ?_
   refine zBi ?_
   refine zAb hK ?_; clear hK K
   refine wp_seq_k ?_; intro K hK
   obtain rfl : i = l.tops.length := by omega
   rw [List.take_length] at hC'
   refine zAa ?_
   refine zd E ?_; clear E a; intro a E
   refine zAg E rfl rfl dZ rfl Tryz.func89 rfl yZ rfl (dsummed_ret _ (lbB l) C' hC' oZ _ (S.hp.sel sZ)) ?_
   rintro v65 w ⟨C6, hC6, hT⟩; clear E a; intro a E
   have S := S.call1 sZ hT
   iterate 2 (refine zd E ?_; clear E a; intro a E)
   refine wpList_nil ?_
   refine zAb hK ?_; clear hK K
   refine wp_ret ?_
   refine ret2 E rfl rfl rfl ?_
   exact ⟨_, rfl, _, C6, by rw [hpe], by rw [lbO_ok hpe]; exact hC6, (S.only (Bs := [C6, O]) sZ).tr⟩
end Go.Proofs.YtpjidiaekifmbaaGreatDoor
namespace Go.Sl
theorem wrN_len {d a n : Nat} {b : List UInt8} : ∀ (k i : Nat) (s : Pw) (nw : List UInt8) (ws : List Wt), nw.length = n → 128 * (a + i + k) ≤ n → 128 * (i + k) ≤ b.length → (wrN d a b k i s nw ws).2.1.length = n
 | 0, _, _, _, _, h, _, _ => h
 | k + 1, i, s, nw, ws, h, h2, h3 => by
  rw [wrN]
  split
  ·exact h
  ·exact wrN_len k (i + 1) _ _ _ (by rw [zEf oZ (zCf oZ)]; exact h) oZ oZ
theorem wrS_len {d n : Nat} {at_ : Int} {b : List UInt8} (s : Pw) (f : Bool) (nw : List UInt8) (ws : List Wt) (h : nw.length = n) : (wrS d n at_ b s f nw ws).2.1.length = n := by
 unfold wrS
 split
 ·exact h
 ·split
  ·exact h
  ·split
   ·exact h
   ·rename_i hm
    have hm : zDy n at_ b := Classical.byContradiction fun q => hm q
    obtain ⟨m1, m2, m3, m4⟩ := hm
    exact wrN_len _ _ _ _ _ h oZ oZ
theorem setD_atI {ds : List Dk} {i : Nat} {x : Dk} {g : Dk → Dk} (h : ds[i]? = some x) : (setD ds x.d g)[i]? = some (g x) := by
 rw [setD, List.getElem?_map, h]; simp
end Go.Sl
namespace Go.Proofs.YtpjidiaekifmbaaGreatDoor
open Go.Sl
set_option maxRecDepth 10000
theorem ok_write {R : Rk} (h3 : DkOk R.ds) (h4 : WtOk R.ws R.ds) {x : Dk} (hx : x ∈ R.ds) (at_ : Int) (b : List UInt8) : DkOk (R.write x at_ b).ds ∧ WtOk (R.write x at_ b).ws (R.write x at_ b).ds := by
 obtain ⟨s, ws, ds⟩ := R
 simp only at h3 h4 hx
 obtain ⟨A, B, rfl⟩ := List.append_of_mem hx
 have hxl := h3.2 x hx
 have hl : (wrS x.d x.pl.length at_ b s x.failed x.now ws).2.1.length = x.pl.length := wrS_len s x.failed x.now ws hxl.1
 have hs : Same x { x with now := (wrS x.d x.pl.length at_ b s x.failed x.now ws).2.1 } := ⟨rfl, rfl, rfl, rfl, hl⟩
 have hfit := wrS_fit (d := x.d) (n := x.pl.length) (at_ := at_) (b := b) (fun w => (∃ y ∈ A ++ x :: B, y.d = w.d) ∧ ∀ y ∈ A ++ x :: B, y.d = w.d → 128 * w.at_ + 128 ≤ y.pl.length) (fun j b' hj => ⟨⟨x, hx, rfl⟩, fun y hy hyd => by rw [zGx h3.1 hy hx hyd]; exact hj⟩) s x.failed x.now ws h4
 have hset : setD (A ++ x :: B) x.d (fun y => { y with now := (wrS x.d x.pl.length at_ b s x.failed x.now ws).2.1 }) = A ++ { x with now := (wrS x.d x.pl.length at_ b s x.failed x.now ws).2.1 } :: B := zHp _ h3.1
 simp only [Rk.write]
 rw [hset]
 exact ⟨zIq h3 hs, zIr hfit hs⟩
theorem ok_flush {R : Rk} (h3 : DkOk R.ds) (h4 : WtOk R.ws R.ds) {x : Dk} (hx : x ∈ R.ds) : DkOk (R.flush x).ds ∧ WtOk (R.flush x).ws (R.flush x).ds := by
 obtain ⟨s, ws, ds⟩ := R
 simp only at h3 h4 hx
 obtain ⟨A, B, rfl⟩ := List.append_of_mem hx
 have hxl := h3.2 x hx
 have hl : (flP s x.failed x.pl x.now).length = x.pl.length := by unfold flP; split; exact hxl.1; rfl
 have hs : Same x { x with pl := flP s x.failed x.pl x.now } := ⟨rfl, rfl, rfl, hl, hxl.1⟩
 have hset : setD (A ++ x :: B) x.d (fun y => { y with pl := flP s x.failed x.pl x.now }) = A ++ { x with pl := flP s x.failed x.pl x.now } :: B := zHp _ h3.1
 simp only [Rk.flush]
 rw [hset]
 exact ⟨zIq h3 hs, zIr (wt_sub h4 fun w => flW_mem) hs⟩
structure RqOk (R : Rk) : Prop where
 dk : DkOk R.ds
 wt : WtOk R.ws R.ds
 now : zLg R
 on : On R
theorem RqOk.write {R : Rk} (h : RqOk R) {x : Dk} (hx : x ∈ R.ds) {at_ : Int} {b : List UInt8} (hO : On (R.write x at_ b)) : RqOk (R.write x at_ b) :=
 ⟨(ok_write h.dk h.wt hx at_ b).1, (ok_write h.dk h.wt hx at_ b).2, now_write h.dk h.now hx at_ b, hO⟩
theorem RqOk.flush {R : Rk} (h : RqOk R) {x : Dk} (hx : x ∈ R.ds) : RqOk (R.flush x) :=
 ⟨(ok_flush h.dk h.wt hx).1, (ok_flush h.dk h.wt hx).2, now_flush h.dk h.now hx, ⟨h.on.off, h.on.left⟩⟩
section
variable (q : Nat) (R : Rk) (C : zAj) (hC : RfC q R C)
include hC
theorem zJe (i : Nat) (x : Dk) (hx : R.ds[i]? = some x) (w0 : World) (H : Hp w0 [C]) :
  Ret Tryz.prog 68 #[ptr q, .int .i64 i] w0 fun u w' => u = .int .i64 (x.pl.length / 128 : Nat) ∧ Trs w0 w' [C] [C] := by
 obtain ⟨vd, vw, Cd, Cw, J, ys, us, h1, h2, h3, h4, rfl⟩ := hC
 obtain ⟨y, hy, hyo⟩ := h3.at hx
 obtain ⟨A, B, rfl, hAi⟩ := zGs hy
 have S := rf_out (rf_open (St.begin H))
 obtain ⟨hy1, hy2, hy3, hy4⟩ := hyo
 obtain ⟨ad, c, hv⟩ := h1.slice
 subst hv
 have hil : i < (A ++ y :: B).length := by simp; omega
 obtain ⟨g, rfl⟩ := h1.addr oZ
 obtain ⟨b1, b2, hvp⟩ := hy2.slice
 have hcell : ((A ++ y :: B).map fun y => ptr y.b)[i]? = some (ptr y.b) := by rw [List.getElem?_map, hy]; rfl
 have hpl : x.pl.length / 128 = y.vs.length := by omega
 refine zBx 16 Tryz.func68 rfl rfl dZ ?_; intro a E
 refine wp_seq_k ?_; intro K hK
 refine zAa ?_
 refine zd E ?_; clear E a; intro a E
 refine wpList_nil ?_
 refine zAb hK ?_; clear hK K
 refine wp_seq_k ?_; intro K hK
 refine zAa ?_
 iterate 2 (refine zd E ?_; clear E a; intro a E)
 refine zp E (by first | exact zAc (q := 0) E rfl rfl rfl | exact zAd (q := 0) E rfl rfl rfl) ?_; clear E a; intro a E
 iterate 2 (refine zd E ?_; clear E a; intro a E)
 refine zp E (by first | exact zAp E rfl rfl rfl rfl rfl rfl oZ | exact zAz E rfl rfl rfl rfl rfl rfl oZ | exact zAm E rfl rfl rfl rfl rfl rfl oZ) ?_; clear E a; intro a E
 refine zp E (zAo E rfl rfl rfl (h1.rd.cells (S.stab.at mZ) rfl i _ hcell)) ?_; clear E a; intro a E
 refine zd E ?_; clear E a; intro a E
 refine zp E (by first | exact zAc (q := 0) E rfl rfl rfl | exact zAd (q := 0) E rfl rfl rfl) ?_; clear E a; intro a E
 refine zd E ?_; clear E a; intro a E
 rw [hvp] at E
 iterate 2 (refine zd E ?_; clear E a; intro a E)
 refine wpList_nil ?_
 refine zAb hK ?_; clear hK K
 refine wp_ret ?_
 refine ret1 E rfl rfl ?_
 exact ⟨_, rfl, by rw [hpl], (zGf (rf_in (S.front6 (A := [(q, _)]) pZ (B := Cd) pZ (C := Cw) pZ (D := J) pZ (F := dd1 y) pZ (G := y.C) pZ))).tr⟩
end
theorem dplaces_ret (n : Nat) (h18 : 18 ≤ n) (hn : n ≤ 8192) (w0 : World) :
  Ret Tryz.prog 70 #[.int .i64 n] w0 fun u w' => u = .agg #[.int .i64 (plc n 0), .int .i64 (plc n 1), .int .i64 (plc n 2), .int .i64 (plc n 3)] ∧ Trs w0 w' [] [] := by
 have S := St.begin (zDz w0)
 refine zCh 8 Tryz.func70 rfl rfl dZ ?_; intro a E
 refine wp_seq_k ?_; intro K hK
 refine zAa ?_
 refine zAf rfl (zBs E S rfl rfl dZ rfl rfl rfl ?_); clear E S a; intro a w b2 E S
 refine wpList_nil ?_
 refine zAb hK ?_; clear hK K
 refine wp_seq_k ?_; intro K hK
 refine zAa ?_
 refine zd E ?_; clear E a; intro a E
 refine zp E (zCo E rfl rfl rfl (by first | exact zEc (y := 18) oZ oZ | exact w_in oZ | exact zBj oZ | exact rfl)) ?_; clear E a; intro a E
 refine zd E ?_; clear E a; intro a E
 refine zp E (zCo E rfl rfl rfl (by first | exact zEc (y := 9) oZ oZ | exact w_in oZ | exact zBj oZ | exact rfl)) ?_; clear E a; intro a E
 refine zp E (zBt (cells := [_, _, _, _]) E rfl rfl rfl) ?_; clear E a; intro a E
 refine zAf rfl (zBr E S rfl rfl rfl rfl (by simp [Value.oneCell']) rfl pZ (by simp) ?_); clear E S a; intro a w E S; simp only [List.take_succ_cons, List.take_zero, List.drop_succ_cons, List.drop_zero, List.cons_append, List.nil_append, List.append_nil, List.length_cons, List.length_nil, Nat.zero_add, Nat.add_zero] at S
 refine wpList_nil ?_
 refine zAb hK ?_; clear hK K
 refine wp_ret ?_
 refine zKj E rfl rfl (S.get pZ) rfl ?_
 exact ⟨_, rfl, by simp [plc], (S.only (Bs := []) sZ).tr⟩
end Go.Proofs.YtpjidiaekifmbaaGreatDoor
