/-
  Texts put together (4).
-/
import Derived.Test.YtpjidiaekifmbaaGreatDoorZParityRows3
set_option maxHeartbeats 1000000
namespace Go.Sl
def turnW (w : Wt) (mask : List UInt8) : Wt := ⟨w.d, w.at_, xorB w.b mask, by rw [zCg]; exact w.hb⟩
def coW (d a : Nat) (mask : List UInt8) (ws : List Wt) : List Wt := ws.map fun w => if w.d = d ∧ w.at_ = a then turnW w mask else w
def coMay (n : Nat) (at_ : Int) (mask : List UInt8) : Prop := 0 ≤ at_ ∧ at_ < (n / 128 : Nat) ∧ mask.length ≤ 128
instance (n : Nat) (at_ : Int) (mask : List UInt8) : Decidable (coMay n at_ mask) := by unfold coMay; infer_instance
def coE (f : Bool) (n : Nat) (at_ : Int) (mask : List UInt8) : Int := if f then 30 else if coMay n at_ mask then 0 else 1
def coB (f : Bool) (n : Nat) (at_ : Int) (mask b : List UInt8) : List UInt8 := if coE f n at_ mask = 0 then setS b at_.toNat (xorB (secB b at_.toNat) mask) else b
def coWs (d : Nat) (f : Bool) (n : Nat) (at_ : Int) (mask : List UInt8) (ws : List Wt) : List Wt := if coE f n at_ mask = 0 then coW d at_.toNat mask ws else ws
theorem byt_split (b : List UInt8) (i : Nat) : byt b = byt (b.take (128 * i)) ++ byt (secB b i) ++ byt (b.drop (128 * i + 128)) := by
 rw [secB, ← zBw, ← zBw]
 congr 1
 rw [List.append_assoc, ← List.drop_drop, List.take_append_drop, List.take_append_drop]
theorem byt_turned (b m : List UInt8) (i : Nat) : byt (b.take (128 * i)) ++ byt (xorB (secB b i) m) ++ byt (b.drop (128 * i + 128)) = byt (setS b i (xorB (secB b i) m)) := by
 rw [setS, zBw, zBw]
theorem wl_at (A B : List Wt) (w : Wt) (r : List Value) : wl (A ++ w :: B) ++ r = (wl A ++ [ptr w.d, .int .i64 w.at_]) ++ byt w.b ++ (wl B ++ r) := by
 simp [wl, Wt.lay]
theorem coW_take (d a : Nat) (mask : List UInt8) (ws : List Wt) {i : Nat} (hi : i < ws.length) : coW d a mask (ws.take (i + 1)) = coW d a mask (ws.take i) ++ [if ws[i].d = d ∧ ws[i].at_ = a then turnW ws[i] mask else ws[i]] := by
 rw [← List.take_append_getElem hi, coW, coW, List.map_append]; rfl
theorem coW_length (d a : Nat) (mask : List UInt8) (ws : List Wt) : (coW d a mask ws).length = ws.length := by rw [coW, List.length_map]
end Go.Sl
namespace Go.Proofs.YtpjidiaekifmbaaGreatDoor
open Go.Sl
set_option maxRecDepth 10000
theorem corrupt_ret (d p gp gn n : Nat) (f : Bool) (s : Pw) (vw vd : Value) (pl nw : List UInt8) (hpl : pl.length = n) (hnw : nw.length = n) (hn : n ≤ 1048576) (ws : List Wt) (Cw : zAj) (hCw : Buf Cw 131 130 vw ws.length (wl ws))
    (at_ : Int) (v : Value) (mask : List UInt8) (D : zAj) (hD : Rd D 1 v mask.length (byt mask)) (As : List zAj) (hDA : D ∈ As) (hB : ∀ x ∈ ws, x.d = d ∨ Bks As x.d) (w0 : World)
    (H : Hp w0 ([(p, pcl s vw vd)] :: Cw :: [(d, dcl p gp gn n f)] :: [(gp, cel (byt pl) 5)] :: [(gn, cel (byt nw) 5)] :: As)) :
    Ret Tryz.prog 18 #[ptr d, .int .i64 at_, v] w0 fun u w' => u = .int .i64 (coE f n at_ mask) ∧ ∃ Cw', Buf Cw' 131 130 vw ws.length (wl (coWs d f n at_ mask ws)) ∧
      Trs w0 w' ([(p, pcl s vw vd)] :: Cw :: [(d, dcl p gp gn n f)] :: [(gp, cel (byt pl) 5)] :: [(gn, cel (byt nw) 5)] :: As)
        ([(p, pcl s vw vd)] :: Cw' :: [(d, dcl p gp gn n f)] :: [(gp, cel (byt (coB f n at_ mask pl)) 5)] :: [(gn, cel (byt (coB f n at_ mask nw)) 5)] :: As) := by
  have S := St.begin H
  obtain ⟨ad, c, rfl⟩ := hD.slice
  obtain ⟨adw, cw, rfl⟩ := hCw.slice
  have hwm := hCw.rd.2.2.1
  simp only [maxLen] at hwm
  have nothing : coE f n at_ mask ≠ 0 → ∀ {w' : World}, St w0 ([(p, pcl s (.slice adw ws.length cw) vd)] :: Cw :: [(d, dcl p gp gn n f)] :: [(gp, cel (byt pl) 5)] :: [(gn, cel (byt nw) 5)] :: As) w' ([(p, pcl s (.slice adw ws.length cw) vd)] :: Cw :: [(d, dcl p gp gn n f)] :: [(gp, cel (byt pl) 5)] :: [(gn, cel (byt nw) 5)] :: As) →
      ∃ Cw', Buf Cw' 131 130 (.slice adw ws.length cw) ws.length (wl (coWs d f n at_ mask ws)) ∧ Trs w0 w' ([(p, pcl s (.slice adw ws.length cw) vd)] :: Cw :: [(d, dcl p gp gn n f)] :: [(gp, cel (byt pl) 5)] :: [(gn, cel (byt nw) 5)] :: As)
        ([(p, pcl s (.slice adw ws.length cw) vd)] :: Cw' :: [(d, dcl p gp gn n f)] :: [(gp, cel (byt (coB f n at_ mask pl)) 5)] :: [(gn, cel (byt (coB f n at_ mask nw)) 5)] :: As) := fun h w' S => by
    rw [coWs, coB, coB, if_neg h, if_neg h, if_neg h]; exact ⟨Cw, hCw, S.tr⟩
  refine zDi 85 Tryz.func18 rfl rfl dZ ?_; intro a E
  refine wp_seq_k ?_; intro K hK
  refine zAa ?_
  refine zd E ?_; clear E a; intro a E
  refine wpList_nil ?_
  refine zAb hK ?_; clear hK K
  iterate 2 (refine wp_seq_k ?_; intro K hK)
  refine zAa ?_
  iterate 2 (refine zd E ?_; clear E a; intro a E)
  refine zp E (by first | exact zAc (q := 3) E rfl rfl rfl | exact zAd (q := 3) E rfl rfl rfl) ?_; clear E a; intro a E
  refine zd E ?_; clear E a; intro a E
  refine wpList_nil ?_
  refine zAb hK ?_; clear hK K
  refine zAs E rfl (fun hb => ?_) (fun hb => ?_)
  · replace hb := Nrm.nrm hb
    refine wp_seq_k ?_; intro K hK
    refine zAa ?_
    refine zd E ?_; clear E a; intro a E
    refine wpList_nil ?_
    refine zAb hK ?_; clear hK K
    refine wp_ret ?_
    refine zBc ?_; clear hK K
    refine ret1 E rfl rfl ?_
    have hE : coE f n at_ mask = 30 := by rw [coE, if_pos (by simpa using hb)]
    exact ⟨_, rfl, by rw [hE], nothing (by rw [hE]; decide) S⟩
  · replace hb := Nrm.nrm hb
    refine wp_skip ?_
    refine zAb hK ?_; clear hK K
    iterate 2 (refine wp_seq_k ?_; intro K hK)
    have hf : f = false := by simpa using hb
    subst hf
    refine zAa ?_
    iterate 3 (refine zd E ?_; clear E a; intro a E)
    refine zAr E (t := 15) rfl (fun hb15 => ?_) (fun hb15 => ?_)
    · have hb15n := hb15; replace hb15n := Nrm.nrm hb15n
      iterate 4 (refine zn E hb15 ?_; clear E a; intro a E)
      refine zp E (zAi E rfl rfl hb15 rfl) ?_; clear E a; intro a E
      refine zd E ?_; clear E a; intro a E
      iterate 3 (refine zn E rfl ?_; clear E a; intro a E)
      refine zp E (zAi E rfl rfl rfl rfl) ?_; clear E a; intro a E
      refine wpList_nil ?_
      refine zAb hK ?_; clear hK K
      refine zCk E rfl rfl ?_
      refine wp_seq_k ?_; intro K hK
      refine zAa ?_
      refine zd E ?_; clear E a; intro a E
      refine wpList_nil ?_
      refine zAb hK ?_; clear hK K
      refine wp_ret ?_
      refine zBc ?_; clear hK K
      refine ret1 E rfl rfl ?_
      have hno : ¬ coMay n at_ mask := by intro q; obtain ⟨q1, q2, q3⟩ := q; omega
      have hE : coE false n at_ mask = 1 := by rw [coE, if_neg (by simp), if_neg hno]
      exact ⟨_, rfl, by rw [hE], nothing (by rw [hE]; decide) (by first | exact S | exact S.front5 (A := [(p, _)]) pZ (B := Cw) pZ (C := [(d, _)]) pZ (D := [(gp, _)]) pZ (F := [(gn, _)]) pZ)⟩
    · have hb15n := hb15; replace hb15n := Nrm.nrm hb15n
      iterate 2 (refine zyd E hb15 ?_; clear E a; intro a E)
      refine zBy E rfl rfl rfl rfl hb15 ?_; refine zCe E rfl dZ rfl Tryz.func53 rfl yZ rfl (zGc d p gp gn n false hn _ (S.hp.sel sZ)) ?_
      rintro v18 w ⟨rfl, hT⟩; clear E a; intro a E
      have S := S.call1 sZ hT
      refine zyd E hb15 ?_; clear E a; intro a E
      refine zp E (zAk E rfl rfl hb15 rfl) ?_; clear E a; intro a E
      refine zd E ?_; clear E a; intro a E
      refine zAr E (t := 21) rfl (fun hb21 => ?_) (fun hb21 => ?_)
      · have hb21n := hb21; replace hb21n := Nrm.nrm hb21n
        iterate 3 (refine zn E hb21 ?_; clear E a; intro a E)
        refine zp E (zAi E rfl rfl hb21 rfl) ?_; clear E a; intro a E
        refine wpList_nil ?_
        refine zAb hK ?_; clear hK K
        refine zCk E rfl rfl ?_
        refine wp_seq_k ?_; intro K hK
        refine zAa ?_
        refine zd E ?_; clear E a; intro a E
        refine wpList_nil ?_
        refine zAb hK ?_; clear hK K
        refine wp_ret ?_
        refine zBc ?_; clear hK K
        refine ret1 E rfl rfl ?_
        have hno : ¬ coMay n at_ mask := by intro q; obtain ⟨q1, q2, q3⟩ := q; omega
        have hE : coE false n at_ mask = 1 := by rw [coE, if_neg (by simp), if_neg hno]
        exact ⟨_, rfl, by rw [hE], nothing (by rw [hE]; decide) (by first | exact S | exact S.front5 (A := [(p, _)]) pZ (B := Cw) pZ (C := [(d, _)]) pZ (D := [(gp, _)]) pZ (F := [(gn, _)]) pZ)⟩
      · have hb21n := hb21; replace hb21n := Nrm.nrm hb21n
        iterate 3 (refine zyd E hb21 ?_; clear E a; intro a E)
        refine zp E (zAk E rfl rfl hb21 rfl) ?_; clear E a; intro a E
        refine wpList_nil ?_
        refine zAb hK ?_; clear hK K
        refine zAs E rfl (fun hb => ?_) (fun hb => ?_)
        · replace hb := Nrm.nrm hb
          refine wp_seq_k ?_; intro K hK
          refine zAa ?_
          refine zd E ?_; clear E a; intro a E
          refine wpList_nil ?_
          refine zAb hK ?_; clear hK K
          refine wp_ret ?_
          refine zBc ?_; clear hK K
          refine ret1 E rfl rfl ?_
          have hno : ¬ coMay n at_ mask := by intro q; obtain ⟨q1, q2, q3⟩ := q; omega
          have hE : coE false n at_ mask = 1 := by rw [coE, if_neg (by simp), if_neg hno]
          exact ⟨_, rfl, by rw [hE], nothing (by rw [hE]; decide) (by first | exact S | exact S.front5 (A := [(p, _)]) pZ (B := Cw) pZ (C := [(d, _)]) pZ (D := [(gp, _)]) pZ (F := [(gn, _)]) pZ)⟩
        · replace hb := Nrm.nrm hb
          refine wp_skip ?_
          refine zAb hK ?_; clear hK K
          refine wp_seq_k ?_; intro K hK
          have hyes : coMay n at_ mask := ⟨by omega, by omega, by omega⟩
          have hE : coE false n at_ mask = 0 := by rw [coE, if_neg (by simp), if_pos hyes]
          obtain ⟨hy1, hy2, hy3⟩ := hyes
          obtain ⟨an, rfl⟩ : ∃ an : Nat, at_ = an := ⟨at_.toNat, by omega⟩
          have S := S.front5 (A := [(p, _)]) pZ (B := Cw) pZ (C := [(d, _)]) pZ (D := [(gp, _)]) pZ (F := [(gn, _)]) pZ
          refine zAa ?_
          iterate 3 (refine zd E ?_; clear E a; intro a E)
          refine zp E (by first | exact zAc (q := 1) E rfl rfl rfl | exact zAd (q := 1) E rfl rfl rfl) ?_; clear E a; intro a E
          iterate 2 (refine zd E ?_; clear E a; intro a E)
          refine zAg E rfl rfl dZ rfl Tryz.func55 rfl yZ rfl (zHo (ptr d) gp n an oZ hn _) ?_
          rintro v32 w ⟨rfl, hT⟩; clear E a; intro a E
          have S := S.quiet hT
          refine zd E ?_; clear E a; intro a E
          have S := (S.front1 (A := [(gp, _)]) pZ).cel (byt_split pl an)
          refine zAg E rfl rfl dZ rfl Tryz.func54 rfl yZ rfl (turn_ret gp (128 * an) 128 (n - 128 * an) 5 (byt (pl.take (128 * an))) (byt (pl.drop (128 * an + 128))) (secB pl an) (by rw [zAv, List.length_take]; omega) (zCf oZ) oZ _ mask hy3 D hD _ (show D ∈ _ from mZ) _ S.hp) ?_
          rintro v34 w hT; clear E a; intro a E
          have S := (S.all hT).cel (byt_turned _ _ _)
          refine wpList_nil ?_
          refine zAb hK ?_; clear hK K
          refine wp_seq_k ?_; intro K hK
          replace E := E.keep (e' := [(0, _), (1, _), (2, _), (6, _)]) (kE4 rfl rfl rfl rfl)
          refine zAa ?_
          iterate 3 (refine zd E ?_; clear E a; intro a E)
          refine zp E (by first | exact zAc (q := 2) E rfl rfl rfl | exact zAd (q := 2) E rfl rfl rfl) ?_; clear E a; intro a E
          iterate 2 (refine zd E ?_; clear E a; intro a E)
          refine zAg E rfl rfl dZ rfl Tryz.func55 rfl yZ rfl (zHo (ptr d) gn n an oZ hn _) ?_
          rintro v41 w ⟨rfl, hT⟩; clear E a; intro a E
          have S := S.quiet hT
          refine zd E ?_; clear E a; intro a E
          have S := (S.front1 (A := [(gn, _)]) pZ).cel (byt_split nw an)
          refine zAg E rfl rfl dZ rfl Tryz.func54 rfl yZ rfl (turn_ret gn (128 * an) 128 (n - 128 * an) 5 (byt (nw.take (128 * an))) (byt (nw.drop (128 * an + 128))) (secB nw an) (by rw [zAv, List.length_take]; omega) (zCf oZ) oZ _ mask hy3 D hD _ (show D ∈ _ from mZ) _ S.hp) ?_
          rintro v43 w hT; clear E a; intro a E
          have S := (S.all hT).cel (byt_turned _ _ _)
          have S := S.front5 (A := [(p, _)]) pZ (B := Cw) pZ (C := [(d, _)]) pZ (D := [(gp, _)]) pZ (F := [(gn, _)]) pZ
          refine wpList_nil ?_
          refine zAb hK ?_; clear hK K
          iterate 2 (refine wp_seq_k ?_; intro K hK)
          refine zAa ?_
          iterate 2 (refine zd E ?_; clear E a; intro a E)
          refine zp E (by first | exact zAc (q := 0) E rfl rfl rfl | exact zAd (q := 0) E rfl rfl rfl) ?_; clear E a; intro a E
          iterate 2 (refine zd E ?_; clear E a; intro a E)
          refine zp E (by first | exact zAc (q := 0) E rfl rfl rfl | exact zAd (q := 0) E rfl rfl rfl) ?_; clear E a; intro a E
          iterate 3 (refine zd E ?_; clear E a; intro a E)
          refine wpList_nil ?_
          refine zAb hK ?_; clear hK K
          refine wp_block ?_
          refine wp_loop_ghost (fun (m : Nat) (a : Act) (w' : World) => ∃ (i : Nat) (Cx : zAj), m = ws.length - i ∧ i ≤ ws.length ∧ Buf Cx 131 130 (.slice adw ws.length cw) ws.length (wl (coW d an mask (ws.take i) ++ ws.drop i)) ∧ St w0 ([(p, pcl s (.slice adw ws.length cw) vd)] :: Cw :: [(d, dcl p gp gn n false)] :: [(gp, cel (byt pl) 5)] :: [(gn, cel (byt nw) 5)] :: As) w' ([(p, pcl s (.slice adw ws.length cw) vd)] :: Cx :: [(d, dcl p gp gn n false)] :: [(gp, cel (byt (setS pl an (xorB (secB pl an) mask))) 5)] :: [(gn, cel (byt (setS nw an (xorB (secB nw an) mask))) 5)] :: As) ∧ Fr a 85 [(0, ptr d), (1, .int .i64 an), (2, .slice ad mask.length c), (51, .int .i64 ws.length), (52, .int .i64 i)]) (ws.length - 0) ?_ ?_
          · exact ⟨0, Cw, rfl, by omega, by simpa [coW] using hCw, S, E.keep (kE5 rfl rfl rfl rfl rfl)⟩
          clear E; clear a; (try clear S); rintro m a w ⟨i, Cx, rfl, hi, hCx, S, E⟩
          refine wp_seq_k ?_; intro K hK
          refine zAa ?_
          refine zd E ?_; clear E a; intro a E
          refine wpList_nil ?_
          refine zAb hK ?_; clear hK K
          refine wp_seq_k ?_; intro K hK
          refine zAs E rfl (fun hb => ?_) (fun hb => ?_)
          · replace hb := Nrm.nrm hb
            refine wp_skip ?_
            refine zAb hK ?_; clear hK K
            refine wp_seq_k ?_; intro K hK
            refine wp_block ?_
            refine wp_seq_k ?_; intro K hK
            have hil : i < ws.length := by omega
            obtain ⟨x, hx⟩ : ∃ x, x = ws[i]'hil := ⟨_, rfl⟩
            have hbk := hB _ (List.getElem_mem hil)
            have htk := coW_take d an mask ws hil
            rw [← hx] at hbk htk
            obtain ⟨A, hA⟩ : ∃ A, A = coW d an mask (ws.take i) := ⟨_, rfl⟩
            obtain ⟨B, hBd⟩ : ∃ B, B = ws.drop (i + 1) := ⟨_, rfl⟩
            have hAl : A.length = i := by rw [hA, coW_length, List.length_take]; omega
            rw [List.drop_eq_getElem_cons hil, ← hx, ← hA, ← hBd] at hCx
            rw [← hA] at htk
            obtain ⟨gw, cw2, r, hv, rfl, hcw1, hcw2, hcw3⟩ := hCx.opened oZ
            cases hv
            have hlay := wl_at A B x r
            have hWA : (wl A).length = i * 130 := by rw [zFe, hAl]
            have hc0 : (wl (A ++ x :: B) ++ r)[i * 130]? = some (ptr x.d) := by rw [hlay, List.append_assoc, List.append_assoc, List.getElem?_append_right oZ, hWA, Nat.sub_self]; rfl
            have hc1 : (wl (A ++ x :: B) ++ r)[i * 130 + 1]? = some (.int .i64 x.at_) := by rw [hlay, List.append_assoc, List.append_assoc, List.getElem?_append_right oZ, hWA, Nat.add_sub_cancel_left]; rfl
            have hlen2 : (wl (A ++ x :: B)).length = ws.length * 130 := hCx.1
            refine zAa ?_
            iterate 2 (refine zd E ?_; clear E a; intro a E)
            refine wpList_nil ?_
            refine zAb hK ?_; clear hK K
            refine wp_seq_k ?_; intro K hK
            refine zAa ?_
            iterate 2 (refine zd E ?_; clear E a; intro a E)
            refine zp E (by first | exact zAc (q := 0) E rfl rfl rfl | exact zAd (q := 0) E rfl rfl rfl) ?_; clear E a; intro a E
            iterate 2 (refine zd E ?_; clear E a; intro a E)
            refine zp E (by first | exact zAc (q := 0) E rfl rfl rfl | exact zAd (q := 0) E rfl rfl rfl) ?_; clear E a; intro a E
            iterate 2 (refine zd E ?_; clear E a; intro a E)
            refine zp E (zAz (i := i) (s := 130) E rfl rfl rfl rfl rfl rfl oZ) ?_; clear E a; intro a E
            rw [Nat.zero_add] at E
            refine zd E ?_; clear E a; intro a E
            refine wpList_nil ?_
            refine zAb hK ?_; clear hK K
            refine wp_seq_k ?_; intro K hK
            refine zAa ?_
            iterate 2 (refine zd E ?_; clear E a; intro a E)
            refine zp E (by first | exact zAc (q := 0) E rfl rfl rfl | exact zAd (q := 0) E rfl rfl rfl) ?_; clear E a; intro a E
            refine zp E (zAo E rfl rfl rfl (zBv (S.get (show List.Perm _ ([(gw, _)] :: _) from pZ)) hc0)) ?_; clear E a; intro a E
            refine zd E ?_; clear E a; intro a E
            refine zp E (rn_eql_ptrs (i := x.d) (j := d) E rfl rfl rfl rfl rfl dZ (hbk.imp_right fun h => ⟨(h.sub (fun _ h => by repeat (first | exact h | apply List.Mem.tail))).bk S.stab, ⟨_, _, S.get (show List.Perm _ ([(d, _)] :: _) from pZ)⟩⟩)) ?_; clear E a; intro a E
            refine zd E ?_; clear E a; intro a E
            refine zAr E (t := 70) rfl (fun hb70 => ?_) (fun hb70 => ?_)
            · have hb70n := hb70; replace hb70n := Nrm.nrm hb70n
              iterate 2 (refine zyd E hb70 ?_; clear E a; intro a E)
              refine zy E hb70 (by first | exact zAc (q := 1) E rfl rfl rfl | exact zAd (q := 1) E rfl rfl rfl) ?_; clear E a; intro a E
              refine zy E hb70 (zAo E rfl rfl rfl (zBv (S.get (show List.Perm _ ([(gw, _)] :: _) from pZ)) hc1)) ?_; clear E a; intro a E
              iterate 2 (refine zyd E hb70 ?_; clear E a; intro a E)
              refine zp E (zAi E rfl rfl hb70 rfl) ?_; clear E a; intro a E
              refine wpList_nil ?_
              refine zAb hK ?_; clear hK K
              refine zAs E rfl (fun hb => ?_) (fun hb => ?_)
              · replace hb := Nrm.nrm hb
                skip
                have hT1 : x.d = d ∧ x.at_ = an := by refine ⟨by simpa using hb70, ?_⟩; omega
                refine zAa ?_
                iterate 2 (refine zd E ?_; clear E a; intro a E)
                refine zp E (by first | exact zAc (q := 2) E rfl rfl rfl | exact zAd (q := 2) E rfl rfl rfl) ?_; clear E a; intro a E
                refine zp E (zGo E rfl rfl rfl rfl dZ) ?_; clear E a; intro a E
                refine zd E ?_; clear E a; intro a E
                have S := (S.front1 (A := [(gw, _)]) pZ).cel hlay
                refine zAg E rfl rfl dZ rfl Tryz.func54 rfl yZ rfl (turn_ret gw (i * 130 + 2) 128 128 131 (wl A ++ [ptr x.d, .int .i64 x.at_]) (wl B ++ r) x.b (by rw [List.length_append, hWA]; rfl) x.hb oZ _ mask hy3 D hD _ (show D ∈ _ from mZ) _ S.hp) ?_
                rintro v83 w hT; clear E a; intro a E
                have S := (S.all hT).cel (wl_at A B (turnW x mask) r).symm
                refine wpList_nil ?_
                refine zAq ?_
                refine zAb hK ?_; clear hK K
                refine zAa ?_
                refine zp E (zAy E rfl rfl rfl (by first | exact zBq (y := 1) oZ | exact w_in oZ | exact zBj oZ | exact rfl)) ?_; clear E a; intro a E
                refine zd E ?_; clear E a; intro a E
                refine wpList_nil ?_
                refine zAn ?_
                have hn1 : ¬ (x.d = d ∧ x.at_ = an) ∨ (x.d = d ∧ x.at_ = an) := by by_cases h : x.d = d ∧ x.at_ = an; exact .inr h; exact .inl h
                first
                | (rw [if_pos hT1] at htk
                   have S := S.front5 (A := [(p, _)]) pZ (B := [(gw, _)]) pZ (C := [(d, _)]) pZ (D := [(gp, _)]) pZ (F := [(gn, _)]) pZ
                   exact ⟨_, by omega, i + 1, _, rfl, by omega, by rw [htk, ← hBd, List.append_assoc]; exact zHf (by rw [zFe, ← hlen2, zFe]; simp) (wl_one _) hcw1 hcw2 (by rw [← hcw3, zFe, zFe]; simp), S, E.keep (kE5 rfl rfl rfl rfl rfl)⟩)
                | (have hT0 : ¬ (x.d = d ∧ x.at_ = an) := by intro q; have q1 := q.1; have q2 := q.2; simp_all
                   rw [if_neg hT0] at htk
                   exact ⟨_, by omega, i + 1, _, rfl, by omega, by rw [htk, ← hBd, List.append_assoc]; exact hCx, S.front5 (A := [(p, _)]) pZ (B := [(gw, _)]) pZ (C := [(d, _)]) pZ (D := [(gp, _)]) pZ (F := [(gn, _)]) pZ, E.keep (kE5 rfl rfl rfl rfl rfl)⟩)
              · replace hb := Nrm.nrm hb
                skip
                refine wp_skip ?_
                refine zAq ?_
                refine zAb hK ?_; clear hK K
                refine zAa ?_
                refine zp E (zAy E rfl rfl rfl (by first | exact zBq (y := 1) oZ | exact w_in oZ | exact zBj oZ | exact rfl)) ?_; clear E a; intro a E
                refine zd E ?_; clear E a; intro a E
                refine wpList_nil ?_
                refine zAn ?_
                have hn1 : ¬ (x.d = d ∧ x.at_ = an) ∨ (x.d = d ∧ x.at_ = an) := by by_cases h : x.d = d ∧ x.at_ = an; exact .inr h; exact .inl h
                first
                | (rw [if_pos hT1] at htk
                   have S := S.front5 (A := [(p, _)]) pZ (B := [(gw, _)]) pZ (C := [(d, _)]) pZ (D := [(gp, _)]) pZ (F := [(gn, _)]) pZ
                   exact ⟨_, by omega, i + 1, _, rfl, by omega, by rw [htk, ← hBd, List.append_assoc]; exact zHf (by rw [zFe, ← hlen2, zFe]; simp) (wl_one _) hcw1 hcw2 (by rw [← hcw3, zFe, zFe]; simp), S, E.keep (kE5 rfl rfl rfl rfl rfl)⟩)
                | (have hT0 : ¬ (x.d = d ∧ x.at_ = an) := by intro q; have q1 := q.1; have q2 := q.2; simp_all
                   rw [if_neg hT0] at htk
                   exact ⟨_, by omega, i + 1, _, rfl, by omega, by rw [htk, ← hBd, List.append_assoc]; exact hCx, S.front5 (A := [(p, _)]) pZ (B := [(gw, _)]) pZ (C := [(d, _)]) pZ (D := [(gp, _)]) pZ (F := [(gn, _)]) pZ, E.keep (kE5 rfl rfl rfl rfl rfl)⟩)
            · have hb70n := hb70; replace hb70n := Nrm.nrm hb70n
              iterate 6 (refine zn E hb70 ?_; clear E a; intro a E)
              refine zp E (zAk E rfl rfl hb70 rfl) ?_; clear E a; intro a E
              refine wpList_nil ?_
              refine zAb hK ?_; clear hK K
              refine zAt E rfl rfl ?_
              refine wp_skip ?_
              refine zAq ?_
              refine zAb hK ?_; clear hK K
              refine zAa ?_
              refine zp E (zAy E rfl rfl rfl (by first | exact zBq (y := 1) oZ | exact w_in oZ | exact zBj oZ | exact rfl)) ?_; clear E a; intro a E
              refine zd E ?_; clear E a; intro a E
              refine wpList_nil ?_
              refine zAn ?_
              have hn1 : ¬ (x.d = d ∧ x.at_ = an) ∨ (x.d = d ∧ x.at_ = an) := by by_cases h : x.d = d ∧ x.at_ = an; exact .inr h; exact .inl h
              first
              | (rw [if_pos hT1] at htk
                 have S := S.front5 (A := [(p, _)]) pZ (B := [(gw, _)]) pZ (C := [(d, _)]) pZ (D := [(gp, _)]) pZ (F := [(gn, _)]) pZ
                 exact ⟨_, by omega, i + 1, _, rfl, by omega, by rw [htk, ← hBd, List.append_assoc]; exact zHf (by rw [zFe, ← hlen2, zFe]; simp) (wl_one _) hcw1 hcw2 (by rw [← hcw3, zFe, zFe]; simp), S, E.keep (kE5 rfl rfl rfl rfl rfl)⟩)
              | (have hT0 : ¬ (x.d = d ∧ x.at_ = an) := by intro q; have q1 := q.1; have q2 := q.2; simp_all
                 rw [if_neg hT0] at htk
                 exact ⟨_, by omega, i + 1, _, rfl, by omega, by rw [htk, ← hBd, List.append_assoc]; exact hCx, S.front5 (A := [(p, _)]) pZ (B := [(gw, _)]) pZ (C := [(d, _)]) pZ (D := [(gp, _)]) pZ (F := [(gn, _)]) pZ, E.keep (kE5 rfl rfl rfl rfl rfl)⟩)
          · replace hb := Nrm.nrm hb
            refine wp_exit ?_
            refine zAl ?_; clear hK K
            refine zAl ?_
            refine zBi ?_
            refine zAb hK ?_; clear hK K
            refine wp_seq_k ?_; intro K hK
            refine zAa ?_
            refine zd E ?_; clear E a; intro a E
            refine wpList_nil ?_
            refine zAb hK ?_; clear hK K
            refine wp_ret ?_
            refine ret1 E rfl rfl ?_
            obtain rfl : i = ws.length := by omega
            rw [List.take_length, List.drop_length, List.append_nil] at hCx
            refine ⟨_, rfl, by rw [hE], ?_⟩
            rw [coWs, coB, coB, if_pos hE, if_pos hE, if_pos hE, Int.toNat_natCast]
            exact ⟨Cx, hCx, S.tr⟩
end Go.Proofs.YtpjidiaekifmbaaGreatDoor
namespace Go.Sl
structure Rk where
 pw : Pw
 ws : List Wt
 ds : List Dk
def setD (ds : List Dk) (d : Nat) (g : Dk → Dk) : List Dk := ds.map fun x => if x.d = d then g x else x
theorem zHp {A B : List Dk} {x : Dk} (g : Dk → Dk) (hnd : ((A ++ x :: B).map Dk.d).Nodup) : setD (A ++ x :: B) x.d g = A ++ g x :: B := by
 have h : ∀ l : List Dk, (∀ y ∈ l, y.d ≠ x.d) → l.map (fun y => if y.d = x.d then g y else y) = l := fun l hl => by
  conv => rhs; rw [← List.map_id l]
  exact List.map_congr_left fun y hy => by rw [if_neg (fun q => hl y hy q)]; rfl
 rw [List.map_append, List.map_cons, List.nodup_append] at hnd
 obtain ⟨h1, h2, h3⟩ := hnd
 rw [List.nodup_cons] at h2
 rw [setD, List.map_append, List.map_cons, if_pos rfl, h A (fun y hy q => h3 y.d (List.mem_map_of_mem hy) x.d (List.mem_cons_self ..) q), h B (fun y hy q => h2.1 (by rw [← q]; exact List.mem_map_of_mem hy))]
theorem zGx {ds : List Dk} (hnd : (ds.map Dk.d).Nodup) {x y : Dk} (hx : x ∈ ds) (hy : y ∈ ds) (h : x.d = y.d) : x = y := by
 induction ds with
 | nil => cases hx
 | cons z r ih =>
  rw [List.map_cons, List.nodup_cons] at hnd
  rcases List.mem_cons.1 hx with rfl | hx'
  ·rcases List.mem_cons.1 hy with rfl | hy'
   ·rfl
   ·exact absurd (by rw [h]; exact List.mem_map_of_mem hy') hnd.1
  ·rcases List.mem_cons.1 hy with rfl | hy'
   ·exact absurd (by rw [← h]; exact List.mem_map_of_mem hx') hnd.1
   ·exact ih hnd.2 hx' hy'
structure Same (x y : Dk) : Prop where
 d : y.d = x.d
 gp : y.gp = x.gp
 gn : y.gn = x.gn
 pl : y.pl.length = x.pl.length
 now : y.now.length = x.pl.length
def Rk.write (R : Rk) (x : Dk) (at_ : Int) (b : List UInt8) : Rk :=
 ⟨(wrS x.d x.pl.length at_ b R.pw x.failed x.now R.ws).1, (wrS x.d x.pl.length at_ b R.pw x.failed x.now R.ws).2.2.1, setD R.ds x.d fun y => { y with now := (wrS x.d x.pl.length at_ b R.pw x.failed x.now R.ws).2.1 }⟩
def Rk.writeE (R : Rk) (x : Dk) (at_ : Int) (b : List UInt8) : Int := (wrS x.d x.pl.length at_ b R.pw x.failed x.now R.ws).2.2.2
def Rk.flush (R : Rk) (x : Dk) : Rk := ⟨R.pw, flW x.d R.pw x.failed R.ws, setD R.ds x.d fun y => { y with pl := flP R.pw x.failed x.pl x.now }⟩
def Rk.fail (R : Rk) (x : Dk) : Rk := ⟨R.pw, outW x.d R.ws, setD R.ds x.d fun y => { y with now := x.pl, failed := true }⟩
def Rk.replace (R : Rk) (x : Dk) : Rk := ⟨R.pw, outW x.d R.ws, setD R.ds x.d fun y => { y with pl := List.replicate x.pl.length 0, now := List.replicate x.pl.length 0, failed := false }⟩
def Rk.corrupt (R : Rk) (x : Dk) (at_ : Int) (mask : List UInt8) : Rk :=
 ⟨R.pw, coWs x.d x.failed x.pl.length at_ mask R.ws, setD R.ds x.d fun y => { y with pl := coB x.failed x.pl.length at_ mask x.pl, now := coB x.failed x.pl.length at_ mask x.now }⟩
def Rk.up (R : Rk) (st : List Bool) : Rk := ⟨⟨-1, false, R.pw.wr⟩, [], (upW R.ws st R.ds).map Dk.settle⟩
def Rk.cut (R : Rk) (k : Int) : Rk := { R with pw := { R.pw with left := max (-1) k } }
def Rk.add (R : Rk) (d gp gn n : Nat) : Rk := { R with ds := R.ds ++ [⟨d, gp, gn, List.replicate (n * 128) 0, List.replicate (n * 128) 0, false⟩] }
theorem zGy {f : Bool} {n : Nat} {at_ : Int} {mask b : List UInt8} (hb : b.length = n) : (coB f n at_ mask b).length = n := by
 unfold coB
 split
 ·rename_i h
  have hm : coMay n at_ mask := by
   unfold coE at h
   split at h
   ·cases h
   ·split at h
    ·assumption
    ·cases h
  obtain ⟨h1, h2, h3⟩ := hm
  rw [zEf oZ (by rw [zCg, zCf oZ])]; exact hb
 ·exact hb
theorem coWs_mem {d : Nat} {f : Bool} {n : Nat} {at_ : Int} {mask : List UInt8} {ws : List Wt} {w : Wt} (h : w ∈ coWs d f n at_ mask ws) : ∃ w0 ∈ ws, w0.d = w.d ∧ w0.at_ = w.at_ := by
 unfold coWs at h
 split at h
 ·obtain ⟨w0, h1, h2⟩ := List.mem_map.1 h
  refine ⟨w0, h1, ?_⟩
  split at h2 <;> subst h2 <;> exact ⟨rfl, rfl⟩
 ·exact ⟨w, h, rfl, rfl⟩
theorem coWs_length {d : Nat} {f : Bool} {n : Nat} {at_ : Int} {mask : List UInt8} {ws : List Wt} : (coWs d f n at_ mask ws).length = ws.length := by
 unfold coWs; split
 ·exact coW_length ..
 ·rfl
end Go.Sl
namespace Go.Proofs.YtpjidiaekifmbaaGreatDoor
open Go.Sl
set_option maxRecDepth 10000
theorem zIq {A B : List Dk} {x y : Dk} (h : DkOk (A ++ x :: B)) (hs : Same x y) : DkOk (A ++ y :: B) := by
 obtain ⟨h1, h2⟩ := h
 refine ⟨by simpa [hs.d] using h1, fun z hz => ?_⟩
 rcases List.mem_append.1 hz with hz | hz
 ·exact h2 z (List.mem_append_left _ hz)
 ·rcases List.mem_cons.1 hz with rfl | hz
  ·have := h2 x (List.mem_append_right _ (List.mem_cons_self ..))
   rw [hs.pl, hs.now]; exact ⟨rfl, this.2⟩
  ·exact h2 z (List.mem_append_right _ (List.mem_cons_of_mem _ hz))
theorem zIr {A B : List Dk} {ws : List Wt} {x y : Dk} (h : WtOk ws (A ++ x :: B)) (hs : Same x y) : WtOk ws (A ++ y :: B) := fun w hw => by
 obtain ⟨⟨z, h1, h2⟩, h3⟩ := h w hw
 refine ⟨?_, fun u hu hud => ?_⟩
 ·rcases List.mem_append.1 h1 with h1 | h1
  ·exact ⟨z, List.mem_append_left _ h1, h2⟩
  ·rcases List.mem_cons.1 h1 with rfl | h1
   ·exact ⟨y, List.mem_append_right _ (List.mem_cons_self ..), by rw [hs.d]; exact h2⟩
   ·exact ⟨z, List.mem_append_right _ (List.mem_cons_of_mem _ h1), h2⟩
 ·rcases List.mem_append.1 hu with hu | hu
  ·exact h3 u (List.mem_append_left _ hu) hud
  ·rcases List.mem_cons.1 hu with rfl | hu
   ·rw [hs.pl]; exact h3 x (List.mem_append_right _ (List.mem_cons_self ..)) (by rw [← hs.d]; exact hud)
   ·exact h3 u (List.mem_append_right _ (List.mem_cons_of_mem _ hu)) hud
theorem wt_sub {ds : List Dk} {ws ws' : List Wt} (h : WtOk ws ds) (k : ∀ w ∈ ws', w ∈ ws) : WtOk ws' ds := fun w hw => h w (k w hw)
abbrev RkL (p : Nat) (R : Rk) (vw vd : Value) (Cw Cd : zAj) : List zAj := [(p, pcl R.pw vw vd)] :: Cw :: Cd :: chs p R.ds
def RkC (p : Nat) (R : Rk) (C : zAj) : Prop :=
 ∃ vw vd Cw Cd, Buf Cw 131 130 vw R.ws.length (wl R.ws) ∧ Buf Cd 56 1 vd R.ds.length (R.ds.map fun x => ptr x.d) ∧ DkOk R.ds ∧ WtOk R.ws R.ds ∧ C = (RkL p R vw vd Cw Cd).flatten
theorem RkC.ok {p : Nat} {R : Rk} {C : zAj} (h : RkC p R C) : DkOk R.ds ∧ WtOk R.ws R.ds := by
 obtain ⟨_, _, _, _, _, _, h1, h2, _⟩ := h; exact ⟨h1, h2⟩
section
variable {w0 w : World} {As Ls : List zAj} {p : Nat} {s : Pw} {vw vd : Value} {Cw Cd C : zAj} {ws : List Wt} {A B : List Dk} {x y : Dk}
theorem rk_out (S : St w0 As w ((RkL p ⟨s, ws, A ++ x :: B⟩ vw vd Cw Cd).flatten :: Ls)) : St w0 As w ([(p, pcl s vw vd)] :: Cw :: ch1 p x :: ch2 x :: ch3 x :: Cd :: (chs p (A ++ B) ++ Ls)) := by
 have S : St w0 As w ([(p, pcl s vw vd)] :: Cw :: Cd :: (chs p (A ++ x :: B) ++ Ls)) := S.openF
 have S := S.perm (chs_open p _ _ _ A B x Ls)
 exact S.front5 (A := [(p, pcl s vw vd)]) pZ (B := Cw) pZ (C := ch1 p x) pZ (D := ch2 x) pZ (F := ch3 x) pZ
theorem rk_in (S : St w0 As w ([(p, pcl s vw vd)] :: Cw :: ch1 p x :: ch2 x :: ch3 x :: Cd :: (chs p (A ++ B) ++ Ls))) : St w0 As w ((RkL p ⟨s, ws, A ++ x :: B⟩ vw vd Cw Cd).flatten :: Ls) := by
 have S := S.front6 (A := ch1 p x) pZ (B := ch2 x) pZ (C := ch3 x) pZ (D := [(p, pcl s vw vd)]) pZ (F := Cw) pZ (G := Cd) pZ
 have S := S.perm (chs_open p _ _ _ A B x Ls).symm
 exact St.closeF (Ms := RkL p ⟨s, ws, A ++ x :: B⟩ vw vd Cw Cd) S
theorem rk_in1 {E : zAj} (S : St w0 As w ([(p, pcl s vw vd)] :: Cw :: ch1 p x :: ch2 x :: ch3 x :: Cd :: E :: (chs p (A ++ B) ++ Ls))) : St w0 As w ((RkL p ⟨s, ws, A ++ x :: B⟩ vw vd Cw Cd).flatten :: E :: Ls) :=
 rk_in (Ls := E :: Ls) (S.perm (((((((List.perm_middle (l₁ := chs p (A ++ B)) (a := E) (l₂ := Ls)).symm).cons _).cons _).cons _).cons _).cons _ |>.cons _))
theorem rk_bks (h : WtOk ws (A ++ x :: B)) {Ms : List zAj} (hM : ∀ c ∈ chs p (A ++ B), c ∈ Ms) : ∀ w ∈ ws, w.d = x.d ∨ Bks Ms w.d := fun w hw => by
 obtain ⟨⟨z, h1, h2⟩, -⟩ := h w hw
 have h1 : z = x ∨ z ∈ A ++ B := by
  rcases List.mem_append.1 h1 with h1 | h1
  ·exact .inr (List.mem_append_left _ h1)
  ·rcases List.mem_cons.1 h1 with h1 | h1
   ·exact .inl h1
   ·exact .inr (List.mem_append_right _ h1)
 rcases h1 with rfl | h1
 ·exact .inl h2.symm
 ·have hm : (z.d, dcl p z.gp z.gn z.pl.length z.failed) ∈ ch1 p z := List.mem_singleton.2 rfl
  rw [h2] at hm
  exact .inr ⟨ch1 p z, hM _ (List.mem_flatMap.2 ⟨z, h1, List.mem_cons_self ..⟩), _, _, hm⟩
end
theorem rk_newp (w0 : World) : Ret Tryz.prog 24 #[] w0 fun u w' => ∃ p C, u = ptr p ∧ RkC p ⟨⟨-1, false, 0⟩, [], []⟩ C ∧ Trs w0 w' [] [C] := by
 refine (newpower_ret w0).mono fun u w' ⟨p, h, hT⟩ => ?_
 refine ⟨p, _, h, ⟨_, _, [], [], Buf.nil _ _, Buf.nil _ _, ⟨by simp, by simp⟩, fun w hw => by simp at hw, rfl⟩, ?_⟩
 simpa [chs] using hT
theorem rk_write (p : Nat) (R : Rk) (C : zAj) (hC : RkC p R C) (x : Dk) (hx : x ∈ R.ds) (hws : R.ws.length + 8192 ≤ 244335861110) (hwr : R.pw.wr ≤ 1000000000000000000) (hlf : R.pw.left ≤ 9223372036854775807)
  (at_ : Int) (ha : -9223372036854775808 ≤ at_ ∧ at_ ≤ 9223372036854775807) (v : Value) (b : List UInt8) (D : zAj) (hD : Rd D 1 v b.length (byt b)) (hcap : ∃ ad c, v = .slice ad b.length c ∧ b.length ≤ c) (w0 : World) (H : Hp w0 [C, D]) :
  Ret Tryz.prog 61 #[ptr x.d, .int .i64 at_, v] w0 fun u w' => ∃ C', u = .int .i64 (R.writeE x at_ b) ∧ RkC p (R.write x at_ b) C' ∧ Trs w0 w' [C, D] [C', D] := by
 obtain ⟨s, ws, ds⟩ := R
 obtain ⟨vw, vd, Cw, Cd, h1, h2, h3, h4, rfl⟩ := hC
 simp only at h1 h2 h3 h4 hx hws hwr hlf
 obtain ⟨A, B, rfl⟩ := List.append_of_mem hx
 have S := (rk_out (St.begin H)).front4 (A := [(p, pcl s vw vd)]) pZ (B := Cw) pZ (C := ch1 p x) pZ (D := ch3 x) pZ
 have hxl := h3.2 x hx
 refine (dwrite_ret x.d p x.gn x.gp x.pl.length x.failed s vw vd x.now hxl.1 hxl.2 ws hws hwr hlf Cw h1 at_ ha v b D hD hcap _ (show D ∈ _ from (by first | exact List.Mem.tail _ (List.Mem.tail _ (List.mem_append_right _ (List.mem_singleton.2 rfl))))) w0 S.hp).mono fun u w' ⟨vw', Cw', hu, hB, hl, hT⟩ => ?_
 have S := S.all hT
 have hs : Same x { x with now := (wrS x.d x.pl.length at_ b s x.failed x.now ws).2.1 } := ⟨rfl, rfl, rfl, rfl, hl⟩
 have hfit := wrS_fit (d := x.d) (n := x.pl.length) (at_ := at_) (b := b) (fun w => (∃ y ∈ A ++ x :: B, y.d = w.d) ∧ ∀ y ∈ A ++ x :: B, y.d = w.d → 128 * w.at_ + 128 ≤ y.pl.length) (fun j b' hj => ⟨⟨x, hx, rfl⟩, fun y hy hyd => by rw [zGx h3.1 hy hx hyd]; exact hj⟩) s x.failed x.now ws h4
 have hset : setD (A ++ x :: B) x.d (fun y => { y with now := (wrS x.d x.pl.length at_ b s x.failed x.now ws).2.1 }) = A ++ { x with now := (wrS x.d x.pl.length at_ b s x.failed x.now ws).2.1 } :: B := zHp _ h3.1
 have S := rk_in (x := { x with now := (wrS x.d x.pl.length at_ b s x.failed x.now ws).2.1 }) (ws := (wrS x.d x.pl.length at_ b s x.failed x.now ws).2.2.1) (S.front5 (A := [(p, pcl (wrS x.d x.pl.length at_ b s x.failed x.now ws).1 vw' vd)]) pZ (B := Cw') pZ (C := ch1 p x) pZ (D := ch2 x) pZ (F := ch3 { x with now := (wrS x.d x.pl.length at_ b s x.failed x.now ws).2.1 }) pZ)
 refine ⟨_, hu, ⟨vw', vd, Cw', Cd, hB, ?_, ?_, ?_, rfl⟩, ?_⟩
 ·simp only [Rk.write]; rw [hset]; simpa using h2
 ·simp only [Rk.write]; rw [hset]; exact zIq h3 hs
 ·simp only [Rk.write]; rw [hset]; exact zIr hfit hs
 ·simp only [Rk.write]; rw [hset]; exact S.tr
theorem rk_read (p : Nat) (R : Rk) (C : zAj) (hC : RkC p R C) (x : Dk) (hx : x ∈ R.ds) (at_ many : Int) (ha : -9223372036854775808 ≤ at_ ∧ at_ ≤ 9223372036854775807) (w0 : World) (H : Hp w0 [C]) :
  Ret Tryz.prog 48 #[ptr x.d, .int .i64 at_, .int .i64 many] w0 fun u w' => ∃ v Cb, u = .tuple #[v, .int .i64 (rdS R.pw x.failed x.now at_ many).1] ∧ Buf Cb 5 1 v (rdS R.pw x.failed x.now at_ many).2.length (byt (rdS R.pw x.failed x.now at_ many).2) ∧ Trs w0 w' [C] [Cb, C] := by
 obtain ⟨s, ws, ds⟩ := R
 obtain ⟨vw, vd, Cw, Cd, h1, h2, h3, h4, rfl⟩ := hC
 simp only at h1 h2 h3 h4 hx
 obtain ⟨A, B, rfl⟩ := List.append_of_mem hx
 have hxl := h3.2 x hx
 have S := (rk_out (St.begin H)).front3 (A := [(p, pcl s vw vd)]) pZ (B := ch1 p x) pZ (C := ch3 x) pZ
 have he : ch1 p x = [(x.d, dcl p x.gp x.gn x.now.length x.failed)] := by rw [hxl.1]
 rw [he] at S
 refine (dread_u x.d p x.gp x.gn x.failed s vw vd x.now oZ at_ many ha w0 (S.hp.sel sZ)).mono fun u w' ⟨v, Cb, hu, hB, hT⟩ => ?_
 have S := S.call4 sZ hT
 rw [← he] at S
 have S := rk_in1 (ws := ws) (S.front6 (A := [(p, pcl s vw vd)]) pZ (B := Cw) pZ (C := ch1 p x) pZ (D := ch2 x) pZ (F := ch3 x) pZ (G := Cd) pZ)
 exact ⟨v, Cb, hu, hB, S.perm2.tr⟩
theorem rk_flush (p : Nat) (R : Rk) (C : zAj) (hC : RkC p R C) (x : Dk) (hx : x ∈ R.ds) (w0 : World) (H : Hp w0 [C]) :
  Ret Tryz.prog 65 #[ptr x.d] w0 fun u w' => u = .int .i64 (flE R.pw x.failed) ∧ ∃ C', RkC p (R.flush x) C' ∧ Trs w0 w' [C] [C'] := by
 obtain ⟨s, ws, ds⟩ := R
 obtain ⟨vw, vd, Cw, Cd, h1, h2, h3, h4, rfl⟩ := hC
 simp only at h1 h2 h3 h4 hx
 obtain ⟨A, B, rfl⟩ := List.append_of_mem hx
 have hxl := h3.2 x hx
 have S := rk_out (St.begin H)
 refine (flush_u x.d p x.gp x.gn x.pl.length x.failed s vw vd x.pl x.now rfl hxl.1 hxl.2 ws Cw h1 _ (rk_bks h4 fun c hc => List.Mem.tail _ (List.mem_append_left _ hc)) w0 S.hp).mono fun u w' ⟨hu, vw', Cw', hB, hT⟩ => ?_
 have S := S.all hT
 have hl : (flP s x.failed x.pl x.now).length = x.pl.length := by unfold flP; split; exact hxl.1; rfl
 have hs : Same x { x with pl := flP s x.failed x.pl x.now } := ⟨rfl, rfl, rfl, hl, hxl.1⟩
 have hset : setD (A ++ x :: B) x.d (fun y => { y with pl := flP s x.failed x.pl x.now }) = A ++ { x with pl := flP s x.failed x.pl x.now } :: B := zHp _ h3.1
 have he : [(x.d, dcl p x.gp x.gn x.pl.length x.failed)] = ch1 p { x with pl := flP s x.failed x.pl x.now } := by simp only [ch1, hl]
 rw [he] at S
 have S := rk_in (x := { x with pl := flP s x.failed x.pl x.now }) (ws := flW x.d s x.failed ws) S
 refine ⟨hu, _, ⟨vw', vd, Cw', Cd, hB, ?_, ?_, ?_, rfl⟩, ?_⟩
 ·simp only [Rk.flush]; rw [hset]; simpa using h2
 ·simp only [Rk.flush]; rw [hset]; exact zIq h3 hs
 ·simp only [Rk.flush]; rw [hset]; exact zIr (wt_sub h4 fun w => flW_mem) hs
 ·simp only [Rk.flush]; rw [hset]; exact S.tr
theorem rk_fail (p : Nat) (R : Rk) (C : zAj) (hC : RkC p R C) (x : Dk) (hx : x ∈ R.ds) (w0 : World) (H : Hp w0 [C]) :
  Ret Tryz.prog 17 #[ptr x.d] w0 fun _ w' => ∃ C', RkC p (R.fail x) C' ∧ Trs w0 w' [C] [C'] := by
 obtain ⟨s, ws, ds⟩ := R
 obtain ⟨vw, vd, Cw, Cd, h1, h2, h3, h4, rfl⟩ := hC
 simp only at h1 h2 h3 h4 hx
 obtain ⟨A, B, rfl⟩ := List.append_of_mem hx
 have hxl := h3.2 x hx
 have S := rk_out (St.begin H)
 refine (fail_ret x.d p x.gp x.gn x.pl.length x.failed s vw vd x.pl x.now rfl hxl.1 hxl.2 ws Cw h1 _ (rk_bks h4 fun c hc => List.Mem.tail _ (List.mem_append_left _ hc)) w0 S.hp).mono fun u w' ⟨vw', Cw', hB, hT⟩ => ?_
 have S := S.all hT
 have hs : Same x { x with now := x.pl, failed := true } := ⟨rfl, rfl, rfl, rfl, rfl⟩
 have hset : setD (A ++ x :: B) x.d (fun y => { y with now := x.pl, failed := true }) = A ++ { x with now := x.pl, failed := true } :: B := zHp _ h3.1
 have S := rk_in (x := { x with now := x.pl, failed := true }) (ws := outW x.d ws) S
 refine ⟨_, ⟨vw', vd, Cw', Cd, hB, ?_, ?_, ?_, rfl⟩, ?_⟩
 ·simp only [Rk.fail]; rw [hset]; simpa using h2
 ·simp only [Rk.fail]; rw [hset]; exact zIq h3 hs
 ·simp only [Rk.fail]; rw [hset]; exact zIr (wt_sub h4 fun w hw => (List.mem_filter.1 hw).1) hs
 ·simp only [Rk.fail]; rw [hset]; exact S.tr
theorem rk_corrupt (p : Nat) (R : Rk) (C : zAj) (hC : RkC p R C) (x : Dk) (hx : x ∈ R.ds) (at_ : Int) (v : Value) (mask : List UInt8) (D : zAj) (hD : Rd D 1 v mask.length (byt mask)) (w0 : World) (H : Hp w0 [C, D]) :
  Ret Tryz.prog 18 #[ptr x.d, .int .i64 at_, v] w0 fun u w' => u = .int .i64 (coE x.failed x.pl.length at_ mask) ∧ ∃ C', RkC p (R.corrupt x at_ mask) C' ∧ Trs w0 w' [C, D] [C', D] := by
 obtain ⟨s, ws, ds⟩ := R
 obtain ⟨vw, vd, Cw, Cd, h1, h2, h3, h4, rfl⟩ := hC
 simp only at h1 h2 h3 h4 hx
 obtain ⟨A, B, rfl⟩ := List.append_of_mem hx
 have hxl := h3.2 x hx
 have S := rk_out (St.begin H)
 refine (corrupt_ret x.d p x.gp x.gn x.pl.length x.failed s vw vd x.pl x.now rfl hxl.1 hxl.2 ws Cw h1 at_ v mask D hD _ (List.Mem.tail _ (List.mem_append_right _ (List.mem_singleton.2 rfl))) (rk_bks h4 fun c hc => List.Mem.tail _ (List.mem_append_left _ hc)) w0 S.hp).mono fun u w' ⟨hu, Cw', hB, hT⟩ => ?_
 have S := S.all hT
 have hl : (coB x.failed x.pl.length at_ mask x.pl).length = x.pl.length := zGy rfl
 have hl2 : (coB x.failed x.pl.length at_ mask x.now).length = x.pl.length := zGy hxl.1
 have hs : Same x { x with pl := coB x.failed x.pl.length at_ mask x.pl, now := coB x.failed x.pl.length at_ mask x.now } := ⟨rfl, rfl, rfl, hl, hl2⟩
 have hset : setD (A ++ x :: B) x.d (fun y => { y with pl := coB x.failed x.pl.length at_ mask x.pl, now := coB x.failed x.pl.length at_ mask x.now }) = A ++ { x with pl := coB x.failed x.pl.length at_ mask x.pl, now := coB x.failed x.pl.length at_ mask x.now } :: B := zHp _ h3.1
 have he : [(x.d, dcl p x.gp x.gn x.pl.length x.failed)] = ch1 p { x with pl := coB x.failed x.pl.length at_ mask x.pl, now := coB x.failed x.pl.length at_ mask x.now } := by simp only [ch1, hl]
 rw [he] at S
 have S := rk_in (x := { x with pl := coB x.failed x.pl.length at_ mask x.pl, now := coB x.failed x.pl.length at_ mask x.now }) (ws := coWs x.d x.failed x.pl.length at_ mask ws) S
 have h4' : WtOk (coWs x.d x.failed x.pl.length at_ mask ws) (A ++ x :: B) := fun w hw => by
  obtain ⟨w1, q1, q2, q3⟩ := coWs_mem hw
  rw [← q2, ← q3]; exact h4 w1 q1
 refine ⟨hu, _, ⟨vw, vd, Cw', Cd, ?_, ?_, ?_, ?_, rfl⟩, ?_⟩
 ·simp only [Rk.corrupt]; rw [coWs_length]; exact hB
 ·simp only [Rk.corrupt]; rw [hset]; simpa using h2
 ·simp only [Rk.corrupt]; rw [hset]; exact zIq h3 hs
 ·simp only [Rk.corrupt]; rw [hset]; exact zIr h4' hs
 ·simp only [Rk.corrupt]; rw [hset]; exact S.tr
section
variable {w0 w : World} {As Ls : List zAj} {p : Nat} {R : Rk} {vw vd : Value} {Cw Cd : zAj}
theorem rk_power (S : St w0 As w ((RkL p R vw vd Cw Cd).flatten :: Ls)) : St w0 As w ([(p, pcl R.pw vw vd)] :: Cw :: Cd :: (chs p R.ds ++ Ls)) := S.openF
theorem rk_close (S : St w0 As w ([(p, pcl R.pw vw vd)] :: Cw :: Cd :: (chs p R.ds ++ Ls))) : St w0 As w ((RkL p R vw vd Cw Cd).flatten :: Ls) := St.closeF (Ms := RkL p R vw vd Cw Cd) S
end
theorem zFu (p : Nat) (R : Rk) (C : zAj) (hC : RkC p R C) (x : Dk) (hx : x ∈ R.ds) (w0 : World) (H : Hp w0 [C]) : Ret Tryz.prog 53 #[ptr x.d] w0 fun u w' => u = .int .i64 (x.pl.length / 128 : Nat) ∧ Trs w0 w' [C] [C] := by
 obtain ⟨s, ws, ds⟩ := R
 obtain ⟨vw, vd, Cw, Cd, h1, h2, h3, h4, rfl⟩ := hC
 simp only at h1 h2 h3 h4 hx
 obtain ⟨A, B, rfl⟩ := List.append_of_mem hx
 have S := (rk_out (St.begin H)).front1 (A := ch1 p x) pZ
 refine (zGc x.d p x.gp x.gn x.pl.length x.failed (h3.2 x hx).2 w0 (S.hp.sel sZ)).mono fun u w' ⟨hu, hT⟩ => ?_
 exact ⟨hu, (rk_in (ws := ws) ((S.call1 sZ hT).front3 (A := [(p, _)]) pZ (B := Cw) pZ (C := ch1 p x) pZ)).tr⟩
theorem rk_new (p : Nat) (R : Rk) (C : zAj) (hC : RkC p R C) (hl : R.ds.length ≤ 1000) (n : Nat) (h1 : 1 ≤ n) (h2 : n ≤ 8192) (w0 : World) (H : Hp w0 [C]) :
  Ret Tryz.prog 26 #[ptr p, .int .i64 n] w0 fun u w' => ∃ d gp gn C', u = .tuple #[ptr d, .int .i64 0] ∧ (∀ y ∈ R.ds, y.d ≠ d) ∧ RkC p (R.add d gp gn n) C' ∧ Trs w0 w' [C] [C'] := by
 obtain ⟨s, ws, ds⟩ := R
 obtain ⟨vw, vd, Cw, Cd, g1, g2, g3, g4, rfl⟩ := hC
 simp only at g1 g2 g3 g4 hl
 have S := (rk_power (St.begin H)).front2 (A := [(p, _)]) pZ (B := Cd) pZ
 refine (dnew_ret p s vw vd ds.length _ Cd g2 hl n h1 h2 w0 (S.hp.sel sZ)).mono fun u w' ⟨d, gp, gn, vd', Cd', hu, hB, hT⟩ => ?_
 have S := S.call sZ hT
 obtain ⟨x, hx⟩ : ∃ x : Dk, x = ⟨d, gp, gn, List.replicate (n * 128) 0, List.replicate (n * 128) 0, false⟩ := ⟨_, rfl⟩
 have hxl : x.pl.length = n * 128 := by rw [hx]; simp
 have he : [(d, dcl p gp gn (n * 128) false)] = ch1 p x := by rw [hx]; simp only [ch1, List.length_replicate]
 rw [he] at S
 have S : St w0 [(RkL p ⟨s, ws, ds⟩ vw vd Cw Cd).flatten] w' ([(p, pcl s vw vd')] :: Cd' :: ch1 p x :: ch2 x :: ch3 x :: Cw :: (chs p ds ++ [])) := by subst hx; exact S
 have hfr : ∀ y ∈ ds, y.d ≠ d := fun y hy hyd => by
  have hS := (S.front1 (A := ch1 p x) pZ).hp
  have hnd := hS.1
  simp only [List.flatten_cons, List.map_append, List.nodup_append] at hnd
  refine hnd.2.2 d (by rw [hx]; exact List.mem_singleton.2 rfl) d ?_ rfl
  simp only [List.mem_append]
  refine .inr (.inr (.inr (.inr (.inr ?_))))
  rw [← hyd]
  refine List.mem_map.2 ⟨(y.d, _), List.mem_flatten.2 ⟨ch1 p y, List.mem_append_left _ (List.mem_flatMap.2 ⟨y, hy, List.mem_cons_self ..⟩), List.mem_singleton.2 rfl⟩, rfl⟩
 have S := S.front6 (A := ch1 p x) pZ (B := ch2 x) pZ (C := ch3 x) pZ (D := [(p, _)]) pZ (F := Cw) pZ (G := Cd') pZ
 have hpm := chs_open p [(p, pcl s vw vd')] Cw Cd' ds [] x []
 rw [List.append_nil ds] at hpm
 have S := rk_close (R := ⟨s, ws, ds ++ [x]⟩) (S.perm hpm.symm)
 subst hx
 refine ⟨d, gp, gn, _, hu, hfr, ⟨vw, vd', Cw, Cd', g1, ?_, ⟨?_, ?_⟩, ?_, rfl⟩, S.tr⟩
 ·simp only [Rk.add, List.length_append, List.length_singleton, List.map_append, List.map_cons, List.map_nil]; exact hB
 ·simp only [Rk.add, List.map_append, List.map_cons, List.map_nil]
  rw [List.nodup_append]
  refine ⟨g3.1, by simp, fun a ha b hb => ?_⟩
  obtain ⟨y, hy, rfl⟩ := List.mem_map.1 ha
  rw [List.mem_singleton.1 hb]; exact hfr y hy
 ·intro y hy
  rcases List.mem_append.1 hy with hy | hy
  ·exact g3.2 y hy
  ·rw [List.mem_singleton.1 hy]; simp only [List.length_replicate]; exact ⟨trivial, by omega⟩
 ·intro w hw
  obtain ⟨⟨y, q1, q2⟩, q3⟩ := g4 w hw
  refine ⟨⟨y, List.mem_append_left _ q1, q2⟩, fun z hz hzd => ?_⟩
  rcases List.mem_append.1 hz with hz | hz
  ·exact q3 z hz hzd
  ·rw [List.mem_singleton.1 hz] at hzd; exact absurd (q2.trans hzd.symm) (hfr y q1)
end Go.Proofs.YtpjidiaekifmbaaGreatDoor
namespace Go.Sl
section
variable {P : Program} {a : Act} {o : Oper} {n : Nat} {e : List (Nat × Value)} {ds : List Deferred} {x y z : Operand} {w w0 : World} {v : Value} {As Ls Rs : List zAj} {K : Act → World → Prop} {Q : Exit → Act → World → Prop}
theorem zFk {kt : TypeId} {k : IntKind} {q : Int} {b : Bool} (hk : P.underlying kt = some (.int k)) : (Instr.checkKey b 10000 kt (.int k q)).run P w = .ok () w :=
 Go.MapKept.run_checkKey (n := 9999) hk (by simp [Go.MapKept.IsKey]) b
theorem rn_lookup1 (E : Fr a n e ds) {t kt et : TypeId} {r i clock : Nat} {es : Array MapEntry} {k : IntKind} {q : Int} (ho : o.op = .lookup t x y false) (hx : ev e x = some (.map (some r))) (hy : ev e y = some (.int k q)) (ht : P.underlying t = some (.map kt et)) (hk : P.underlying kt = some (.int k))
  (hb : w.heap[r]? = some (.map es clock)) (hf : Instr.findNow (.int k) (.int k q) es.toList 0 = some (some (i, v))) : zAu P o a w v w := by
 simp [zAu, execOp, ho, E.eval hx, E.eval hy, Instr.lookup, run_underlying ht, Go.MapKept.run_getObj_map hb, zFk hk, Go.MapKept.run_findKey hk hf]
theorem zFo (E : Fr a n e ds) {t kt et : TypeId} {r clock : Nat} {es : Array MapEntry} {k : IntKind} {q : Int} {ti : TypeInfo} (ho : o.op = .lookup t x y false) (hx : ev e x = some (.map (some r))) (hy : ev e y = some (.int k q)) (ht : P.underlying t = some (.map kt et)) (hk : P.underlying kt = some (.int k))
  (hi : P.info? et = some ti) (hz : ti.zero = some v) (hb : w.heap[r]? = some (.map es clock)) (hf : Instr.findNow (.int k) (.int k q) es.toList 0 = some none) : zAu P o a w v w := by
 simp [zAu, execOp, ho, E.eval hx, E.eval hy, Instr.lookup, run_underlying ht, Go.MapKept.run_getObj_map hb, zFk hk, Go.MapKept.run_findKey hk hf, zeroValue, typeInfo, hi, hz]
theorem wp_makeMap (E : Fr a n e ds) (S : St w0 As w Ls) {t : TypeId} {d : Nat} (ho : o.op = .makeMap t none) (hd : o.dst = some d) (hn : d < n)
  (k : ∀ a' w' b, Fr a' n ((d, .map (some b)) :: e) ds → St w0 As w' ([(b, .map #[] 0)] :: Ls) → K a' w') : o.wp P a w K Q := by
 have hrun : zAu P o a w (.map (some w.heap.size)) (w.alloc (.map #[] 0)) := by
  have _ := E.nod
  simp [zAu, execOp, ho, Go.RowKit.run_makeMap]
 exact hrun.wp (by rw [hd]; exact k _ _ w.heap.size (E.put hn _) (S.alloc _))
theorem zHg {r : Nat} {ob ob' : Obj} (S : St w0 As w Ls) (hp : Ls.Perm ([(r, ob)] :: Rs)) : St w0 As { w with heap := w.heap.setIfInBounds r ob' } ([(r, ob')] :: Rs) :=
 S.block hp rfl rfl rfl (by simp) (fun h => by have := (Array.getElem?_eq_some_iff.1 h).1; simp [this]) (fun k hk => by simp [Ne.symm hk])
theorem wp_mapSet (E : Fr a n e ds) (S : St w0 As w Ls) {t kt et : TypeId} {r clock : Nat} {es : Array MapEntry} {k : IntKind} {q : Int} (ho : o.op = .mapUpdate t x y z ∨ o.op = .insert t x y z) (hd : o.dst = none) (hx : ev e x = some (.map (some r))) (hy : ev e y = some (.int k q)) (hz : ev e z = some v)
  (ht : P.underlying t = some (.map kt et)) (hk : P.underlying kt = some (.int k)) (hp : Ls.Perm ([(r, .map es clock)] :: Rs)) (hf : Instr.findNow (.int k) (.int k q) es.toList 0 = some none)
  (kk : ∀ a' w', Fr a' n e ds → St w0 As w' ([(r, .map (es.push { key := .int k q, val := v, born := clock }) (clock + 1))] :: Rs) → K a' w') : o.wp P a w K Q := by
 have hb := S.get hp
 refine zLb.wp (w' := { w with heap := w.heap.setIfInBounds r (.map (es.push { key := .int k q, val := v, born := clock }) (clock + 1)) }) ?_ (by rw [hd]; exact kk _ _ (E.put0 _) (zHg S hp))
 unfold zLb
 rcases ho with ho | ho <;> simp [execOp, ho, E.eval hx, E.eval hy, E.eval hz, Instr.mapUpdate, run_underlying ht, Go.MapKept.run_getObj_map hb, zFk hk, Go.MapKept.run_findKey hk hf, Go.MapKept.run_setObj_map _ hb]
end
end Go.Sl
namespace Go.Sl
section
variable {P : Program} {Q : Exit → Act → World → Prop} {a : Act} {w w0 : World} {As Ls Rs : List zAj} {o : Oper} {K : Act → World → Prop} {n : Nat} {e : List (Nat × Value)} {ds : List Deferred} {x y : Operand}
theorem wp_atadd (E : Fr a n e ds) (S : St w0 As w Ls) {f : FuncId} {fn : Func} {ts : Array TypeId} {d b j : Nat} {k : IntKind} {l : List Value} {T : TypeId} {z q : Int} (ho : o.op = .call { callee := .value (.func f), args := [x, y].toArray, argTypes := ts }) (hd : o.dst = some d) (hn : d < n)
  (hf : P.funcs[f]? = some fn) (hnm : (fn.name == "runtime.NumGoroutine") = false) (hb : fn.body.isNone = true) (hnx : Extern.findNext fn = none) (he : Extern.find fn = some (Extern.Atomic.update (Op.intArith .add) k true))
  (hx : ev e x = some (.pointer (some ⟨b, j, none⟩))) (hy : ev e y = some (.int k q)) (hp : Ls.Perm ([(b, cel l T)] :: Rs)) (hv : l[j]? = some (.int k z))
  (kk : ∀ a' w', Fr a' n ((d, .int k (k.wrap (z + q))) :: e) ds → St w0 As w' ([(b, cel (l.set j (.int k (k.wrap (z + q)))) T)] :: Rs) → K a' w') : o.wp P a w K Q := by
 have hg := S.get hp
 have hc : w.cell? ⟨b, j, none⟩ = some (.int k z) := by rw [zGl hg, List.getElem?_toArray]; exact hv
 have hz : w.frozen? ⟨b, j, none⟩ = false := by simp [World.frozen?, hg]
 have hr := Go.Conc.run_add_entry (P := P) (w := w) (d := q) hc hz
 rw [setCell_eq_setRow w b j _ T (0, 0) _ hg] at hr
 have hrow : (l.toArray.setIfInBounds j (.int k (k.wrap (z + q)))) = (l.set j (.int k (k.wrap (z + q)))).toArray := by simp
 rw [hrow] at hr
 have hrun : zAu P o a w (.int k (k.wrap (z + q))) (w.setRow b (l.set j (.int k (k.wrap (z + q)))).toArray) := by
  unfold zAu execOp
  have hgf : ev e (.func f) = some (.func (.func f) #[] #[]) := rfl
  have hxs : evs e [x, y] = some [.pointer (some ⟨b, j, none⟩), .int k q] := by simp [evs, hx, hy]
  have hcf := run_callFunc_extern (P := P) (args := #[.pointer (some ⟨b, j, none⟩), .int k q]) (w := w) hf hnm hb hnx he
  simp [ho, resolve, E.eval hgf, Deferred.ofValue, invoke, E.eval hx, E.eval hy, hcf, hr, Result.andThen]
 exact hrun.wp (by rw [hd]; exact kk _ _ (E.put hn _) (S.row hp))
end
end Go.Sl
namespace Go.Sl
def dkOf (R : Rk) (d : Nat) : Dk := (R.ds.find? fun x => decide (x.d = d)).getD ⟨0, 0, 0, [], [], false⟩
theorem zCw {R : Rk} {d : Nat} (h : ∃ x ∈ R.ds, x.d = d) : dkOf R d ∈ R.ds ∧ (dkOf R d).d = d := by
 unfold dkOf
 cases hf : R.ds.find? fun x => decide (x.d = d) with
 | none =>
  obtain ⟨x, h1, h2⟩ := h
  have := List.find?_eq_none.1 hf x h1
  simp [h2] at this
 | some x => exact ⟨List.mem_of_find?_eq_some hf, by simpa using List.find?_some hf⟩
theorem dkOf_eq {R : Rk} {x : Dk} (hnd : (R.ds.map Dk.d).Nodup) (hx : x ∈ R.ds) : dkOf R x.d = x :=
 have h := zCw (R := R) (d := x.d) ⟨x, hx, rfl⟩
 zGx hnd h.1 hx h.2
def Rk.has (R : Rk) (d : Nat) : Prop := ∃ x ∈ R.ds, x.d = d
def zEa (x : Dk) : Int := (x.pl.length / 128 : Nat) - 292
def zIb (x : Dk) (at_ many : Int) : Prop := 0 ≤ at_ ∧ 0 ≤ many ∧ at_ ≤ zEa x ∧ many ≤ zEa x - at_
instance (x : Dk) (at_ many : Int) : Decidable (zIb x at_ many) := by unfold zIb; infer_instance
def zJi (R : Rk) (x : Dk) : Int := if R.pw.off then 5 else if x.failed then 30 else 0
theorem rdS_ask (R : Rk) (x : Dk) : (rdS R.pw x.failed x.now 0 0).1 = zJi R x := by
 unfold rdS zJi
 split
 ·rfl
 ·split
  ·rfl
  ·rw [if_neg]; intro h; exact h ⟨Int.le_refl _, Int.le_refl _, by omega, by omega⟩
def zFl (R : Rk) (x : Dk) (at_ many : Int) : Int × List UInt8 :=
 if zJi R x ≠ 0 then (zJi R x, []) else if ¬ zIb x at_ many then (1, []) else rdS R.pw x.failed x.now (274 + at_) many
def zDg (R : Rk) (x : Dk) (at_ : Int) (b : List UInt8) : Rk × Int :=
 if zJi R x ≠ 0 then (R, zJi R x) else if b.length % 128 ≠ 0 ∨ ¬ zIb x at_ (b.length / 128 : Nat) then (R, 1) else (R.write x (274 + at_) b, R.writeE x (274 + at_) b)
end Go.Sl
namespace Go.Proofs.YtpjidiaekifmbaaGreatDoor
open Go.Sl
set_option maxRecDepth 10000
abbrev lfcl (d : Nat) (u1 u2 u3 u4 : Value) (r q s : Int) : Obj := cel [ptr d, u1, u2, u3, u4, .int .i64 r, .int .i64 q, .int .i64 s] 111
def LfC (p d : Nat) (C : zAj) : Prop := ∃ u1 u2 u3 u4 r q s, C = [(p, lfcl d u1 u2 u3 u4 r q s)]
theorem atadd_ret (p off : Nat) (l : List Value) (T : TypeId) (z q : Int) (hv : l[off]? = some (.int .i64 z)) (w0 : World) (H : Hp w0 [[(p, cel l T)]]) :
  Ret Tryz.prog 80 #[.pointer (some ⟨p, off, none⟩), .int .i64 q] w0 fun _ w' => ∃ z', Trs w0 w' [[(p, cel l T)]] [[(p, cel (l.set off (.int .i64 z')) T)]] := by
 have S := St.begin H
 refine zBx 10 Tryz.func80 rfl rfl dZ ?_; intro a E
 refine wp_seq_k ?_; intro K hK
 refine zAa ?_
 refine zd E ?_; clear E a; intro a E
 refine wpList_nil ?_
 refine zAb hK ?_; clear hK K
 refine wp_seq_k ?_; intro K hK
 refine zAa ?_
 iterate 2 (refine zd E ?_; clear E a; intro a E)
 refine zp E (by first | exact zAc (q := 0) E rfl rfl rfl | exact zAd (q := 0) E rfl rfl rfl) ?_; clear E a; intro a E
 refine zd E ?_; clear E a; intro a E
 refine zAf rfl (wp_atadd E S rfl rfl dZ Tryz.func95 yZ yZ yZ yZ rfl rfl pZ hv ?_); clear E S a; intro a w E S
 refine zd E ?_; clear E a; intro a E
 refine wpList_nil ?_
 refine zAb hK ?_; clear hK K
 refine wp_ret ?_
 refine ret1 E rfl rfl ?_
 exact ⟨_, rfl, _, S.tr⟩
theorem zHq (p off : Nat) (l : List Value) (T : TypeId) (z e : Int) (hv : l[off]? = some (.int .i64 z)) (w0 : World) (H : Hp w0 [[(p, cel l T)]]) :
  Ret Tryz.prog 46 #[.int .i64 e, .pointer (some ⟨p, off, none⟩)] w0 fun u w' => u = .int .i64 e ∧ ∃ z', Trs w0 w' [[(p, cel l T)]] [[(p, cel (l.set off (.int .i64 z')) T)]] := by
 have S := St.begin H
 have hself : l.set off (.int .i64 z) = l := by
  apply List.ext_getElem?; intro i
  rw [List.getElem?_set]
  by_cases h : off = i
  ·subst h; rw [if_pos rfl, if_pos (List.getElem?_eq_some_iff.1 hv).1, hv]
  ·rw [if_neg h]
 refine zBx 10 Tryz.func46 rfl rfl dZ ?_; intro a E
 refine wp_seq_k ?_; intro K hK
 refine zAa ?_
 refine zd E ?_; clear E a; intro a E
 refine wpList_nil ?_
 refine zAb hK ?_; clear hK K
 iterate 2 (refine wp_seq_k ?_; intro K hK)
 refine zAa ?_
 iterate 2 (refine zd E ?_; clear E a; intro a E)
 refine wpList_nil ?_
 refine zAb hK ?_; clear hK K
 refine zAs E rfl (fun hb => ?_) (fun hb => ?_)
 ·replace hb := Nrm.nrm hb
  refine zAa ?_
  refine zd E ?_; clear E a; intro a E
  refine zAg E rfl rfl dZ rfl Tryz.func80 rfl yZ rfl (atadd_ret p off l T z 1 hv _ (S.hp.sel sZ)) ?_
  rintro v8 w ⟨z', hT⟩; clear E a; intro a E
  have S := S.call1 sZ hT
  refine wpList_nil ?_
  refine zAb hK ?_; clear hK K
  refine wp_seq_k ?_; intro K hK
  refine zAa ?_
  iterate 2 (refine zd E ?_; clear E a; intro a E)
  refine wpList_nil ?_
  refine zAb hK ?_; clear hK K
  refine wp_ret ?_
  refine ret1 E rfl rfl ?_
  first | exact ⟨_, rfl, rfl, z', S.tr⟩ | exact ⟨_, rfl, rfl, z, by rw [hself]; exact S.tr⟩
 ·replace hb := Nrm.nrm hb
  refine wp_skip ?_
  refine zAb hK ?_; clear hK K
  refine wp_seq_k ?_; intro K hK
  refine zAa ?_
  iterate 2 (refine zd E ?_; clear E a; intro a E)
  refine wpList_nil ?_
  refine zAb hK ?_; clear hK K
  refine wp_ret ?_
  refine ret1 E rfl rfl ?_
  first | exact ⟨_, rfl, rfl, z', S.tr⟩ | exact ⟨_, rfl, rfl, z, by rw [hself]; exact S.tr⟩
theorem blame_ret (p d : Nat) (L : zAj) (hL : LfC p d L) (w0 : World) (H : Hp w0 [L]) :
  Ret Tryz.prog 41 #[ptr p] w0 fun _ w' => ∃ L', LfC p d L' ∧ Trs w0 w' [L] [L'] := by
 obtain ⟨u1, u2, u3, u4, r, q, s, rfl⟩ := hL
 have S := St.begin H
 refine zCh 6 Tryz.func41 rfl rfl dZ ?_; intro a E
 refine zAa ?_
 iterate 2 (refine zd E ?_; clear E a; intro a E)
 refine zp E (by first | exact zAc (q := 7) E rfl rfl rfl | exact zAd (q := 7) E rfl rfl rfl) ?_; clear E a; intro a E
 refine zAg E rfl rfl dZ rfl Tryz.func80 rfl yZ rfl (atadd_ret p 7 _ _ s 1 rfl _ (S.hp.sel sZ)) ?_
 rintro v5 w ⟨z', hT⟩; clear E a; intro a E
 have S := S.call1 sZ hT
 refine wpList_nil ?_
 refine end0 E rfl ?_
 exact ⟨_, rfl, _, ⟨u1, u2, u3, u4, r, q, z', rfl⟩, S.tr⟩
section
variable (p d P : Nat) (R : Rk) (C L : zAj) (hC : RkC P R C) (hd : R.has d) (hL : LfC p d L)
include hC hd hL
theorem zKl (w0 : World) (H : Hp w0 [C, L]) : Ret Tryz.prog 72 #[ptr p] w0 fun u w' => u = .int .i64 (zEa (dkOf R d)) ∧ Trs w0 w' [C, L] [C, L] := by
 obtain ⟨u1, u2, u3, u4, r, q, s, rfl⟩ := hL
 obtain ⟨hx, hxd⟩ := zCw hd
 obtain ⟨x, hxe⟩ : ∃ x, x = dkOf R d := ⟨_, rfl⟩
 rw [← hxe] at hx hxd ⊢
 subst hxd
 have hl := (hC.ok.1.2 x hx).2
 have S := St.begin H
 refine zCh 10 Tryz.func72 rfl rfl dZ ?_; intro a E
 refine wp_seq_k ?_; intro K hK
 refine zAa ?_
 refine zd E ?_; clear E a; intro a E
 refine wpList_nil ?_
 refine zAb hK ?_; clear hK K
 refine wp_seq_k ?_; intro K hK
 refine zAa ?_
 iterate 2 (refine zd E ?_; clear E a; intro a E)
 refine zp E (by first | exact zAc (q := 0) E rfl rfl rfl | exact zAd (q := 0) E rfl rfl rfl) ?_; clear E a; intro a E
 refine zd E ?_; clear E a; intro a E
 refine zAg E rfl rfl dZ rfl Tryz.func53 rfl yZ rfl (zFu P R C hC x hx _ (S.hp.sel sZ)) ?_
 rintro v7 w ⟨rfl, hT⟩; clear E a; intro a E
 have S := S.call1 sZ hT
 iterate 2 (refine zp E (zCo E rfl rfl rfl (w_in oZ)) ?_; clear E a; intro a E)
 refine zd E ?_; clear E a; intro a E
 refine wpList_nil ?_
 refine zAb hK ?_; clear hK K
 refine wp_ret ?_
 refine ret1 E rfl rfl ?_
 exact ⟨_, rfl, by unfold zEa; congr 1; omega, S.tr⟩
theorem lhas_ret (at_ many : Int) (ha : -9223372036854775808 ≤ at_ ∧ at_ ≤ 9223372036854775807) (w0 : World) (H : Hp w0 [C, L]) : Ret Tryz.prog 47 #[ptr p, .int .i64 at_, .int .i64 many] w0 fun u w' => u = .bool (decide (zIb (dkOf R d) at_ many)) ∧ Trs w0 w' [C, L] [C, L] := by
 have hl := (hC.ok.1.2 _ (zCw hd).1).2
 obtain ⟨z, hz⟩ : ∃ z, z = zEa (dkOf R d) := ⟨_, rfl⟩
 have hzb : -292 ≤ z ∧ z ≤ 8192 := by rw [hz]; unfold zEa; omega
 have hh : ∀ b : Bool, (b = true ↔ (0 ≤ at_ ∧ 0 ≤ many ∧ at_ ≤ z ∧ many ≤ z - at_)) → b = decide (zIb (dkOf R d) at_ many) := fun b h => by
  rw [Bool.eq_iff_iff, decide_eq_true_eq, h]; unfold zIb; rw [← hz]
 have S := St.begin H
 refine zDi 27 Tryz.func47 rfl rfl dZ ?_; intro a E
 refine wp_seq_k ?_; intro K hK
 refine zAa ?_
 refine zd E ?_; clear E a; intro a E
 refine wpList_nil ?_
 refine zAb hK ?_; clear hK K
 refine wp_seq_k ?_; intro K hK
 refine zAa ?_
 iterate 3 (refine zd E ?_; clear E a; intro a E)
 refine zAr E (t := 9) rfl (fun hb9 => ?_) (fun hb9 => ?_)
 ·have hb9n := hb9; replace hb9n := Nrm.nrm hb9n
  iterate 2 (refine zyd E hb9 ?_; clear E a; intro a E)
  refine zp E (zAi E rfl rfl hb9 rfl) ?_; clear E a; intro a E
  refine zd E ?_; clear E a; intro a E
  refine zAr E (t := 13) rfl (fun hb13 => ?_) (fun hb13 => ?_)
  ·have hb13n := hb13; replace hb13n := Nrm.nrm hb13n
   iterate 2 (refine zyd E hb13 ?_; clear E a; intro a E)
   refine zBy E rfl rfl rfl rfl hb13 ?_; refine zCe E rfl dZ rfl Tryz.func72 rfl yZ rfl (zKl p d P R C L hC hd hL _ (S.hp.sel sZ)) ?_
   rintro v16 w ⟨rfl, hT⟩; clear E a; intro a E
   have S := S.call2 sZ hT; rw [← hz] at E
   refine zyd E hb13 ?_; clear E a; intro a E
   refine zp E (zAi E rfl rfl hb13 rfl) ?_; clear E a; intro a E
   refine zd E ?_; clear E a; intro a E
   refine zAr E (t := 19) rfl (fun hb19 => ?_) (fun hb19 => ?_)
   ·have hb19n := hb19; replace hb19n := Nrm.nrm hb19n
    iterate 2 (refine zyd E hb19 ?_; clear E a; intro a E)
    refine zBy E rfl rfl rfl rfl hb19 ?_; refine zCe E rfl dZ rfl Tryz.func72 rfl yZ rfl (zKl p d P R C L hC hd hL _ (S.hp.sel sZ)) ?_
    rintro v22 w ⟨rfl, hT⟩; clear E a; intro a E
    have S := S.call2 sZ hT; rw [← hz] at E
    refine zyd E hb19 ?_; clear E a; intro a E
    refine zy E hb19 (zCo E rfl rfl rfl (w_in oZ)) ?_; clear E a; intro a E
    refine zyd E hb19 ?_; clear E a; intro a E
    refine zp E (zAi E rfl rfl hb19 rfl) ?_; clear E a; intro a E
    refine zd E ?_; clear E a; intro a E
    refine wpList_nil ?_
    refine zAb hK ?_; clear hK K
    refine wp_ret ?_
    refine ret1 E rfl rfl ?_
    refine ⟨_, rfl, congrArg _ (hh _ ?_), S.tr⟩
    first | (simp; omega) | (simp only [decide_eq_true_eq]; omega) | (simp only [Bool.false_eq_true, false_iff]; omega)
   ·have hb19n := hb19; replace hb19n := Nrm.nrm hb19n
    iterate 6 (refine zn E hb19 ?_; clear E a; intro a E)
    refine zp E (zAk E rfl rfl hb19 rfl) ?_; clear E a; intro a E
    refine zd E ?_; clear E a; intro a E
    refine wpList_nil ?_
    refine zAb hK ?_; clear hK K
    refine wp_ret ?_
    refine ret1 E rfl rfl ?_
    refine ⟨_, rfl, congrArg _ (hh _ ?_), S.tr⟩
    first | (simp; omega) | (simp only [decide_eq_true_eq]; omega) | (simp only [Bool.false_eq_true, false_iff]; omega)
  ·have hb13n := hb13; replace hb13n := Nrm.nrm hb13n
   iterate 4 (refine zn E hb13 ?_; clear E a; intro a E)
   refine zp E (zAk E rfl rfl hb13 rfl) ?_; clear E a; intro a E
   refine zd E ?_; clear E a; intro a E
   iterate 6 (refine zn E rfl ?_; clear E a; intro a E)
   refine zp E (zAk E rfl rfl rfl rfl) ?_; clear E a; intro a E
   refine zd E ?_; clear E a; intro a E
   refine wpList_nil ?_
   refine zAb hK ?_; clear hK K
   refine wp_ret ?_
   refine ret1 E rfl rfl ?_
   refine ⟨_, rfl, congrArg _ (hh _ ?_), S.tr⟩
   first | (simp; omega) | (simp only [decide_eq_true_eq]; omega) | (simp only [Bool.false_eq_true, false_iff]; omega)
 ·have hb9n := hb9; replace hb9n := Nrm.nrm hb9n
  iterate 2 (refine zn E hb9 ?_; clear E a; intro a E)
  refine zp E (zAk E rfl rfl hb9 rfl) ?_; clear E a; intro a E
  refine zd E ?_; clear E a; intro a E
  iterate 4 (refine zn E rfl ?_; clear E a; intro a E)
  refine zp E (zAk E rfl rfl rfl rfl) ?_; clear E a; intro a E
  refine zd E ?_; clear E a; intro a E
  iterate 6 (refine zn E rfl ?_; clear E a; intro a E)
  refine zp E (zAk E rfl rfl rfl rfl) ?_; clear E a; intro a E
  refine zd E ?_; clear E a; intro a E
  refine wpList_nil ?_
  refine zAb hK ?_; clear hK K
  refine wp_ret ?_
  refine ret1 E rfl rfl ?_
  refine ⟨_, rfl, congrArg _ (hh _ ?_), S.tr⟩
  first | (simp; omega) | (simp only [decide_eq_true_eq]; omega) | (simp only [Bool.false_eq_true, false_iff]; omega)
end
end Go.Proofs.YtpjidiaekifmbaaGreatDoor
namespace Go.Proofs.YtpjidiaekifmbaaGreatDoor
open Go.Sl
set_option maxRecDepth 10000
section
variable (p d P : Nat) (R : Rk) (C L : zAj) (hC : RkC P R C) (hd : R.has d) (hL : LfC p d L)
include hC hd hL
theorem asked_ret (w0 : World) (H : Hp w0 [C, L]) : Ret Tryz.prog 45 #[ptr p] w0 fun u w' => u = .int .i64 (zJi R (dkOf R d)) ∧ Trs w0 w' [C, L] [C, L] := by
 obtain ⟨u1, u2, u3, u4, r, q, s, rfl⟩ := hL
 obtain ⟨hx, hxd⟩ := zCw hd
 obtain ⟨x, hxe⟩ : ∃ x, x = dkOf R d := ⟨_, rfl⟩
 rw [← hxe] at hx hxd ⊢
 subst hxd
 have S := St.begin H
 refine zCh 14 Tryz.func45 rfl rfl dZ ?_; intro a E
 refine wp_seq_k ?_; intro K hK
 refine zAa ?_
 refine zd E ?_; clear E a; intro a E
 refine wpList_nil ?_
 refine zAb hK ?_; clear hK K
 refine wp_seq_k ?_; intro K hK
 refine zAa ?_
 iterate 2 (refine zd E ?_; clear E a; intro a E)
 refine zp E (by first | exact zAc (q := 0) E rfl rfl rfl | exact zAd (q := 0) E rfl rfl rfl) ?_; clear E a; intro a E
 refine zd E ?_; clear E a; intro a E
 refine zAg E rfl rfl dZ rfl Tryz.func48 rfl yZ rfl (rk_read P R C hC x hx 0 0 oZ _ (S.hp.sel sZ)) ?_
 rintro v10 w ⟨v, Cb, rfl, hCb, hT⟩; clear E a; intro a E
 have S := (S.call2 sZ hT).tail; rw [rdS_ask] at E
 iterate 5 (refine zd E ?_; clear E a; intro a E)
 refine wpList_nil ?_
 refine zAb hK ?_; clear hK K
 refine wp_seq_k ?_; intro K hK
 refine zAa ?_
 iterate 2 (refine zd E ?_; clear E a; intro a E)
 refine wpList_nil ?_
 refine zAb hK ?_; clear hK K
 refine wp_ret ?_
 refine ret1 E rfl rfl ?_
 exact ⟨_, rfl, rfl, S.tr⟩
theorem lread_ret (at_ many : Int) (ha : -9223372036854775808 ≤ at_ ∧ at_ ≤ 9223372036854775807) (w0 : World) (H : Hp w0 [C, L]) :
  Ret Tryz.prog 15 #[ptr p, .int .i64 at_, .int .i64 many] w0 fun u w' => ∃ v Cb L', u = .tuple #[v, .int .i64 (zFl R (dkOf R d) at_ many).1] ∧ Buf Cb 5 1 v (zFl R (dkOf R d) at_ many).2.length (byt (zFl R (dkOf R d) at_ many).2) ∧ LfC p d L' ∧ Trs w0 w' [C, L] [Cb, C, L'] := by
 have hL0 := hL
 obtain ⟨u1, u2, u3, u4, r, q, s, rfl⟩ := hL
 obtain ⟨hx, hxd⟩ := zCw hd
 obtain ⟨x, hxe⟩ : ∃ x, x = dkOf R d := ⟨_, rfl⟩
 rw [← hxe] at hx hxd ⊢
 subst hxd
 have hsz : zEa x ≤ 8192 := by have := (hC.ok.1.2 _ hx).2; unfold zEa; omega
 have S := St.begin H
 refine zDi 33 Tryz.func15 rfl rfl dZ ?_; intro a E
 refine wp_seq_k ?_; intro K hK
 refine zAa ?_
 iterate 2 (refine zd E ?_; clear E a; intro a E)
 refine wpList_nil ?_
 refine zAb hK ?_; clear hK K
 iterate 2 (refine wp_seq_k ?_; intro K hK)
 refine zAa ?_
 refine zd E ?_; clear E a; intro a E
 refine zAg E rfl rfl dZ rfl Tryz.func45 rfl yZ rfl (asked_ret p x.d P R C _ hC hd hL0 _ (S.hp.sel sZ)) ?_
 rintro v10 w ⟨rfl, hT⟩; clear E a; intro a E
 have S := S.call2 sZ hT; rw [← hxe] at E
 refine zd E ?_; clear E a; intro a E
 refine wpList_nil ?_
 refine zAb hK ?_; clear hK K
 refine wp_seq_k ?_; intro K hK
 refine zAa ?_
 iterate 2 (refine zd E ?_; clear E a; intro a E)
 refine wpList_nil ?_
 refine zAb hK ?_; clear hK K
 refine zAs E rfl (fun hb => ?_) (fun hb => ?_)
 ·replace hb := Nrm.nrm hb
  skip
  refine wp_seq_k ?_; intro K hK
  refine zAa ?_
  iterate 3 (refine zd E ?_; clear E a; intro a E)
  refine zp E (by first | exact zAc (q := 5) E rfl rfl rfl | exact zAd (q := 5) E rfl rfl rfl) ?_; clear E a; intro a E
  refine zAg E rfl rfl dZ rfl Tryz.func46 rfl yZ rfl (zHq p 5 _ _ r _ rfl _ (S.hp.sel sZ)) ?_
  rintro v17 w ⟨rfl, z', hT⟩; clear E a; intro a E
  have S := S.call1 sZ hT
  iterate 2 (refine zd E ?_; clear E a; intro a E)
  refine wpList_nil ?_
  refine zAb hK ?_; clear hK K
  refine wp_ret ?_
  refine zBc ?_; clear hK K
  refine ret2 E rfl rfl rfl ?_
  have hE : zFl R x at_ many = (zJi R x, []) := by unfold zFl; rw [if_pos hb]
  rw [hE]
  exact ⟨_, rfl, _, [], _, rfl, Buf.nil _ _, ⟨u1, u2, u3, u4, z', q, s, rfl⟩, (S.addNil.front3 (A := []) pZ (B := C) pZ (C := [(p, _)]) pZ).tr⟩
 ·replace hb := Nrm.nrm hb
  have hbn' := hb
  refine wp_skip ?_
  refine zAb hK ?_; clear hK K
  iterate 2 (refine wp_seq_k ?_; intro K hK)
  refine zAa ?_
  iterate 3 (refine zd E ?_; clear E a; intro a E)
  refine zAg E rfl rfl dZ rfl Tryz.func47 rfl yZ rfl (lhas_ret p x.d P R C _ hC hd hL0 at_ many ha _ (S.hp.sel sZ)) ?_
  rintro v21 w ⟨rfl, hT⟩; clear E a; intro a E
  have S := S.call2 sZ hT; rw [← hxe] at E
  refine zd E ?_; clear E a; intro a E
  refine wpList_nil ?_
  refine zAb hK ?_; clear hK K
  refine zAs E rfl (fun hb => ?_) (fun hb => ?_)
  ·replace hb := Nrm.nrm hb
   refine wp_seq_k ?_; intro K hK
   refine zAa ?_
   iterate 2 (refine zd E ?_; clear E a; intro a E)
   refine wpList_nil ?_
   refine zAb hK ?_; clear hK K
   refine wp_ret ?_
   refine zBc ?_; clear hK K
   refine ret2 E rfl rfl rfl ?_
   have hE : zFl R x at_ many = (1, []) := by unfold zFl; rw [if_neg (fun q => q hbn'), if_pos (by simpa using hb)]
   rw [hE]
   exact ⟨_, rfl, _, [], _, rfl, Buf.nil _ _, hL0, (S.addNil.front3 (A := []) pZ (B := C) pZ (C := [(p, _)]) pZ).tr⟩
  ·replace hb := Nrm.nrm hb
   refine wp_skip ?_
   refine zAb hK ?_; clear hK K
   refine wp_seq_k ?_; intro K hK
   have hyes : zIb x at_ many := by simpa using hb
   have hE : zFl R x at_ many = rdS R.pw x.failed x.now (274 + at_) many := by unfold zFl; rw [if_neg (fun q => q hbn'), if_neg (fun q => q hyes)]
   obtain ⟨y1, y2, y3, y4⟩ := hyes
   refine zAa ?_
   iterate 2 (refine zd E ?_; clear E a; intro a E)
   refine zp E (by first | exact zAc (q := 0) E rfl rfl rfl | exact zAd (q := 0) E rfl rfl rfl) ?_; clear E a; intro a E
   iterate 2 (refine zd E ?_; clear E a; intro a E)
   refine zp E (zAy E rfl rfl rfl (w_in oZ)) ?_; clear E a; intro a E
   refine zd E ?_; clear E a; intro a E
   refine zAg E rfl rfl dZ rfl Tryz.func48 rfl yZ rfl (rk_read P R C hC x hx (274 + at_) many oZ _ (S.hp.sel sZ)) ?_
   rintro v30 w ⟨v, Cb, rfl, hCb, hT⟩; clear E a; intro a E
   have S := S.call2 sZ hT
   iterate 4 (refine zd E ?_; clear E a; intro a E)
   refine wpList_nil ?_
   refine zAb hK ?_; clear hK K
   refine wp_ret ?_
   refine ret2 E rfl rfl rfl ?_
   rw [hE]; exact ⟨_, rfl, v, Cb, _, rfl, hCb, hL0, (S.front3 (A := Cb) pZ (B := C) pZ (C := [(p, _)]) pZ).tr⟩
theorem lwrite_ret (hws : R.ws.length + 8192 ≤ 244335861110) (hwr : R.pw.wr ≤ 1000000000000000000) (hlf : R.pw.left ≤ 9223372036854775807)
  (at_ : Int) (ha : -9223372036854775808 ≤ at_ ∧ at_ ≤ 9223372036854775807) (v : Value) (b : List UInt8) (D : zAj) (hD : Rd D 1 v b.length (byt b)) (hcap : ∃ ad c, v = .slice ad b.length c ∧ b.length ≤ c) (w0 : World) (H : Hp w0 [C, L, D]) :
  Ret Tryz.prog 77 #[ptr p, .int .i64 at_, v] w0 fun u w' => u = .int .i64 (zDg R (dkOf R d) at_ b).2 ∧ ∃ C' L', RkC P (zDg R (dkOf R d) at_ b).1 C' ∧ LfC p d L' ∧ Trs w0 w' [C, L, D] [C', L', D] := by
 have hL0 := hL
 obtain ⟨u1, u2, u3, u4, r, q, s, rfl⟩ := hL
 obtain ⟨hx, hxd⟩ := zCw hd
 obtain ⟨x, hxe⟩ : ∃ x, x = dkOf R d := ⟨_, rfl⟩
 rw [← hxe] at hx hxd ⊢
 subst hxd
 have hsz : zEa x ≤ 8192 := by have := (hC.ok.1.2 _ hx).2; unfold zEa; omega
 have hbm := hD.2.2.1
 simp only [maxLen] at hbm
 obtain ⟨ad, c, rfl, hcl⟩ := hcap
 have S := St.begin H
 refine zDi 38 Tryz.func77 rfl rfl dZ ?_; intro a E
 refine wp_seq_k ?_; intro K hK
 refine zAa ?_
 refine zd E ?_; clear E a; intro a E
 refine wpList_nil ?_
 refine zAb hK ?_; clear hK K
 iterate 2 (refine wp_seq_k ?_; intro K hK)
 refine zAa ?_
 refine zd E ?_; clear E a; intro a E
 refine zAg E rfl rfl dZ rfl Tryz.func45 rfl yZ rfl (asked_ret p x.d P R C _ hC hd hL0 _ (S.hp.sel sZ)) ?_
 rintro v9 w ⟨rfl, hT⟩; clear E a; intro a E
 have S := S.call2 sZ hT; rw [← hxe] at E
 refine zd E ?_; clear E a; intro a E
 refine wpList_nil ?_
 refine zAb hK ?_; clear hK K
 refine wp_seq_k ?_; intro K hK
 refine zAa ?_
 iterate 2 (refine zd E ?_; clear E a; intro a E)
 refine wpList_nil ?_
 refine zAb hK ?_; clear hK K
 refine zAs E rfl (fun hb => ?_) (fun hb => ?_)
 ·replace hb := Nrm.nrm hb
  skip
  refine wp_seq_k ?_; intro K hK
  refine zAa ?_
  iterate 3 (refine zd E ?_; clear E a; intro a E)
  refine zp E (by first | exact zAc (q := 6) E rfl rfl rfl | exact zAd (q := 6) E rfl rfl rfl) ?_; clear E a; intro a E
  refine zAg E rfl rfl dZ rfl Tryz.func46 rfl yZ rfl (zHq p 6 _ _ q _ rfl _ (S.hp.sel sZ)) ?_
  rintro v16 w ⟨rfl, z', hT⟩; clear E a; intro a E
  have S := S.call1 sZ hT
  refine zd E ?_; clear E a; intro a E
  refine wpList_nil ?_
  refine zAb hK ?_; clear hK K
  refine wp_ret ?_
  refine zBc ?_; clear hK K
  refine ret1 E rfl rfl ?_
  have hE : zDg R x at_ b = (R, zJi R x) := by unfold zDg; rw [if_pos hb]
  rw [hE]
  exact ⟨_, rfl, rfl, C, _, hC, ⟨u1, u2, u3, u4, r, z', s, rfl⟩, (S.front3 (A := C) pZ (B := [(p, _)]) pZ (C := D) pZ).tr⟩
 ·replace hb := Nrm.nrm hb
  have hbn' := hb
  refine wp_skip ?_
  refine zAb hK ?_; clear hK K
  iterate 2 (refine wp_seq_k ?_; intro K hK)
  refine zAa ?_
  iterate 2 (refine zd E ?_; clear E a; intro a E)
  refine zp E (zGh E rfl rfl rfl dZ (by first | exact zLn (y := 128) | exact rfl)) ?_; clear E a; intro a E
  iterate 2 (refine zd E ?_; clear E a; intro a E)
  refine zAr E (t := 21) rfl (fun hb21 => ?_) (fun hb21 => ?_)
  ·have hb21n := hb21; replace hb21n := Nrm.nrm hb21n
   iterate 7 (refine zn E hb21 ?_; clear E a; intro a E)
   refine zp E (zAi E rfl rfl hb21 rfl) ?_; clear E a; intro a E
   refine wpList_nil ?_
   refine zAb hK ?_; clear hK K
   refine zCk E rfl rfl ?_
   refine wp_seq_k ?_; intro K hK
   refine zAa ?_
   refine zd E ?_; clear E a; intro a E
   refine wpList_nil ?_
   refine zAb hK ?_; clear hK K
   refine wp_ret ?_
   refine zBc ?_; clear hK K
   refine ret1 E rfl rfl ?_
   have hE : zDg R x at_ b = (R, 1) := by
    unfold zDg; rw [if_neg (fun q => q hbn'), if_pos]
    first | (left; omega) | (right; simpa using hb)
   rw [hE]
   exact ⟨_, rfl, rfl, C, _, hC, hL0, (S.front3 (A := C) pZ (B := [(p, _)]) pZ (C := D) pZ).tr⟩
  ·have hb21n := hb21; replace hb21n := Nrm.nrm hb21n
   iterate 4 (refine zyd E hb21 ?_; clear E a; intro a E)
   refine zy E hb21 (zGg E rfl rfl rfl dZ (by first | exact zKb (y := 128) oZ | exact zHl (y := 128) oZ | exact rfl)) ?_; clear E a; intro a E
   refine zBy E rfl rfl rfl rfl hb21 ?_; refine zCe E rfl dZ rfl Tryz.func47 rfl yZ rfl (lhas_ret p x.d P R C _ hC hd hL0 at_ (b.length / 128 : Nat) ha _ (S.hp.sel sZ)) ?_
   rintro v27 w ⟨rfl, hT⟩; clear E a; intro a E
   have S := S.call2 sZ hT; rw [← hxe] at E
   refine zyd E hb21 ?_; clear E a; intro a E
   refine zp E (zAk E rfl rfl hb21 rfl) ?_; clear E a; intro a E
   refine wpList_nil ?_
   refine zAb hK ?_; clear hK K
   refine zAs E rfl (fun hb => ?_) (fun hb => ?_)
   ·replace hb := Nrm.nrm hb
    refine wp_seq_k ?_; intro K hK
    refine zAa ?_
    refine zd E ?_; clear E a; intro a E
    refine wpList_nil ?_
    refine zAb hK ?_; clear hK K
    refine wp_ret ?_
    refine zBc ?_; clear hK K
    refine ret1 E rfl rfl ?_
    have hE : zDg R x at_ b = (R, 1) := by
     unfold zDg; rw [if_neg (fun q => q hbn'), if_pos]
     first | (left; omega) | (right; simpa using hb)
    rw [hE]
    exact ⟨_, rfl, rfl, C, _, hC, hL0, (S.front3 (A := C) pZ (B := [(p, _)]) pZ (C := D) pZ).tr⟩
   ·replace hb := Nrm.nrm hb
    refine wp_skip ?_
    refine zAb hK ?_; clear hK K
    refine wp_seq_k ?_; intro K hK
    have hyes : zIb x at_ (b.length / 128 : Nat) := by simpa using hb
    have hE : zDg R x at_ b = (R.write x (274 + at_) b, R.writeE x (274 + at_) b) := by unfold zDg; rw [if_neg (fun q => q hbn'), if_neg (fun q => q.elim (fun q => q oZ) (fun q => q hyes))]
    obtain ⟨y1, y2, y3, y4⟩ := hyes
    refine zAa ?_
    iterate 2 (refine zd E ?_; clear E a; intro a E)
    refine zp E (by first | exact zAc (q := 0) E rfl rfl rfl | exact zAd (q := 0) E rfl rfl rfl) ?_; clear E a; intro a E
    iterate 2 (refine zd E ?_; clear E a; intro a E)
    refine zp E (zAy E rfl rfl rfl (w_in oZ)) ?_; clear E a; intro a E
    refine zd E ?_; clear E a; intro a E
    refine zAg E rfl rfl dZ rfl Tryz.func61 rfl yZ rfl (rk_write P R C hC x hx hws hwr hlf (274 + at_) oZ _ b D hD ⟨_, _, rfl, hcl⟩ _ (S.hp.sel sZ)) ?_
    rintro v37 w ⟨C', rfl, hC', hT⟩; clear E a; intro a E
    have S := S.call2 sZ hT
    refine zd E ?_; clear E a; intro a E
    refine wpList_nil ?_
    refine zAb hK ?_; clear hK K
    refine wp_ret ?_
    refine ret1 E rfl rfl ?_
    rw [hE]; exact ⟨_, rfl, rfl, C', _, hC', hL0, (S.front3 (A := C') pZ (B := [(p, _)]) pZ (C := D) pZ).tr⟩
theorem lflush_ret (w0 : World) (H : Hp w0 [C, L]) :
  Ret Tryz.prog 56 #[ptr p] w0 fun u w' => u = .int .i64 (flE R.pw (dkOf R d).failed) ∧ ∃ C' L', RkC P (R.flush (dkOf R d)) C' ∧ LfC p d L' ∧ Trs w0 w' [C, L] [C', L'] := by
 have hL0 := hL
 obtain ⟨u1, u2, u3, u4, r, q, s, rfl⟩ := hL
 obtain ⟨hx, hxd⟩ := zCw hd
 obtain ⟨x, hxe⟩ : ∃ x, x = dkOf R d := ⟨_, rfl⟩
 rw [← hxe] at hx hxd ⊢
 subst hxd
 have S := St.begin H
 refine zCh 12 Tryz.func56 rfl rfl dZ ?_; intro a E
 refine wp_seq_k ?_; intro K hK
 refine zAa ?_
 refine zd E ?_; clear E a; intro a E
 refine wpList_nil ?_
 refine zAb hK ?_; clear hK K
 refine wp_seq_k ?_; intro K hK
 refine zDe S (.ofL [(0, 0), (1, 0), (2, 0), (3, 0), (5, 0), (6, 0), (7, 0), (4, 1), (8, 3), (9, 2)]) [[(p, lfcl x.d u1 u2 u3 u4 r q s)]] (fun h => h.sub (by first | (simp; done) | (simp +contextual; done) | (simp [*]; done))) yZ yZ ?_
 clear S; intro w S
 iterate 2 (refine zmd E ?_; clear E a; intro a E)
 refine zm E rfl (fun w h => by first | exact zAc (q := 0) E rfl rfl rfl | exact zAd (q := 0) E rfl rfl rfl) ?_; clear E a; intro a E
 iterate 3 (refine zmd E ?_; clear E a; intro a E)
 refine zm E rfl (fun w h => by first | exact zAc (q := 6) E rfl rfl rfl | exact zAd (q := 6) E rfl rfl rfl) ?_; clear E a; intro a E
 refine zBo E rfl rfl rfl dZ rfl Tryz.func65 rfl yZ rfl (rk_flush P R C hC x hx _ (S.hp.sel sZ)) ?_
 rintro v7 w ⟨rfl, C', hC', hT⟩; clear E a; intro a E
 have S := S.call1 sZ hT
 refine ⟨S.stab.sub (by first | (simp; done) | (simp +contextual; done) | (simp [*]; done)), ?_⟩
 refine zDd E rfl rfl rfl dZ rfl Tryz.func46 rfl yZ rfl (zHq p 6 _ _ q _ rfl _ (S.hp.sel sZ)) ?_
 rintro v11 w ⟨rfl, z', hT⟩; clear E a; intro a E
 have S := S.call1 sZ hT
 refine zBp E rfl rfl rfl dZ (fun w => zCi E rfl rfl) ?_; clear E a; intro a E
 refine zBd ?_
 refine zAb hK ?_; clear hK K
 refine wp_ret ?_
 refine ret1 E rfl rfl ?_
 exact ⟨_, rfl, rfl, C', _, hC', ⟨u1, u2, u3, u4, r, z', s, rfl⟩, S.perm2.tr⟩
end
end Go.Proofs.YtpjidiaekifmbaaGreatDoor
namespace Go.Sl
theorem wrN_app {d a : Nat} {b : List UInt8} : ∀ (k i : Nat) (s : Pw) (nw : List UInt8) (ws : List Wt), ∃ t, (wrN d a b k i s nw ws).2.2.1 = ws ++ t ∧ ∀ w ∈ t, w.d = d
 | 0, i, s, nw, ws => ⟨[], by simp [wrN], by simp⟩
 | k + 1, i, s, nw, ws => by
  rw [wrN]
  split
  ·exact ⟨[], by simp, by simp⟩
  ·obtain ⟨t, h1, h2⟩ := wrN_app (d := d) (a := a) (b := b) k (i + 1) { s with left := if 0 < s.left then s.left - 1 else s.left, wr := s.wr + 1 } (setS nw (a + i) (secB b i)) (ws ++ [mkW d (a + i) (secB b i)])
   refine ⟨mkW d (a + i) (secB b i) :: t, by rw [h1]; simp, fun w hw => ?_⟩
   rcases List.mem_cons.1 hw with rfl | hw
   ·rfl
   ·exact h2 w hw
theorem outW_app (d : Nat) (a b : List Wt) : outW d (a ++ b) = outW d a ++ outW d b := by simp [outW]
end Go.Sl
namespace Go.Proofs.YtpjidiaekifmbaaGreatDoor
open Go.Sl
set_option maxRecDepth 10000
end Go.Proofs.YtpjidiaekifmbaaGreatDoor
namespace Go.Sl
def zHd (nw : List UInt8) (at_ : Nat) (b : List UInt8) : List UInt8 := nw.take (128 * at_) ++ b ++ nw.drop (128 * at_ + b.length)
theorem zJa {nw b : List UInt8} {at_ : Nat} (h : 128 * at_ + b.length ≤ nw.length) : (zHd nw at_ b).length = nw.length := by
 simp only [zHd, List.length_append, List.length_take, List.length_drop]; omega
theorem wrN_patch {d a : Nat} {b : List UInt8} : ∀ (k i : Nat) (s : Pw) (nw : List UInt8) (ws : List Wt), s.left < 0 → 128 * (a + i + k) ≤ nw.length → 128 * (i + k) ≤ b.length →
  (wrN d a b k i s nw ws).2.1 = nw.take (128 * (a + i)) ++ (b.drop (128 * i)).take (128 * k) ++ nw.drop (128 * (a + i + k))
 | 0, i, s, nw, ws, _, h1, h2 => by
  rw [wrN, Nat.add_zero, Nat.mul_zero, List.take_zero, List.append_nil, List.take_append_drop]
 | k + 1, i, s, nw, ws, hs, h1, h2 => by
  have hl : (setS nw (a + i) (secB b i)).length = nw.length := zEf oZ (zCf oZ)
  rw [wrN, if_neg oZ, wrN_patch k (i + 1) _ _ _ (by simp only; rw [if_neg oZ]; exact hs) (by rw [hl]; omega) oZ]
  have e1 : (setS nw (a + i) (secB b i)).take (128 * (a + (i + 1))) = nw.take (128 * (a + i)) ++ secB b i := by
   have hl1 : (nw.take (128 * (a + i)) ++ secB b i).length = 128 * (a + (i + 1)) := by
    rw [List.length_append, List.length_take, zCf oZ]; omega
   rw [setS, List.take_left' hl1]
  have e2 : (setS nw (a + i) (secB b i)).drop (128 * (a + (i + 1) + k)) = nw.drop (128 * (a + i + (k + 1))) := by
   have hl1 : (nw.take (128 * (a + i)) ++ secB b i).length = 128 * (a + i) + 128 := by
    rw [List.length_append, List.length_take, zCf oZ]; omega
   rw [setS, List.drop_append, List.drop_of_length_le oZ, List.nil_append, hl1, List.drop_drop]
   rw [show 128 * (a + i) + 128 + (128 * (a + (i + 1) + k) - (128 * (a + i) + 128)) = 128 * (a + i + (k + 1)) by omega]
  have e3 : secB b i ++ (b.drop (128 * (i + 1))).take (128 * k) = (b.drop (128 * i)).take (128 * (k + 1)) := by
   rw [secB, show 128 * (k + 1) = 128 + 128 * k by omega, List.take_add, List.drop_drop, show 128 * (i + 1) = 128 * i + 128 by omega]
  rw [e1, e2, List.append_assoc (nw.take _), e3]
structure On (R : Rk) : Prop where
 off : R.pw.off = false
 left : R.pw.left = -1
theorem setD_comp {ds : List Dk} {d : Nat} {g h : Dk → Dk} (hg : ∀ y ∈ ds, y.d = d → (g y).d = d) : setD (setD ds d g) d h = setD ds d fun y => h (g y) := by
 rw [setD, setD, setD, List.map_map]
 refine List.map_congr_left fun y hy => ?_
 simp only [Function.comp]
 by_cases hd : y.d = d
 ·rw [if_pos hd, if_pos (hg y hy hd), if_pos hd]
 ·rw [if_neg hd, if_neg hd, if_neg hd]
theorem setD_has {ds : List Dk} {x : Dk} {g : Dk → Dk} (hx : x ∈ ds) : g x ∈ setD ds x.d g := List.mem_map.2 ⟨x, hx, if_pos rfl⟩
theorem setD_ds {ds : List Dk} {d : Nat} {g : Dk → Dk} (hg : ∀ y, (g y).d = y.d) : (setD ds d g).map Dk.d = ds.map Dk.d := by
 rw [setD, List.map_map]
 refine List.map_congr_left fun y _ => ?_
 simp only [Function.comp]
 split
 ·exact hg y
 ·rfl
theorem write_on {R : Rk} (hO : On R) {x : Dk} (hf : x.failed = false) (hnw : x.now.length = x.pl.length) {at_ : Int} {b : List UInt8} (hm : zDy x.pl.length at_ b) :
  R.writeE x at_ b = 0 ∧ ∃ t, R.write x at_ b = ⟨⟨-1, false, R.pw.wr + b.length / 128⟩, R.ws ++ t, setD R.ds x.d fun y => { y with now := zHd x.now at_.toNat b }⟩ ∧ (∀ w ∈ t, w.d = x.d) ∧ t.length = b.length / 128 := by
 have hm0 := hm
 obtain ⟨m1, m2, m3, m4⟩ := hm0
 have he : wrS x.d x.pl.length at_ b R.pw x.failed x.now R.ws = wrN x.d at_.toNat b (b.length / 128) 0 R.pw x.now R.ws := by
  unfold wrS; rw [if_neg (by simp [hO.off]), if_neg (by simp [hf]), if_neg (fun q => q hm)]
 have hl := hO.left
 obtain ⟨h1, h2, h3, h4, h5⟩ := wrN_big (d := x.d) (a := at_.toNat) (b := b) (b.length / 128) 0 R.pw x.now R.ws (.inl oZ)
 obtain ⟨t, h6, h7⟩ := wrN_app (d := x.d) (a := at_.toNat) (b := b) (b.length / 128) 0 R.pw x.now R.ws
 have h8 := wrN_patch (d := x.d) (a := at_.toNat) (b := b) (b.length / 128) 0 R.pw x.now R.ws oZ oZ oZ
 have h5 := h5 oZ
 have hp : x.now.take (128 * (at_.toNat + 0)) ++ (b.drop (128 * 0)).take (128 * (b.length / 128)) ++ x.now.drop (128 * (at_.toNat + 0 + b.length / 128)) = zHd x.now at_.toNat b := by
  have hb : 128 * (b.length / 128) = b.length := by omega
  rw [zHd, Nat.add_zero, Nat.mul_zero, List.drop_zero, hb, List.take_length, Nat.mul_add, hb]
 rw [hp] at h8
 rw [h6, List.length_append] at h4
 refine ⟨by unfold Rk.writeE; rw [he]; exact h1, t, ?_, h7, by omega⟩
 unfold Rk.write
 rw [he, h6, h8]
 obtain ⟨z, hz⟩ : ∃ z, z = (wrN x.d at_.toNat b (b.length / 128) 0 R.pw x.now R.ws).1 := ⟨_, rfl⟩
 rw [← hz] at h2 h3 h5 ⊢
 obtain ⟨l, o, r⟩ := z
 simp only at h2 h3 h5
 rw [h2, h3, h5, hO.off, hO.left]
end Go.Sl
namespace Go.Sl
def zDj : List UInt8 → Nat
 | [] => 0
 | b :: r => b.toNat + 256 * zDj r
theorem zJb (xs ys : List UInt8) : zDj (xs ++ ys) = zDj xs + 256 ^ xs.length * zDj ys := by
 induction xs with
 | nil => simp [zDj]
 | cons b r ih => simp only [List.cons_append, zDj, ih, List.length_cons, Nat.pow_succ]; rw [Nat.mul_add, Nat.add_assoc]; congr 2; rw [← Nat.mul_assoc, Nat.mul_comm 256]
theorem numOf_lt (xs : List UInt8) : zDj xs < 256 ^ xs.length := by
 induction xs with
 | nil => simp [zDj]
 | cons b r ih =>
  have := b.toNat_lt
  simp only [zDj, List.length_cons, Nat.pow_succ]
  omega
theorem zKm (bs : List UInt8) (k : Nat) (h : k < bs.length) : zDj (bs.take (k + 1)) = zDj (bs.take k) + bs[k].toNat * 2 ^ (8 * k) := by
 rw [List.take_succ_eq_append_getElem h, zJb, List.length_take, Nat.min_eq_left oZ, Nat.pow_mul]
 simp [zDj, Nat.mul_comm]
def zBu (n : Nat) : Nat → List UInt8
 | 0 => []
 | k + 1 => zBu n k ++ [UInt8.ofNat (n / 2 ^ (8 * k))]
theorem zBh (n k : Nat) : (zBu n k).length = k := by induction k <;> simp [zBu, *]
theorem numOf_form (n k : Nat) : zDj (zBu n k) = n % 256 ^ k := by
 induction k with
 | zero => simp [zBu, zDj, Nat.mod_one]
 | succ k ih =>
  rw [zBu, zJb, ih, zBh, Nat.pow_succ, Nat.mod_mul]
  simp [zDj, Nat.pow_mul]
theorem zGp (xs : List Value) (k : Nat) (z v : Value) (j : Nat) (hj : xs.length = j) (hk : j < k) :
  (xs ++ List.replicate (k - j) z).set j v = (xs ++ [v]) ++ List.replicate (k - (j + 1)) z := by
 subst hj
 rw [List.set_append_right _ _ (Nat.le_refl _), Nat.sub_self, show k - xs.length = (k - (xs.length + 1)) + 1 by omega, List.replicate_succ, List.set_cons_zero, List.append_assoc]
 rfl
structure Wr where
 room : Nat
 bs : List UInt8
 e : Nat
abbrev Laid := Nat ⊕ List UInt8
def Wr.fits (s : Wr) (b : List UInt8) : Bool := s.bs.length + b.length ≤ s.room
def Wr.putE (s : Wr) (b : List UInt8) : Nat := if s.fits b then 0 else 12
def Wr.putS (s : Wr) (b : List UInt8) : Wr := if s.fits b then { s with bs := s.bs ++ b } else s
def Wr.lay (s : Wr) (x : Laid) : Wr :=
 if s.e ≠ 0 then s else match x with
  | .inl e => { s with e := e }
  | .inr b => { s.putS b with e := s.putE b }
def numE (n : Nat) (k : Int) : Laid := if k < 1 ∨ 8 < k then .inl 1 else if n ≥ 256 ^ k.toNat then .inl 11 else .inr (zBu n k.toNat)
def padE (s : Wr) (to : Int) : Laid := if to < s.bs.length then .inl 11 else if to > s.room then .inl 12 else .inr (List.replicate (to.toNat - s.bs.length) 0)
def Wr.num (s : Wr) (n : Nat) (k : Int) : Wr := s.lay (numE n k)
def Wr.bytes (s : Wr) (b : List UInt8) : Wr := s.lay (.inr b)
def Wr.pad (s : Wr) (to : Int) : Wr := s.lay (padE s to)
theorem Wr.putS_eq (s : Wr) (b : List UInt8) : s.putS b = { s with bs := (s.putS b).bs } := by unfold Wr.putS; split <;> rfl
structure Rdr where
 bs : List UInt8
 at_ : Nat
 e : Nat
def Rdr.cut (s : Rdr) (k behind : Nat) : List UInt8 := (s.bs.drop (s.at_ + behind)).take k
def Rdr.num (s : Rdr) (k : Int) : Nat × Rdr :=
 if s.e ≠ 0 then (0, s) else if k < 1 ∨ 8 < k then (0, { s with e := 1 }) else if s.bs.length < s.at_ + k.toNat then (0, { s with e := 10 })
 else (zDj (s.cut k.toNat 0), { s with at_ := s.at_ + k.toNat })
def Rdr.bytes (s : Rdr) (k : Int) : List UInt8 × Rdr :=
 if s.e ≠ 0 then ([], s) else if k < 0 then ([], { s with e := 1 }) else if s.bs.length < s.at_ + k.toNat then ([], { s with e := 10 })
 else (s.cut k.toNat 0, { s with at_ := s.at_ + k.toNat })
def Rdr.pad (s : Rdr) (to : Int) : Rdr :=
 if s.e ≠ 0 then s else if to < s.at_ then { s with e := 11 } else if to > s.bs.length then { s with e := 10 }
 else if s.cut (to.toNat - s.at_) 0 = List.replicate (to.toNat - s.at_) 0 then { s with at_ := to.toNat } else { s with e := 14 }
def Rdr.left (s : Rdr) : Int := s.bs.length - s.at_
def Rdr.done (s : Rdr) : Nat := if s.e = 0 ∧ s.at_ < s.bs.length then 13 else s.e
end Go.Sl
