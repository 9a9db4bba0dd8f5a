/-
  Texts put together (17).
-/
import Derived.Test.YtbogecljkaimdaaGreatDoorZRecordStreams16
namespace Go.Proofs.YtbogecljkaimdaaGreatDoor
open Go.Sl
set_option maxRecDepth 10000
theorem decR_ok (b : List UInt8) (s : Fs) : (decR b s).2.2.2.Ok := by
  rcases dec_inv b s with ⟨_, h1⟩ | ⟨r, n, o, h1, h2⟩
  · rw [h1]; exact zero_ok
  · rw [h1]; simp only; rw [h2.o_]; exact shaF_ok _
set_option maxHeartbeats 1000000 in
theorem zJm (D : zAy) (ad : Option Addr) (c : Nat) (b : List UInt8) (hD : Rd D 1 (.slice ad b.length c) b.length (byt b)) (hcap : b.length ≤ c) {As : List zAy} (mD : D ∈ As) (hG0 : Tab As 0 sha0.l) (hG1 : Tab As 1 shaK) (w0 : World) (H : Hp w0 As) :
    Ret Tryz.prog 21 #[.slice ad b.length c] w0 fun u w' => ∃ v' C X l, u = .tuple #[v', .int .i64 (zGj b).1] ∧ Buf C 26 13 v' l.length (l.flatMap RV.lay) ∧ RVs X l ∧ l.map RV.r = (zGj b).2 ∧ Trs w0 w' As (C :: X :: As) := by
  have S := St.begin H
  refine zCx 41 Tryz.func21 rfl rfl (by decide) ?_; intro a E
  refine wp_seq_k ?_; intro K hK
  refine zAb ?_
  iterate 2 (refine zp E (zAd E rfl rfl) ?_; clear E a; intro a E)
  refine wpList_nil ?_
  refine zAf hK ?_; clear hK; clear K
  iterate 2 (refine wp_seq_k ?_; intro K hK)
  refine zAb ?_
  refine zp E (zAe E rfl rfl) ?_; clear E a; intro a E
  refine zp E (by first | exact zBx E rfl rfl rfl | exact zAx E rfl rfl rfl | exact zAq E rfl rfl rfl) ?_; clear E a; intro a E
  refine zp E (zDm E rfl rfl rfl) ?_; clear E a; intro a E
  refine wpList_nil ?_
  refine zAf hK ?_; clear hK; clear K
  refine zBf E rfl (fun hb => ?_) (fun hb => ?_)
  · replace hb := Nrm.nrm hb
    refine wp_seq_k ?_; intro K hK
    refine zAb ?_
    iterate 2 (refine zp E (zAd E rfl rfl) ?_; clear E a; intro a E)
    refine wpList_nil ?_
    refine zAf hK ?_; clear hK; clear K
    refine wp_ret ?_
    refine zAv ?_; clear hK; clear K
    refine ret2 E rfl rfl rfl ?_
    refine ⟨_, rfl, nilv, [], [], [], ?_, Buf.nil _ _, (fun x hx => by cases hx), ?_, S.addNil.addNil.tr⟩
    · rw [zGj, if_pos (by omega)]
    · rw [zGj, if_pos (by omega)]; rfl
  · replace hb := Nrm.nrm hb
    refine wp_skip ?_
    refine zAf hK ?_; clear hK; clear K
    refine wp_seq_k ?_; intro K hK
    have hbl : b.length ≤ 1048576 := by omega
    have hr0 : zGj b = recG b zEj [] := by rw [zGj, if_neg (by omega)]
    refine zAb ?_
    refine zp E (zAd E rfl rfl) ?_; clear E a; intro a E
    refine wpList_nil ?_
    refine zAf hK ?_; clear hK; clear K
    refine wp_seq_k ?_; intro K hK
    refine zAb ?_
    refine zp E (zCh (cells := [_, _, _, _]) E rfl rfl rfl) ?_; clear E a; intro a E
    refine zAn rfl (zBs E S rfl rfl (by decide) rfl rfl rfl ?_); clear E S a; intro a w b5 E S
    refine zAn rfl (zAz E S rfl rfl rfl rfl (by simp [Value.oneCell']) rfl (by repeat (first | exact pk1 | apply zAc)) (by simp) ?_); clear E S a; intro a w E S; simp only [List.take_succ_cons, List.take_zero, List.drop_succ_cons, List.drop_zero, List.cons_append, List.nil_append, List.append_nil, List.length_cons, List.length_nil, Nat.zero_add, Nat.add_zero] at S
    refine wpList_nil ?_
    refine zAf hK ?_; clear hK; clear K
    refine wp_seq_k ?_; intro K hK
    refine zAb ?_
    refine zp E (zAd E rfl rfl) ?_; clear E a; intro a E
    refine wpList_nil ?_
    refine zAf hK ?_; clear hK; clear K
    refine wp_seq_k ?_; intro K hK
    refine wp_block ?_
    refine wp_loop_ghost (fun (m : Nat) (a : Act) (w' : World) => ∃ (q : Nat) (s : Fs) (l : List RV) (C X : zAy) (v' : Value), m = b.length - q ∧ q ≤ b.length ∧ s.Ok ∧ l.length ≤ q ∧ zGj b = recG (b.drop q) s (l.map RV.r) ∧ Buf C 26 13 v' l.length (l.flatMap RV.lay) ∧ RVs X l ∧ St w0 As w' (C :: X :: [(b5, cel (fsC s) 29)] :: As) ∧ Fr a 41 [(0, .slice ad b.length c), (2, nilv), (3, .int .i64 0), (4, v'), (5, ptr b5), (6, .int .i64 q)]) (b.length) ?_ ?_
    · exact ⟨0, zEj, [], [], [], _, rfl, by omega, zero_ok, by simp, by rw [List.drop_zero]; exact hr0, Buf.nil _ _, (fun x hx => by cases hx), S.addNil.addNil, E.keep (zAa rfl (zAa rfl (zAa rfl (zAa rfl (zAa rfl (zAa rfl zAm))))))⟩
    clear E; clear a; (try clear S); rintro m a w ⟨q, s, l, C, X, v', rfl, hq, hso, hll, hrec, hB, hX, S, E⟩
    iterate 2 (refine wp_seq_k ?_; intro K hK)
    refine zAb ?_
    iterate 2 (refine zp E (zAe E rfl rfl) ?_; clear E a; intro a E)
    refine zp E (by first | exact zBx E rfl rfl rfl | exact zAx E rfl rfl rfl | exact zAq E rfl rfl rfl) ?_; clear E a; intro a E
    refine zp E (zCn E rfl rfl rfl) ?_; clear E a; intro a E
    refine wpList_nil ?_
    refine zAf hK ?_; clear hK; clear K
    refine zBf E rfl (fun hb => ?_) (fun hb => ?_)
    · replace hb := Nrm.nrm hb
      refine wp_skip ?_
      refine zAf hK ?_; clear hK; clear K
      refine wp_block ?_
      refine wp_seq_k ?_; intro K hK
      obtain ⟨b', hb'⟩ : ∃ b', b' = b.drop q := ⟨_, rfl⟩
      have hbl' : b'.length = b.length - q := by rw [hb', List.length_drop]
      have hne : b' ≠ [] := by rintro rfl; simp at hbl'; omega
      obtain ⟨ad', hs2, hD', hc'⟩ := sl_cut (n := q) hD hcap hq
      rw [← hb'] at hs2 hD' hc' hrec
      have hsm := dec_sml b' s
      have hok' := decR_ok b' s
      obtain ⟨x, hx⟩ : ∃ x, x = decR b' s := ⟨_, rfl⟩
      have hok : x.1 = 0 → DecOk b' s x.2.1 x.2.2.1 x.2.2.2 := fun h => by rw [hx] at h ⊢; exact dec_ok h
      have herr := zJx (s := s) (l.map RV.r) hne
      have hgo := zLf (s := s) (l.map RV.r) hne
      rw [← hx] at hsm herr hgo hok'
      obtain ⟨e, r, n, o⟩ := x
      simp only at hsm hok herr hgo hok'
      refine zDw (fun (a : Act) (w' : World) => ∃ b7 b9 Y a1 c1 a2 c2 a3 c3, RecR Y r (.slice a1 r.props.length c1) (.slice a2 r.keep.length c2) (.slice a3 r.data.length c3) ∧ St w0 As w' (Y :: [(b7, cel (r.cells (.slice a1 r.props.length c1) (.slice a2 r.keep.length c2) (.slice a3 r.data.length c3)) 26)] :: [(b9, cel (fsC o) 29)] :: C :: X :: [(b5, cel (fsC s) 29)] :: As) ∧ Fr a 41 [(0, .slice ad b.length c), (2, nilv), (3, .int .i64 0), (4, v'), (5, ptr b5), (6, .int .i64 q), (7, ptr b7), (8, .int .i64 n), (9, ptr b9), (10, .int .i64 e)]) ?_ ?_
      · skip
        refine zCz S (.cons (0, 0) (.cons (1, 0) (.cons (2, 0) (.cons (3, 0) (.fork3 4 (.cons (5, 0) (.cons (6, 0) (.cons (7, 0) (.cons (8, 0) (.cons (9, 2) (.fork 10 (.ofL [(11, 1), (12, 1), (13, 0), (14, 3), (15, 2)]) 11 (.ofL [(10, 1), (12, 1), (13, 0), (14, 3), (15, 2)]))))))) 10 (.fork 4 (.ofL [(5, 0), (6, 0), (7, 0), (8, 0), (9, 2), (11, 1), (12, 1), (13, 0), (14, 3), (15, 2)]) 11 (.ofL [(4, 1), (5, 0), (6, 0), (7, 0), (8, 0), (9, 2), (12, 1), (13, 0), (14, 3), (15, 2)])) 11 (.fork 4 (.ofL [(5, 0), (6, 0), (7, 0), (8, 0), (9, 2), (10, 1), (12, 1), (13, 0), (14, 3), (15, 2)]) 10 (.ofL [(4, 1), (5, 0), (6, 0), (7, 0), (8, 0), (9, 2), (12, 1), (13, 0), (14, 3), (15, 2)]))))))) [[(b5, cel (fsC s) 29)]] (fun h => h.sub (by first | (simp; done) | (simp +contextual; done) | (simp [*]; done))) (by kernel_rfl) (by kernel_rfl) ?_
        clear S; intro w S
        iterate 2 (refine zm E rfl (fun w h => zAe E rfl rfl) ?_; clear E a; intro a E)
        refine zm E rfl (fun w h => zIx (s := 1) E rfl rfl rfl rfl rfl rfl (by omega)) ?_; clear E a; intro a E
        rw [hs2] at E
        refine zm E rfl (fun w h => zBp (vs := [_, _, _, _]) E rfl rfl rfl (h.one (by repeat (first | exact mm1 | assumption | apply List.Mem.tail))) rfl rfl) ?_; clear E a; intro a E
        refine ⟨?_, ?_, ?_⟩
        · skip
          refine zCc E rfl rfl rfl (by decide) rfl Tryz.func38 rfl (by kernel_rfl) rfl (zGh D ad' (c - q) b' hD' hc' (by omega) s hso (by repeat (first | exact mD | apply List.Mem.tail)) (by repeat (first | exact hG0 | apply Tab.tail)) (by repeat (first | exact hG1 | apply Tab.tail)) _ S.hp) ?_
          rintro v24 w ⟨Y, pv, kv, dv, he, hY, hT⟩; clear E a; intro a E
          rw [← hx] at he hY; simp only [Rec.cells] at he hY; subst he; have S := S.all hT
          obtain ⟨a1, c1, rfl⟩ := hY.rd.pr.slice
          obtain ⟨a2, c2, rfl⟩ := hY.rd.kr.slice
          obtain ⟨a3, c3, rfl⟩ := hY.rd.dr.slice
          have hYR := hY.rd
          clear hY
          refine ⟨S.stab.sub (by first | (simp; done) | (simp +contextual; done) | (simp [*]; done)), ?_⟩
          refine zm E rfl (fun w h => zAe E rfl rfl) ?_; clear E a; intro a E
          iterate 3 (refine zm E rfl (fun w h => zBm E rfl rfl rfl) ?_; clear E a; intro a E)
          refine zCg E rfl rfl rfl (by decide) (fun w => zBm E rfl rfl rfl) ?_; clear E a; intro a E
          refine ⟨?_, ?_⟩
          · skip
            refine zCp rfl rfl (zBs E S rfl rfl (by decide) rfl rfl rfl ?_); clear E S a; intro a w b7 E S; refine ⟨S.stab.sub (by first | (simp; done) | (simp +contextual; done) | (simp [*]; done)), ?_⟩
            refine zCp rfl rfl (zBs E S rfl rfl (by decide) rfl rfl rfl ?_); clear E S a; intro a w b9 E S; refine ⟨S.stab.sub (by first | (simp; done) | (simp +contextual; done) | (simp [*]; done)), ?_⟩
            refine zCp rfl rfl (zAz E S rfl rfl rfl rfl (by simp [Value.oneCell']) rfl (by repeat (first | exact pk1 | apply zAc)) (by simp) ?_); clear E S a; intro a w E S; simp only [List.take_succ_cons, List.take_zero, List.drop_succ_cons, List.drop_zero, List.cons_append, List.nil_append, List.append_nil, List.length_cons, List.length_nil, Nat.zero_add, Nat.add_zero] at S; refine ⟨S.stab.sub (by first | (simp; done) | (simp +contextual; done) | (simp [*]; done)), ?_⟩
            refine zm E rfl (fun w h => zAd E rfl rfl) ?_; clear E a; intro a E
            refine zCk rfl rfl (zAz E S rfl rfl rfl rfl (by simp [Value.oneCell']) rfl (by repeat (first | exact pk1 | apply zAc)) (by simp) ?_); clear E S a; intro a w E S; simp only [List.take_succ_cons, List.take_zero, List.drop_succ_cons, List.drop_zero, List.cons_append, List.nil_append, List.append_nil, List.length_cons, List.length_nil, Nat.zero_add, Nat.add_zero] at S
            refine zCg E rfl rfl rfl (by decide) (fun w => zAd E rfl rfl) ?_; clear E a; intro a E
            refine zBw ?_
            refine zAu ?_
            exact ⟨b7, b9, Y, a1, c1, a2, c2, a3, c3, hYR, S.front6 (A := Y) (B := [(b7, _)]) (C := [(b9, _)]) (D := C) (F := X) (G := [(b5, _)]) (by repeat (first | exact pk1 | apply zAc)) (by repeat (first | exact pk1 | apply zAc)) (by repeat (first | exact pk1 | apply zAc)) (by repeat (first | exact pk1 | apply zAc)) (by repeat (first | exact pk1 | apply zAc)) (by repeat (first | exact pk1 | apply zAc)), E.keep (zAa rfl (zAa rfl (zAa rfl (zAa rfl (zAa rfl (zAa rfl (zAa rfl (zAa rfl (zAa rfl (zAa rfl zAm))))))))))⟩
          · skip
            refine zCp rfl rfl (zBs E S rfl rfl (by decide) rfl rfl rfl ?_); clear E S a; intro a w b9 E S; refine ⟨S.stab.sub (by first | (simp; done) | (simp +contextual; done) | (simp [*]; done)), ?_⟩
            refine zCp rfl rfl (zBs E S rfl rfl (by decide) rfl rfl rfl ?_); clear E S a; intro a w b7 E S; refine ⟨S.stab.sub (by first | (simp; done) | (simp +contextual; done) | (simp [*]; done)), ?_⟩
            refine zCp rfl rfl (zAz E S rfl rfl rfl rfl (by simp [Value.oneCell']) rfl (by repeat (first | exact pk1 | apply zAc)) (by simp) ?_); clear E S a; intro a w E S; simp only [List.take_succ_cons, List.take_zero, List.drop_succ_cons, List.drop_zero, List.cons_append, List.nil_append, List.append_nil, List.length_cons, List.length_nil, Nat.zero_add, Nat.add_zero] at S; refine ⟨S.stab.sub (by first | (simp; done) | (simp +contextual; done) | (simp [*]; done)), ?_⟩
            refine zm E rfl (fun w h => zAd E rfl rfl) ?_; clear E a; intro a E
            refine zCk rfl rfl (zAz E S rfl rfl rfl rfl (by simp [Value.oneCell']) rfl (by repeat (first | exact pk1 | apply zAc)) (by simp) ?_); clear E S a; intro a w E S; simp only [List.take_succ_cons, List.take_zero, List.drop_succ_cons, List.drop_zero, List.cons_append, List.nil_append, List.append_nil, List.length_cons, List.length_nil, Nat.zero_add, Nat.add_zero] at S
            refine zCg E rfl rfl rfl (by decide) (fun w => zAd E rfl rfl) ?_; clear E a; intro a E
            refine zBw ?_
            refine zAu ?_
            exact ⟨b7, b9, Y, a1, c1, a2, c2, a3, c3, hYR, S.front6 (A := Y) (B := [(b7, _)]) (C := [(b9, _)]) (D := C) (F := X) (G := [(b5, _)]) (by repeat (first | exact pk1 | apply zAc)) (by repeat (first | exact pk1 | apply zAc)) (by repeat (first | exact pk1 | apply zAc)) (by repeat (first | exact pk1 | apply zAc)) (by repeat (first | exact pk1 | apply zAc)) (by repeat (first | exact pk1 | apply zAc)), E.keep (zAa rfl (zAa rfl (zAa rfl (zAa rfl (zAa rfl (zAa rfl (zAa rfl (zAa rfl (zAa rfl (zAa rfl zAm))))))))))⟩
        · skip
          refine zCp rfl rfl (zBs E S rfl rfl (by decide) rfl rfl rfl ?_); clear E S a; intro a w b7 E S; refine ⟨S.stab.sub (by first | (simp; done) | (simp +contextual; done) | (simp [*]; done)), ?_⟩
          refine ⟨?_, ?_⟩
          · skip
            refine zCc E rfl rfl rfl (by decide) rfl Tryz.func38 rfl (by kernel_rfl) rfl (zGh D ad' (c - q) b' hD' hc' (by omega) s hso (by repeat (first | exact mD | apply List.Mem.tail)) (by repeat (first | exact hG0 | apply Tab.tail)) (by repeat (first | exact hG1 | apply Tab.tail)) _ S.hp) ?_
            rintro v24 w ⟨Y, pv, kv, dv, he, hY, hT⟩; clear E a; intro a E
            rw [← hx] at he hY; simp only [Rec.cells] at he hY; subst he; have S := S.all hT
            obtain ⟨a1, c1, rfl⟩ := hY.rd.pr.slice
            obtain ⟨a2, c2, rfl⟩ := hY.rd.kr.slice
            obtain ⟨a3, c3, rfl⟩ := hY.rd.dr.slice
            have hYR := hY.rd
            clear hY
            refine ⟨S.stab.sub (by first | (simp; done) | (simp +contextual; done) | (simp [*]; done)), ?_⟩
            refine zm E rfl (fun w h => zAe E rfl rfl) ?_; clear E a; intro a E
            iterate 3 (refine zm E rfl (fun w h => zBm E rfl rfl rfl) ?_; clear E a; intro a E)
            refine zCg E rfl rfl rfl (by decide) (fun w => zBm E rfl rfl rfl) ?_; clear E a; intro a E
            refine zCp rfl rfl (zBs E S rfl rfl (by decide) rfl rfl rfl ?_); clear E S a; intro a w b9 E S; refine ⟨S.stab.sub (by first | (simp; done) | (simp +contextual; done) | (simp [*]; done)), ?_⟩
            refine zCp rfl rfl (zAz E S rfl rfl rfl rfl (by simp [Value.oneCell']) rfl (by repeat (first | exact pk1 | apply zAc)) (by simp) ?_); clear E S a; intro a w E S; simp only [List.take_succ_cons, List.take_zero, List.drop_succ_cons, List.drop_zero, List.cons_append, List.nil_append, List.append_nil, List.length_cons, List.length_nil, Nat.zero_add, Nat.add_zero] at S; refine ⟨S.stab.sub (by first | (simp; done) | (simp +contextual; done) | (simp [*]; done)), ?_⟩
            refine zm E rfl (fun w h => zAd E rfl rfl) ?_; clear E a; intro a E
            refine zCk rfl rfl (zAz E S rfl rfl rfl rfl (by simp [Value.oneCell']) rfl (by repeat (first | exact pk1 | apply zAc)) (by simp) ?_); clear E S a; intro a w E S; simp only [List.take_succ_cons, List.take_zero, List.drop_succ_cons, List.drop_zero, List.cons_append, List.nil_append, List.append_nil, List.length_cons, List.length_nil, Nat.zero_add, Nat.add_zero] at S
            refine zCg E rfl rfl rfl (by decide) (fun w => zAd E rfl rfl) ?_; clear E a; intro a E
            refine zBw ?_
            refine zAu ?_
            exact ⟨b7, b9, Y, a1, c1, a2, c2, a3, c3, hYR, S.front6 (A := Y) (B := [(b7, _)]) (C := [(b9, _)]) (D := C) (F := X) (G := [(b5, _)]) (by repeat (first | exact pk1 | apply zAc)) (by repeat (first | exact pk1 | apply zAc)) (by repeat (first | exact pk1 | apply zAc)) (by repeat (first | exact pk1 | apply zAc)) (by repeat (first | exact pk1 | apply zAc)) (by repeat (first | exact pk1 | apply zAc)), E.keep (zAa rfl (zAa rfl (zAa rfl (zAa rfl (zAa rfl (zAa rfl (zAa rfl (zAa rfl (zAa rfl (zAa rfl zAm))))))))))⟩
          · skip
            refine zCp rfl rfl (zBs E S rfl rfl (by decide) rfl rfl rfl ?_); clear E S a; intro a w b9 E S; refine ⟨S.stab.sub (by first | (simp; done) | (simp +contextual; done) | (simp [*]; done)), ?_⟩
            refine zCc E rfl rfl rfl (by decide) rfl Tryz.func38 rfl (by kernel_rfl) rfl (zGh D ad' (c - q) b' hD' hc' (by omega) s hso (by repeat (first | exact mD | apply List.Mem.tail)) (by repeat (first | exact hG0 | apply Tab.tail)) (by repeat (first | exact hG1 | apply Tab.tail)) _ S.hp) ?_
            rintro v24 w ⟨Y, pv, kv, dv, he, hY, hT⟩; clear E a; intro a E
            rw [← hx] at he hY; simp only [Rec.cells] at he hY; subst he; have S := S.all hT
            obtain ⟨a1, c1, rfl⟩ := hY.rd.pr.slice
            obtain ⟨a2, c2, rfl⟩ := hY.rd.kr.slice
            obtain ⟨a3, c3, rfl⟩ := hY.rd.dr.slice
            have hYR := hY.rd
            clear hY
            refine ⟨S.stab.sub (by first | (simp; done) | (simp +contextual; done) | (simp [*]; done)), ?_⟩
            refine zm E rfl (fun w h => zAe E rfl rfl) ?_; clear E a; intro a E
            iterate 3 (refine zm E rfl (fun w h => zBm E rfl rfl rfl) ?_; clear E a; intro a E)
            refine zCg E rfl rfl rfl (by decide) (fun w => zBm E rfl rfl rfl) ?_; clear E a; intro a E
            refine zCp rfl rfl (zAz E S rfl rfl rfl rfl (by simp [Value.oneCell']) rfl (by repeat (first | exact pk1 | apply zAc)) (by simp) ?_); clear E S a; intro a w E S; simp only [List.take_succ_cons, List.take_zero, List.drop_succ_cons, List.drop_zero, List.cons_append, List.nil_append, List.append_nil, List.length_cons, List.length_nil, Nat.zero_add, Nat.add_zero] at S; refine ⟨S.stab.sub (by first | (simp; done) | (simp +contextual; done) | (simp [*]; done)), ?_⟩
            refine zm E rfl (fun w h => zAd E rfl rfl) ?_; clear E a; intro a E
            refine zCk rfl rfl (zAz E S rfl rfl rfl rfl (by simp [Value.oneCell']) rfl (by repeat (first | exact pk1 | apply zAc)) (by simp) ?_); clear E S a; intro a w E S; simp only [List.take_succ_cons, List.take_zero, List.drop_succ_cons, List.drop_zero, List.cons_append, List.nil_append, List.append_nil, List.length_cons, List.length_nil, Nat.zero_add, Nat.add_zero] at S
            refine zCg E rfl rfl rfl (by decide) (fun w => zAd E rfl rfl) ?_; clear E a; intro a E
            refine zBw ?_
            refine zAu ?_
            exact ⟨b7, b9, Y, a1, c1, a2, c2, a3, c3, hYR, S.front6 (A := Y) (B := [(b7, _)]) (C := [(b9, _)]) (D := C) (F := X) (G := [(b5, _)]) (by repeat (first | exact pk1 | apply zAc)) (by repeat (first | exact pk1 | apply zAc)) (by repeat (first | exact pk1 | apply zAc)) (by repeat (first | exact pk1 | apply zAc)) (by repeat (first | exact pk1 | apply zAc)) (by repeat (first | exact pk1 | apply zAc)), E.keep (zAa rfl (zAa rfl (zAa rfl (zAa rfl (zAa rfl (zAa rfl (zAa rfl (zAa rfl (zAa rfl (zAa rfl zAm))))))))))⟩
        · skip
          refine zCp rfl rfl (zBs E S rfl rfl (by decide) rfl rfl rfl ?_); clear E S a; intro a w b9 E S; refine ⟨S.stab.sub (by first | (simp; done) | (simp +contextual; done) | (simp [*]; done)), ?_⟩
          refine ⟨?_, ?_⟩
          · skip
            refine zCc E rfl rfl rfl (by decide) rfl Tryz.func38 rfl (by kernel_rfl) rfl (zGh D ad' (c - q) b' hD' hc' (by omega) s hso (by repeat (first | exact mD | apply List.Mem.tail)) (by repeat (first | exact hG0 | apply Tab.tail)) (by repeat (first | exact hG1 | apply Tab.tail)) _ S.hp) ?_
            rintro v24 w ⟨Y, pv, kv, dv, he, hY, hT⟩; clear E a; intro a E
            rw [← hx] at he hY; simp only [Rec.cells] at he hY; subst he; have S := S.all hT
            obtain ⟨a1, c1, rfl⟩ := hY.rd.pr.slice
            obtain ⟨a2, c2, rfl⟩ := hY.rd.kr.slice
            obtain ⟨a3, c3, rfl⟩ := hY.rd.dr.slice
            have hYR := hY.rd
            clear hY
            refine ⟨S.stab.sub (by first | (simp; done) | (simp +contextual; done) | (simp [*]; done)), ?_⟩
            refine zm E rfl (fun w h => zAe E rfl rfl) ?_; clear E a; intro a E
            iterate 3 (refine zm E rfl (fun w h => zBm E rfl rfl rfl) ?_; clear E a; intro a E)
            refine zCg E rfl rfl rfl (by decide) (fun w => zBm E rfl rfl rfl) ?_; clear E a; intro a E
            refine zCp rfl rfl (zBs E S rfl rfl (by decide) rfl rfl rfl ?_); clear E S a; intro a w b7 E S; refine ⟨S.stab.sub (by first | (simp; done) | (simp +contextual; done) | (simp [*]; done)), ?_⟩
            refine zCp rfl rfl (zAz E S rfl rfl rfl rfl (by simp [Value.oneCell']) rfl (by repeat (first | exact pk1 | apply zAc)) (by simp) ?_); clear E S a; intro a w E S; simp only [List.take_succ_cons, List.take_zero, List.drop_succ_cons, List.drop_zero, List.cons_append, List.nil_append, List.append_nil, List.length_cons, List.length_nil, Nat.zero_add, Nat.add_zero] at S; refine ⟨S.stab.sub (by first | (simp; done) | (simp +contextual; done) | (simp [*]; done)), ?_⟩
            refine zm E rfl (fun w h => zAd E rfl rfl) ?_; clear E a; intro a E
            refine zCk rfl rfl (zAz E S rfl rfl rfl rfl (by simp [Value.oneCell']) rfl (by repeat (first | exact pk1 | apply zAc)) (by simp) ?_); clear E S a; intro a w E S; simp only [List.take_succ_cons, List.take_zero, List.drop_succ_cons, List.drop_zero, List.cons_append, List.nil_append, List.append_nil, List.length_cons, List.length_nil, Nat.zero_add, Nat.add_zero] at S
            refine zCg E rfl rfl rfl (by decide) (fun w => zAd E rfl rfl) ?_; clear E a; intro a E
            refine zBw ?_
            refine zAu ?_
            exact ⟨b7, b9, Y, a1, c1, a2, c2, a3, c3, hYR, S.front6 (A := Y) (B := [(b7, _)]) (C := [(b9, _)]) (D := C) (F := X) (G := [(b5, _)]) (by repeat (first | exact pk1 | apply zAc)) (by repeat (first | exact pk1 | apply zAc)) (by repeat (first | exact pk1 | apply zAc)) (by repeat (first | exact pk1 | apply zAc)) (by repeat (first | exact pk1 | apply zAc)) (by repeat (first | exact pk1 | apply zAc)), E.keep (zAa rfl (zAa rfl (zAa rfl (zAa rfl (zAa rfl (zAa rfl (zAa rfl (zAa rfl (zAa rfl (zAa rfl zAm))))))))))⟩
          · skip
            refine zCp rfl rfl (zBs E S rfl rfl (by decide) rfl rfl rfl ?_); clear E S a; intro a w b7 E S; refine ⟨S.stab.sub (by first | (simp; done) | (simp +contextual; done) | (simp [*]; done)), ?_⟩
            refine zCc E rfl rfl rfl (by decide) rfl Tryz.func38 rfl (by kernel_rfl) rfl (zGh D ad' (c - q) b' hD' hc' (by omega) s hso (by repeat (first | exact mD | apply List.Mem.tail)) (by repeat (first | exact hG0 | apply Tab.tail)) (by repeat (first | exact hG1 | apply Tab.tail)) _ S.hp) ?_
            rintro v24 w ⟨Y, pv, kv, dv, he, hY, hT⟩; clear E a; intro a E
            rw [← hx] at he hY; simp only [Rec.cells] at he hY; subst he; have S := S.all hT
            obtain ⟨a1, c1, rfl⟩ := hY.rd.pr.slice
            obtain ⟨a2, c2, rfl⟩ := hY.rd.kr.slice
            obtain ⟨a3, c3, rfl⟩ := hY.rd.dr.slice
            have hYR := hY.rd
            clear hY
            refine ⟨S.stab.sub (by first | (simp; done) | (simp +contextual; done) | (simp [*]; done)), ?_⟩
            refine zm E rfl (fun w h => zAe E rfl rfl) ?_; clear E a; intro a E
            iterate 3 (refine zm E rfl (fun w h => zBm E rfl rfl rfl) ?_; clear E a; intro a E)
            refine zCg E rfl rfl rfl (by decide) (fun w => zBm E rfl rfl rfl) ?_; clear E a; intro a E
            refine zCp rfl rfl (zAz E S rfl rfl rfl rfl (by simp [Value.oneCell']) rfl (by repeat (first | exact pk1 | apply zAc)) (by simp) ?_); clear E S a; intro a w E S; simp only [List.take_succ_cons, List.take_zero, List.drop_succ_cons, List.drop_zero, List.cons_append, List.nil_append, List.append_nil, List.length_cons, List.length_nil, Nat.zero_add, Nat.add_zero] at S; refine ⟨S.stab.sub (by first | (simp; done) | (simp +contextual; done) | (simp [*]; done)), ?_⟩
            refine zm E rfl (fun w h => zAd E rfl rfl) ?_; clear E a; intro a E
            refine zCk rfl rfl (zAz E S rfl rfl rfl rfl (by simp [Value.oneCell']) rfl (by repeat (first | exact pk1 | apply zAc)) (by simp) ?_); clear E S a; intro a w E S; simp only [List.take_succ_cons, List.take_zero, List.drop_succ_cons, List.drop_zero, List.cons_append, List.nil_append, List.append_nil, List.length_cons, List.length_nil, Nat.zero_add, Nat.add_zero] at S
            refine zCg E rfl rfl rfl (by decide) (fun w => zAd E rfl rfl) ?_; clear E a; intro a E
            refine zBw ?_
            refine zAu ?_
            exact ⟨b7, b9, Y, a1, c1, a2, c2, a3, c3, hYR, S.front6 (A := Y) (B := [(b7, _)]) (C := [(b9, _)]) (D := C) (F := X) (G := [(b5, _)]) (by repeat (first | exact pk1 | apply zAc)) (by repeat (first | exact pk1 | apply zAc)) (by repeat (first | exact pk1 | apply zAc)) (by repeat (first | exact pk1 | apply zAc)) (by repeat (first | exact pk1 | apply zAc)) (by repeat (first | exact pk1 | apply zAc)), E.keep (zAa rfl (zAa rfl (zAa rfl (zAa rfl (zAa rfl (zAa rfl (zAa rfl (zAa rfl (zAa rfl (zAa rfl zAm))))))))))⟩
      · clear E S a; intro a w J; obtain ⟨b7, b9, Y, a1, c1, a2, c2, a3, c3, hYR, S, E⟩ := J
        refine zAf hK ?_; clear hK; clear K
        iterate 2 (refine wp_seq_k ?_; intro K hK)
        refine zAb ?_
        refine zp E (zAe E rfl rfl) ?_; clear E a; intro a E
        refine zp E (by first | exact zCu E rfl rfl rfl | exact zBg E rfl rfl rfl rfl | exact zBr E rfl rfl rfl rfl | exact zBk E rfl rfl rfl) ?_; clear E a; intro a E
        refine wpList_nil ?_
        refine zAf hK ?_; clear hK; clear K
        refine zBf E rfl (fun hb => ?_) (fun hb => ?_)
        · replace hb := Nrm.nrm hb
          refine wp_seq_k ?_; intro K hK
          refine zAb ?_
          refine zp E (zAe E rfl rfl) ?_; clear E a; intro a E
          iterate 2 (refine zp E (zAd E rfl rfl) ?_; clear E a; intro a E)
          refine wpList_nil ?_
          refine zAf hK ?_; clear hK; clear K
          refine wp_ret ?_
          refine zAv ?_; clear hK; clear K
          refine zCm ?_
          refine zAv ?_
          refine zCm ?_
          refine zAv ?_; clear hK; clear K
          refine ret2 E rfl rfl rfl ?_
          rw [hrec, herr hb]
          refine ⟨_, rfl, nilv, [], [], [], rfl, Buf.nil _ _, (fun x hx => by cases hx), rfl, ?_⟩
          exact ((St.drops0 [_, _, _, _, _, _] S).addNil.addNil).tr
        · replace hb := Nrm.nrm hb
          refine wp_skip ?_
          refine zAf hK ?_; clear hK; clear K
          refine wp_seq_k ?_; intro K hK
          have hd := hok hb
          have h1 := hd.n_
          have h2 := hd.len
          refine zAb ?_
          refine zp E (zAe E rfl rfl) ?_; clear E a; intro a E
          refine zp E (zBp (vs := [_, _, _, _, _, _, _, _, _, _, _, _, _]) E rfl rfl rfl (S.get (by repeat (first | exact pk1 | apply zAc))) rfl rfl) ?_; clear E a; intro a E
          refine zAn rfl (zDg (cells := [_, _, _, _, _, _, _, _, _, _, _, _, _]) E S rfl rfl (by decide) rfl rfl rfl rfl rfl (by decide) rfl ?_); clear E S a; intro a w b34 E S
          refine zAn rfl (zCq (by' := 168) E S rfl rfl (by decide) rfl rfl hB (by repeat (first | exact pk1 | apply zAc)) ((zEp (g := b34) (T := 26) (xs := [.int .i64 r.kind, str r.name, .int .i64 r.typ, .int .i64 r.frm, .int .i64 r.guid, .int .i64 r.origin, str r.snap, .slice a1 r.props.length c1, .int .i64 r.object, .int .i64 r.at_, .int .i64 r.many, .slice a2 r.keep.length c2, .slice a3 r.data.length c3]) (s := 13) (m := 1) rfl (by simp [Value.oneCell']) (by omega) 1).src (S.stab.at (by repeat (first | exact mm1 | assumption | apply List.Mem.tail))) rfl) rfl rfl rfl rfl rfl rfl (by simp only [maxLen]; omega) (by omega) ?_); clear E S a; intro a w v35 C35 E S hB35
          refine zp E (zAd E rfl rfl) ?_; clear E a; intro a E
          refine wpList_nil ?_
          refine zAf hK ?_; clear hK; clear K
          refine wp_seq_k ?_; intro K hK
          refine zAb ?_
          refine zp E (zBp (vs := [_, _, _, _]) E rfl rfl rfl (S.get (by repeat (first | exact pk1 | apply zAc))) rfl rfl) ?_; clear E a; intro a E
          refine zAn rfl (zAz E S rfl rfl rfl rfl (by simp [Value.oneCell']) rfl (by repeat (first | exact pk1 | apply zAc)) (by simp) ?_); clear E S a; intro a w E S; simp only [List.take_succ_cons, List.take_zero, List.drop_succ_cons, List.drop_zero, List.cons_append, List.nil_append, List.append_nil, List.length_cons, List.length_nil, Nat.zero_add, Nat.add_zero] at S
          refine wpList_nil ?_
          refine zAf hK ?_; clear hK; clear K
          refine zAb ?_
          iterate 2 (refine zp E (zAe E rfl rfl) ?_; clear E a; intro a E)
          refine zp E (zBu E rfl rfl rfl (by first | exact wa1 (by omega) | exact w_in (by omega) | exact zBt (by omega) | exact rfl)) ?_; clear E a; intro a E
          refine zp E (zAd E rfl rfl) ?_; clear E a; intro a E
          refine wpList_nil ?_
          refine zBi ?_
          refine zBq ?_
          have S := St.drops0 [_, _, _] (S.front3 (A := [(b34, _)]) (B := [(b7, _)]) (C := [(b9, _)]) (by repeat (first | exact pk1 | apply zAc)) (by repeat (first | exact pk1 | apply zAc)) (by repeat (first | exact pk1 | apply zAc)))
          have S := (S.front4 (A := X) (B := Y) (C := C35) (D := [(b5, _)]) (by repeat (first | exact pk1 | apply zAc)) (by repeat (first | exact pk1 | apply zAc)) (by repeat (first | exact pk1 | apply zAc)) (by repeat (first | exact pk1 | apply zAc))).join.perm2
          refine ⟨_, ?_, q + n, o, l ++ [⟨r, .slice a1 r.props.length c1, .slice a2 r.keep.length c2, .slice a3 r.data.length c3⟩], C35, X ++ Y, v35, rfl, by omega, hok', ?_, ?_, ?_, ?_, S, E.keep (zAa rfl (zAa rfl (zAa rfl (zAa rfl (zAa rfl (zAa rfl zAm))))))⟩
          · omega
          · simp only [List.length_append, List.length_singleton]; omega
          · rw [hrec, hgo hb, List.map_append, hb', List.drop_drop]; rfl
          · rw [List.length_append, List.flatMap_append]; exact hB35
          · intro x hx
            rcases List.mem_append.1 hx with q | q
            · exact (hX x q).sub fun y hy => List.mem_append_left _ hy
            · rw [List.mem_singleton.1 q]; exact hYR.sub fun y hy => List.mem_append_right _ hy
    · replace hb := Nrm.nrm hb
      refine wp_exit ?_
      refine zBc ?_; clear hK; clear K
      refine zBc ?_
      refine zCj ?_
      refine zAf hK ?_; clear hK; clear K
      refine wp_seq_k ?_; intro K hK
      refine zAb ?_
      refine zp E (zAe E rfl rfl) ?_; clear E a; intro a E
      iterate 2 (refine zp E (zAd E rfl rfl) ?_; clear E a; intro a E)
      refine wpList_nil ?_
      refine zAf hK ?_; clear hK; clear K
      refine wp_ret ?_
      refine ret2 E rfl rfl rfl ?_
      rw [List.drop_of_length_le (by omega)] at hrec
      rw [hrec, zHe]
      exact ⟨_, rfl, v', C, X, l, rfl, hB, hX, rfl, (St.drops2 [_] S).tr⟩
theorem zJn {Da Xa Db Xb : zAy} {va vb : Value} {la lb : List RV} (hDa : Rd Da 13 va la.length (la.flatMap RV.lay)) (hXa : RVs Xa la) (hDb : Rd Db 13 vb lb.length (lb.flatMap RV.lay)) (hXb : RVs Xb lb) (hs : ∀ x ∈ la, Sml x.r) (hl : la.length ≤ 1048576) (ra rb : List Rec) (hra : ra = la.map RV.r) (hrb : rb = lb.map RV.r)
    {As : List zAy} (m1 : Da ∈ As) (m2 : Xa ∈ As) (m3 : Db ∈ As) (m4 : Xb ∈ As) (w0 : World) (H : Hp w0 As) :
    Ret Tryz.prog 22 #[va, vb] w0 fun u w' => ∃ z, u = .bool z ∧ (z = true ↔ ra = rb) ∧ Trs w0 w' As As := by
  have S := St.begin H
  have e1 : ra.length = la.length := by rw [hra, List.length_map]
  have e2 : rb.length = lb.length := by rw [hrb, List.length_map]
  obtain ⟨a1, c1, rfl⟩ := hDa.slice
  obtain ⟨a2, c2, rfl⟩ := hDb.slice
  refine zCr 29 Tryz.func22 rfl rfl (by decide) ?_; intro a E
  refine wp_seq_k ?_; intro K hK
  refine zAb ?_
  refine zp E (zAd E rfl rfl) ?_; clear E a; intro a E
  refine wpList_nil ?_
  refine zAf hK ?_; clear hK; clear K
  iterate 2 (refine wp_seq_k ?_; intro K hK)
  refine zAb ?_
  refine zp E (zAe E rfl rfl) ?_; clear E a; intro a E
  refine zp E (by first | exact zBx E rfl rfl rfl | exact zAx E rfl rfl rfl | exact zAq E rfl rfl rfl) ?_; clear E a; intro a E
  refine zp E (zAe E rfl rfl) ?_; clear E a; intro a E
  refine zp E (by first | exact zBx E rfl rfl rfl | exact zAx E rfl rfl rfl | exact zAq E rfl rfl rfl) ?_; clear E a; intro a E
  refine zp E (by first | exact zCu E rfl rfl rfl | exact zBg E rfl rfl rfl rfl | exact zBr E rfl rfl rfl rfl | exact zBk E rfl rfl rfl) ?_; clear E a; intro a E
  refine wpList_nil ?_
  refine zAf hK ?_; clear hK; clear K
  refine zBf E rfl (fun hb => ?_) (fun hb => ?_)
  · replace hb := Nrm.nrm hb
    refine wp_seq_k ?_; intro K hK
    refine zAb ?_
    refine zp E (zAd E rfl rfl) ?_; clear E a; intro a E
    refine wpList_nil ?_
    refine zAf hK ?_; clear hK; clear K
    refine wp_ret ?_
    refine zAv ?_; clear hK; clear K
    refine ret1 E rfl rfl ?_
    exact ⟨_, rfl, _, rfl, ⟨fun q => Bool.noConfusion q, fun q => by have := congrArg List.length q; omega⟩, S.tr⟩
  · replace hb := Nrm.nrm hb
    refine wp_skip ?_
    refine zAf hK ?_; clear hK; clear K
    iterate 2 (refine wp_seq_k ?_; intro K hK)
    refine zAb ?_
    refine zp E (zAd E rfl rfl) ?_; clear E a; intro a E
    refine wpList_nil ?_
    refine zAf hK ?_; clear hK; clear K
    refine wp_block ?_
    refine wp_loop_ghost (fun (m : Nat) (a : Act) (w' : World) => ∃ i : Nat, m = la.length - i ∧ i ≤ la.length ∧ ra.take i = rb.take i ∧ St w0 As w' As ∧ Fr a 29 [(0, .slice a1 la.length c1), (1, .slice a2 lb.length c2), (4, .bool false), (5, .int .i64 i)]) (la.length) ?_ ?_
    · exact ⟨0, by omega, by omega, rfl, S, E.keep (zAa rfl (zAa rfl (zAa rfl (zAa rfl zAm))))⟩
    clear E; clear a; (try clear S); rintro m a w ⟨i, rfl, hi, he, S, E⟩
    iterate 2 (refine wp_seq_k ?_; intro K hK)
    refine zAb ?_
    iterate 2 (refine zp E (zAe E rfl rfl) ?_; clear E a; intro a E)
    refine zp E (by first | exact zBx E rfl rfl rfl | exact zAx E rfl rfl rfl | exact zAq E rfl rfl rfl) ?_; clear E a; intro a E
    refine zp E (zCn E rfl rfl rfl) ?_; clear E a; intro a E
    refine wpList_nil ?_
    refine zAf hK ?_; clear hK; clear K
    refine zBf E rfl (fun hb => ?_) (fun hb => ?_)
    · replace hb := Nrm.nrm hb
      refine wp_skip ?_
      refine zAf hK ?_; clear hK; clear K
      refine wp_seq_k ?_; intro K hK
      refine wp_block ?_
      refine wp_seq_k ?_; intro K hK
      have hil : i < la.length := by omega
      have hil2 : i < lb.length := by omega
      obtain ⟨b1, o1, rfl⟩ := hDa.addr (by omega)
      obtain ⟨b2, o2, rfl⟩ := hDb.addr (by omega)
      have g1 : ra[i]'(by omega) = la[i].r := by simp [hra]
      have g2 : rb[i]'(by omega) = lb[i].r := by simp [hrb]
      refine zBz S (.ofL [(0, 0), (1, 0), (2, 0), (3, 0), (4, 0), (5, 0), (6, 0), (7, 0), (8, 3), (9, 2)]) (by kernel_rfl) (by kernel_rfl) ?_
      clear S; intro w S
      iterate 2 (refine zm E rfl (fun w h => zAe E rfl rfl) ?_; clear E a; intro a E)
      refine zm E rfl (fun w h => by first | exact zBl E rfl rfl rfl rfl rfl rfl (by omega) | exact zBv E rfl rfl rfl rfl rfl rfl (by omega) | exact zBj E rfl rfl rfl rfl rfl rfl (by omega)) ?_; clear E a; intro a E
      refine zm E rfl (fun w h => zDo (vs := [_, _, _, _, _, _, _, _, _, _, _, _, _]) E rfl rfl rfl rfl (hDa.elem (lay := RV.lay) RV.lay_len (h.at m1) hil)) ?_; clear E a; intro a E
      iterate 2 (refine zm E rfl (fun w h => zAe E rfl rfl) ?_; clear E a; intro a E)
      refine zm E rfl (fun w h => by first | exact zBl E rfl rfl rfl rfl rfl rfl (by omega) | exact zBv E rfl rfl rfl rfl rfl rfl (by omega) | exact zBj E rfl rfl rfl rfl rfl rfl (by omega)) ?_; clear E a; intro a E
      refine zm E rfl (fun w h => zDo (vs := [_, _, _, _, _, _, _, _, _, _, _, _, _]) E rfl rfl rfl rfl (hDb.elem (lay := RV.lay) RV.lay_len (h.at m3) hil2)) ?_; clear E a; intro a E
      refine zGr E rfl rfl rfl (by decide) rfl Tryz.func13 rfl (by kernel_rfl) rfl (same_ret (hXa _ (List.getElem_mem hil)) (hXb _ (List.getElem_mem hil2)) (hs _ (List.getElem_mem hil)) _ m2 m4 _ S.hp) ?_
      rintro v26 w ⟨z, rfl, hz, hT⟩; clear E a; intro a E
      have S := S.all hT
      refine zCg E rfl rfl rfl (by decide) (fun w => zAd E rfl rfl) ?_; clear E a; intro a E
      refine zBw ?_
      refine zAf hK ?_; clear hK; clear K
      refine wp_seq_k ?_; intro K hK
      refine zAb ?_
      refine zp E (zAe E rfl rfl) ?_; clear E a; intro a E
      refine zp E (zDq E rfl rfl) ?_; clear E a; intro a E
      refine wpList_nil ?_
      refine zAf hK ?_; clear hK; clear K
      refine zBf E rfl (fun hb => ?_) (fun hb => ?_)
      · replace hb := Nrm.nrm hb
        refine wp_seq_k ?_; intro K hK
        refine zAb ?_
        refine zp E (zAd E rfl rfl) ?_; clear E a; intro a E
        refine wpList_nil ?_
        refine zAf hK ?_; clear hK; clear K
        refine wp_ret ?_
        refine zCm ?_
        refine zAv ?_; clear hK; clear K
        refine zAv ?_
        refine zCm ?_
        refine zAv ?_; clear hK; clear K
        refine ret1 E rfl rfl ?_
        exact ⟨_, rfl, _, rfl, ⟨fun q => Bool.noConfusion q, fun q => by have h3 := hz.2 (by rw [← g1, ← g2]; simp only [q]); simp [h3] at hb⟩, S.tr⟩
      · replace hb := Nrm.nrm hb
        refine wp_skip ?_
        refine zBi ?_
        refine zAf hK ?_; clear hK; clear K
        refine zAb ?_
        refine zp E (zAe E rfl rfl) ?_; clear E a; intro a E
        refine zp E (zBu E rfl rfl rfl (by first | exact zCl (y := 1) (by omega) | exact w_in (by omega) | exact zBt (by omega) | exact rfl)) ?_; clear E a; intro a E
        refine zp E (zAd E rfl rfl) ?_; clear E a; intro a E
        refine wpList_nil ?_
        refine zBq ?_
        exact ⟨_, by omega, i + 1, rfl, by omega, zLd he (by omega) (by omega) (by rw [g1, g2]; exact hz.1 (by simpa using hb)), S, E.keep (zAa rfl (zAa rfl (zAa rfl (zAa rfl zAm))))⟩
    · replace hb := Nrm.nrm hb
      refine wp_exit ?_
      refine zBc ?_; clear hK; clear K
      refine zBc ?_
      refine zCj ?_
      refine zAf hK ?_; clear hK; clear K
      refine wp_seq_k ?_; intro K hK
      refine zAb ?_
      refine zp E (zAd E rfl rfl) ?_; clear E a; intro a E
      refine wpList_nil ?_
      refine zAf hK ?_; clear hK; clear K
      refine wp_ret ?_
      refine ret1 E rfl rfl ?_
      exact ⟨_, rfl, _, rfl, ⟨fun _ => by rw [List.take_of_length_le (by omega), List.take_of_length_le (by omega)] at he; exact he, fun _ => rfl⟩, S.tr⟩
end Go.Proofs.YtbogecljkaimdaaGreatDoor
namespace Go.Sl
theorem sl_take {D : zAy} {ad : Option Addr} {c n : Nat} {b : List UInt8} (h : Rd D 1 (.slice ad b.length c) b.length (byt b)) (hc : b.length ≤ c) (hn : n ≤ b.length) :
    ∃ ad2, sliced ad 0 n c 1 = .slice ad2 (b.take n).length c ∧ Rd D 1 (.slice ad2 (b.take n).length c) (b.take n).length (byt (b.take n)) ∧ (b.take n).length ≤ c := by
  have hp := h.piece rfl (lo := 0) (hi := n) (mx := c) (Nat.zero_le _) hn (by omega)
  have hl : (b.take n).length = n := by rw [List.length_take]; omega
  simp only [Nat.mul_one, List.drop_zero, Nat.sub_zero, zFr] at hp
  have e : sliced ad 0 n c 1 = .slice (if c = 0 then ad else ad.map (·.add (0 * 1))) (b.take n).length c := by rw [hl]; rfl
  exact ⟨_, e, by rw [← e, hl]; exact hp, by omega⟩
end Go.Sl
namespace Go.Proofs.YtbogecljkaimdaaGreatDoor
open Go.Sl
set_option maxRecDepth 10000
def rec1 : Rec := { zDx 6 with many := 5 }
theorem rec1_ck : ckB rec1 = true := by rw [ck6 (.inl rfl), may6]; rfl
theorem rec1_rd (X : zAy) : RecR X rec1 nilv nilv nilv := ⟨Rd.nil _ _, Rd.nil _ _, Rd.nil _ _⟩
theorem rec1_sml : Sml rec1 := ⟨zDj, zDj, zDj, zHq, zDj, zDj⟩
theorem rec0_ck : ckE (zDx 6) = 200 := by
  have : ckB (zDx 6) = false := by rw [ck6 (.inl rfl), may6]; rfl
  simp [ckE, this]
theorem zeroR_rd (X : zAy) (k : Int) : RecR X (zDx k) nilv nilv nilv := ⟨Rd.nil _ _, Rd.nil _ _, Rd.nil _ _⟩
theorem zero_sml (k : Int) : Sml (zDx k) := ⟨zDj, zDj, zDj, zHq, zDj, zDj⟩
set_option maxHeartbeats 1000000 in
theorem awake_ret {As : List zAy} (hG : Tab As 2 shaK) (w0 : World) (H : Hp w0 As) :
    Ret Tryz.prog 9 #[] w0 fun u w' => u = .bool true ∧ Trs w0 w' As As := by
  have S := St.begin H
  have hGA : ∃ G ∈ As, ∃ T fr, ((2 : Nat), Obj.cells (u32s shaK).toArray T fr) ∈ G := hG
  obtain ⟨X, hXm, -⟩ := hGA
  have henc := zJy rec1_ck zEj
  have hdec := dec_enc rec1_ck zEj []
  rw [List.append_nil] at hdec
  obtain ⟨pb, hpb⟩ : ∃ pb, pb = zDc rec1.kind (zDz rec1.kind rec1) zEj := ⟨_, rfl⟩
  obtain ⟨own, hown⟩ : ∃ own, own = ownS rec1.kind (zDz rec1.kind rec1) zEj := ⟨_, rfl⟩
  have hpl : pb.length = 41 := by rw [hpb, zFx]; rfl
  have hp9 : pb.take 9 = [6, 4, 0, 0, 0, 5, 0, 0, 0] := by
    have e1 : (zFq rec1.kind (zDz rec1.kind rec1)) = [6, 4, 0, 0, 0, 5, 0, 0, 0] := by rfl
    rw [hpb, zDc, e1]; rfl
  rw [← hpb, ← hown] at henc hdec
  have hd4 : decR (pb.take 4) zEj = zIw 10 := dec_1 (by rw [List.length_take]; omega)
  rw [hpl] at hdec
  refine enter0 86 Tryz.func9 rfl rfl ?_; intro a E
  refine wp_seq_k ?_; intro K hK
  refine zAb ?_
  refine zp E (zAd E rfl rfl) ?_; clear E a; intro a E
  refine wpList_nil ?_
  refine zAf hK ?_; clear hK; clear K
  refine wp_seq_k ?_; intro K hK
  refine zAb ?_
  refine zp E (zCh (cells := [_, _, _, _, _, _, _, _, _, _, _, _, _]) E rfl rfl rfl) ?_; clear E a; intro a E
  refine zp E (zCh (cells := [_, _, _, _]) E rfl rfl rfl) ?_; clear E a; intro a E
  refine zAp E rfl rfl (by decide) rfl Tryz.func12 rfl (by kernel_rfl) rfl (encode_ret (r := rec1) (rec1_rd X) rec1_sml zEj (by repeat (first | exact hXm | apply List.Mem.tail)) (by repeat (first | exact hG | apply Tab.tail)) _ S.hp) ?_
  rintro v18 w h; clear E a; intro a E
  replace h := encP_Q h; rw [henc] at h; obtain ⟨v1, C1, rfl, hB1, hT⟩ := h; have S := S.all hT; simp only at hB1
  obtain ⟨ad1, c1, rfl⟩ := hB1.slice
  have hc1 := hB1.cap_le
  refine zp E (zAe E rfl rfl) ?_; clear E a; intro a E
  iterate 3 (refine zp E (zBm E rfl rfl rfl) ?_; clear E a; intro a E)
  refine zAn rfl (zBs E S rfl rfl (by decide) rfl rfl rfl ?_); clear E S a; intro a w b2 E S
  refine zp E (zAd E rfl rfl) ?_; clear E a; intro a E
  refine zAn rfl (zAz E S rfl rfl rfl rfl (by simp [Value.oneCell']) rfl (by repeat (first | exact pk1 | apply zAc)) (by simp) ?_); clear E S a; intro a w E S; simp only [List.take_succ_cons, List.take_zero, List.drop_succ_cons, List.drop_zero, List.cons_append, List.nil_append, List.append_nil, List.length_cons, List.length_nil, Nat.zero_add, Nat.add_zero] at S
  refine zp E (zAd E rfl rfl) ?_; clear E a; intro a E
  refine wpList_nil ?_
  refine zAf hK ?_; clear hK; clear K
  refine wp_seq_k ?_; intro K hK
  obtain ⟨a4, he4, hR4, hc4⟩ := sl_take (n := 4) hB1.rd hc1 (by omega)
  obtain ⟨a9, he9, hR9, hc9⟩ := sl_take (n := 9) hB1.rd hc1 (by omega)
  have h4l : (pb.take 4).length = 4 := by rw [List.length_take]; omega
  have h9l : (pb.take 9).length = 9 := by rw [List.length_take]; omega
  refine zAb ?_
  refine zp E (zAe E rfl rfl) ?_; clear E a; intro a E
  refine zp E (zAd E rfl rfl) ?_; clear E a; intro a E
  refine wpList_nil ?_
  refine zAf hK ?_; clear hK; clear K
  iterate 2 (refine wp_seq_k ?_; intro K hK)
  refine zAb ?_
  refine zp E (zAe E rfl rfl) ?_; clear E a; intro a E
  refine zp E (by first | exact zBx E rfl rfl rfl | exact zAx E rfl rfl rfl | exact zAq E rfl rfl rfl) ?_; clear E a; intro a E
  refine zp E (zDm E rfl rfl rfl) ?_; clear E a; intro a E
  refine wpList_nil ?_
  refine zAf hK ?_; clear hK; clear K
  refine zCi E rfl ((by rw [hpl]; rfl)) ?_
  refine zAb ?_
  refine zp E (zAe E rfl rfl) ?_; clear E a; intro a E
  refine zp E (zFy (hi := 4) (s := 1) E rfl rfl rfl rfl rfl rfl (by omega)) ?_; clear E a; intro a E
  rw [he4] at E
  have S := S.front1 (A := C1) (by repeat (first | exact pk1 | apply zAc))
  refine zp E (zAd E rfl rfl) ?_; clear E a; intro a E
  refine wpList_nil ?_
  refine zAf hK ?_; clear hK; clear K
  refine wp_seq_k ?_; intro K hK
  refine zAb ?_
  refine zp E (zAe E rfl rfl) ?_; clear E a; intro a E
  refine zp E (zCh (cells := [_, _, _, _]) E rfl rfl rfl) ?_; clear E a; intro a E
  refine zAp E rfl rfl (by decide) rfl Tryz.func19 rfl (by kernel_rfl) rfl (zJd C1 a4 c1 (pb.take 4) hR4 hc4 (by omega) zEj _ (by repeat (first | exact hG | apply Tab.tail)) _ S.hp) ?_
  rintro v31 w ⟨X4, p4, k4, d4, rfl, hX4, hT⟩; clear E a; intro a E
  rw [hd4] at E; have S := S.all hT; simp only [zIw, zDx, Rec.cells] at E
  rw [hd4] at hX4
  obtain ⟨q1, n1', rfl⟩ := hX4.rd.pr.slice
  obtain ⟨q2, n2', rfl⟩ := hX4.rd.kr.slice
  obtain ⟨q3, n3', rfl⟩ := hX4.rd.dr.slice
  refine zp E (zAe E rfl rfl) ?_; clear E a; intro a E
  iterate 4 (refine zp E (zBm E rfl rfl rfl) ?_; clear E a; intro a E)
  refine zAn rfl (zBs E S rfl rfl (by decide) rfl rfl rfl ?_); clear E S a; intro a w b5 E S
  refine zAn rfl (zBs E S rfl rfl (by decide) rfl rfl rfl ?_); clear E S a; intro a w b7 E S
  refine zAn rfl (zAz E S rfl rfl rfl rfl (by simp [Value.oneCell']) rfl (by repeat (first | exact pk1 | apply zAc)) (by simp) ?_); clear E S a; intro a w E S; simp only [List.take_succ_cons, List.take_zero, List.drop_succ_cons, List.drop_zero, List.cons_append, List.nil_append, List.append_nil, List.length_cons, List.length_nil, Nat.zero_add, Nat.add_zero] at S
  refine zp E (zAd E rfl rfl) ?_; clear E a; intro a E
  refine zAn rfl (zAz E S rfl rfl rfl rfl (by simp [Value.oneCell']) rfl (by repeat (first | exact pk1 | apply zAc)) (by simp) ?_); clear E S a; intro a w E S; simp only [List.take_succ_cons, List.take_zero, List.drop_succ_cons, List.drop_zero, List.cons_append, List.nil_append, List.append_nil, List.length_cons, List.length_nil, Nat.zero_add, Nat.add_zero] at S
  refine zp E (zAd E rfl rfl) ?_; clear E a; intro a E
  refine wpList_nil ?_
  refine zAf hK ?_; clear hK; clear K
  refine wp_seq_k ?_; intro K hK
  replace E := E.keep (e' := [(0, _), (1, _), (2, _), (3, _), (8, _)]) (zAa rfl (zAa rfl (zAa rfl (zAa rfl (zAa rfl (zAm))))))
  refine zAb ?_
  refine zp E (zAe E rfl rfl) ?_; clear E a; intro a E
  refine zp E (zCh (cells := [_, _, _, _]) E rfl rfl rfl) ?_; clear E a; intro a E
  have S := S.front1 (A := C1) (by repeat (first | exact pk1 | apply zAc))
  refine zAp E rfl rfl (by decide) rfl Tryz.func19 rfl (by kernel_rfl) rfl (zJd C1 ad1 c1 pb hB1.rd hc1 (by omega) zEj _ (by repeat (first | exact hG | apply Tab.tail)) _ S.hp) ?_
  rintro v39 w ⟨X5, p5, k5, d5, rfl, hX5, hT⟩; clear E a; intro a E
  rw [hdec] at E; have S := S.all hT; simp only [rec1, zDx, Rec.cells] at E
  rw [hdec] at hX5
  obtain ⟨q4, n4', rfl⟩ := hX5.rd.pr.slice
  obtain ⟨q5, n5', rfl⟩ := hX5.rd.kr.slice
  obtain ⟨q6, n6', rfl⟩ := hX5.rd.dr.slice
  refine zp E (zAe E rfl rfl) ?_; clear E a; intro a E
  iterate 4 (refine zp E (zBm E rfl rfl rfl) ?_; clear E a; intro a E)
  refine zAn rfl (zBs E S rfl rfl (by decide) rfl rfl rfl ?_); clear E S a; intro a w b9 E S
  refine zAn rfl (zBs E S rfl rfl (by decide) rfl rfl rfl ?_); clear E S a; intro a w b11 E S
  refine zAn rfl (zAz E S rfl rfl rfl rfl (by simp [Value.oneCell']) rfl (by repeat (first | exact pk1 | apply zAc)) (by simp) ?_); clear E S a; intro a w E S; simp only [List.take_succ_cons, List.take_zero, List.drop_succ_cons, List.drop_zero, List.cons_append, List.nil_append, List.append_nil, List.length_cons, List.length_nil, Nat.zero_add, Nat.add_zero] at S
  refine zp E (zAd E rfl rfl) ?_; clear E a; intro a E
  refine zAn rfl (zAz E S rfl rfl rfl rfl (by simp [Value.oneCell']) rfl (by repeat (first | exact pk1 | apply zAc)) (by simp) ?_); clear E S a; intro a w E S; simp only [List.take_succ_cons, List.take_zero, List.drop_succ_cons, List.drop_zero, List.cons_append, List.nil_append, List.append_nil, List.length_cons, List.length_nil, Nat.zero_add, Nat.add_zero] at S
  refine zp E (zAd E rfl rfl) ?_; clear E a; intro a E
  refine wpList_nil ?_
  refine zAf hK ?_; clear hK; clear K
  refine wp_seq_k ?_; intro K hK
  refine zAb ?_
  refine zp E (zCh (cells := [_, _, _, _, _, _, _, _, _, _, _, _, _]) E rfl rfl rfl) ?_; clear E a; intro a E
  refine zAp E rfl rfl (by decide) rfl Tryz.func11 rfl (by kernel_rfl) rfl (zKn (r := zDx 6) (zeroR_rd X 6) (zero_sml 6) (by repeat (first | exact hXm | apply List.Mem.tail)) _ S.hp) ?_
  rintro v45 w ⟨rfl, hT⟩; clear E a; intro a E
  rw [rec0_ck] at E; have S := S.all hT
  refine zp E (zAd E rfl rfl) ?_; clear E a; intro a E
  refine wpList_nil ?_
  refine zAf hK ?_; clear hK; clear K
  refine wp_seq_k ?_; intro K hK
  refine zAb ?_
  refine zp E (zAe E rfl rfl) ?_; clear E a; intro a E
  refine zp E (by first | exact zBx E rfl rfl rfl | exact zAx E rfl rfl rfl | exact zAq E rfl rfl rfl) ?_; clear E a; intro a E
  refine zp E (by first | exact zCe E rfl rfl rfl | exact zAt E rfl rfl rfl rfl | exact zBd E rfl rfl rfl rfl | exact zAw E rfl rfl rfl) ?_; clear E a; intro a E
  refine zp E (zAe E rfl rfl) ?_; clear E a; intro a E
  refine zDe E (t := 49) rfl ((by rw [hpl]; rfl)) (fun hb49 => ?_)
  refine zy E hb49 (zAe E rfl rfl) ?_; clear E a; intro a E
  refine zy E hb49 (zFy (hi := 9) (s := 1) E rfl rfl rfl rfl rfl rfl (by omega)) ?_; clear E a; intro a E
  rw [he9] at E
  refine zy E hb49 (zCa E rfl rfl rfl rfl rfl hR9 (S.stab.at (by repeat (first | exact mm1 | assumption | apply List.Mem.tail)))) ?_; clear E a; intro a E
  refine zy E hb49 (by first | exact zCe E rfl rfl rfl | exact zAt E rfl rfl rfl rfl | exact zBd E rfl rfl rfl rfl | exact zAw E rfl rfl rfl) ?_; clear E a; intro a E
  refine zp E (zAl E rfl rfl hb49 rfl) ?_; clear E a; intro a E
  refine zp E (zAe E rfl rfl) ?_; clear E a; intro a E
  refine zDe E (t := 55) rfl ((decide_eq_true hp9)) (fun hb55 => ?_)
  refine zy E hb55 (zAe E rfl rfl) ?_; clear E a; intro a E
  refine zy E hb55 (by first | exact zCe E rfl rfl rfl | exact zAt E rfl rfl rfl rfl | exact zBd E rfl rfl rfl rfl | exact zAw E rfl rfl rfl) ?_; clear E a; intro a E
  refine zp E (zAl E rfl rfl hb55 rfl) ?_; clear E a; intro a E
  refine zp E (zAe E rfl rfl) ?_; clear E a; intro a E
  refine zDe E (t := 59) rfl (rfl) (fun hb59 => ?_)
  refine zy E hb59 (zAe E rfl rfl) ?_; clear E a; intro a E
  refine zy E hb59 (by first | exact zCe E rfl rfl rfl | exact zAt E rfl rfl rfl rfl | exact zBd E rfl rfl rfl rfl | exact zAw E rfl rfl rfl) ?_; clear E a; intro a E
  refine zp E (zAl E rfl rfl hb59 rfl) ?_; clear E a; intro a E
  refine zp E (zAd E rfl rfl) ?_; clear E a; intro a E
  refine wpList_nil ?_
  refine zAf hK ?_; clear hK; clear K
  refine wp_seq_k ?_; intro K hK
  replace E := E.keep (e' := [(0, _), (2, _), (9, _), (10, _), (11, _), (12, _), (13, _), (14, _)]) (zAa rfl (zAa rfl (zAa rfl (zAa rfl (zAa rfl (zAa rfl (zAa rfl (zAa rfl (zAm)))))))))
  refine zAb ?_
  iterate 2 (refine zp E (zAe E rfl rfl) ?_; clear E a; intro a E)
  refine zDe E (t := 64) rfl (rfl) (fun hb64 => ?_)
  refine zy E hb64 (by first | exact zAg (q := 10) E rfl rfl rfl | exact zAh (q := 10) E rfl rfl rfl) ?_; clear E a; intro a E
  refine zy E hb64 (by first | exact zAo E rfl rfl rfl (S.get (by repeat (first | exact pk1 | apply zAc))) rfl | exact zAj E rfl rfl rfl (by assumption)) ?_; clear E a; intro a E
  refine zy E hb64 (by first | exact zCe E rfl rfl rfl | exact zAt E rfl rfl rfl rfl | exact zBd E rfl rfl rfl rfl | exact zAw E rfl rfl rfl) ?_; clear E a; intro a E
  refine zp E (zAl E rfl rfl hb64 rfl) ?_; clear E a; intro a E
  refine zp E (zAe E rfl rfl) ?_; clear E a; intro a E
  refine zDe E (t := 69) rfl (rfl) (fun hb69 => ?_)
  refine zy E hb69 (zAe E rfl rfl) ?_; clear E a; intro a E
  refine zy E hb69 (by first | exact zCe E rfl rfl rfl | exact zAt E rfl rfl rfl rfl | exact zBd E rfl rfl rfl rfl | exact zAw E rfl rfl rfl) ?_; clear E a; intro a E
  refine zp E (zAl E rfl rfl hb69 rfl) ?_; clear E a; intro a E
  refine zp E (zAe E rfl rfl) ?_; clear E a; intro a E
  refine zDe E (t := 73) rfl (rfl) (fun hb73 => ?_)
  iterate 2 (refine zy E hb73 (zBp (vs := [_, _, _, _]) E rfl rfl rfl (S.get (by repeat (first | exact pk1 | apply zAc))) rfl rfl) ?_; clear E a; intro a E)
  refine zy E hb73 (by first | exact rn_eql_pair E rfl rfl rfl rfl (by kernel_rfl) (by kernel_rfl) rfl rfl rfl | exact rn_eql_cells E rfl rfl rfl rfl (by kernel_rfl) (by kernel_rfl) rfl) ?_; clear E a; intro a E
  refine zp E (zAl E rfl rfl hb73 rfl) ?_; clear E a; intro a E
  refine zp E (zAe E rfl rfl) ?_; clear E a; intro a E
  refine zDe E (t := 78) rfl ((by simp)) (fun hb78 => ?_)
  refine zy E hb78 (zAe E rfl rfl) ?_; clear E a; intro a E
  refine zy E hb78 (by first | exact zCe E rfl rfl rfl | exact zAt E rfl rfl rfl rfl | exact zBd E rfl rfl rfl rfl | exact zAw E rfl rfl rfl) ?_; clear E a; intro a E
  refine zp E (zAl E rfl rfl hb78 rfl) ?_; clear E a; intro a E
  refine zp E (zAe E rfl rfl) ?_; clear E a; intro a E
  refine zDe E (t := 82) rfl (rfl) (fun hb82 => ?_)
  refine zy E hb82 (zAe E rfl rfl) ?_; clear E a; intro a E
  refine zy E hb82 (by first | exact zCe E rfl rfl rfl | exact zAt E rfl rfl rfl rfl | exact zBd E rfl rfl rfl rfl | exact zAw E rfl rfl rfl) ?_; clear E a; intro a E
  refine zp E (zAl E rfl rfl hb82 rfl) ?_; clear E a; intro a E
  refine zp E (zAd E rfl rfl) ?_; clear E a; intro a E
  refine wpList_nil ?_
  refine zAf hK ?_; clear hK; clear K
  refine wp_ret ?_
  refine ret1 E rfl rfl ?_
  exact ⟨_, rfl, rfl, by repeat (first | exact S.tr | replace S := S.tail)⟩
end Go.Proofs.YtbogecljkaimdaaGreatDoor
namespace Go.Proofs.YtbogecljkaimdaaGreatDoor
open Go.Sl
set_option maxRecDepth 10000
structure Lay4 (As : List zAy) : Prop where
  r : Tab As 2 shaK
  f : Tab As 0 sha0.l
  g : Tab As 1 shaK
end Go.Proofs.YtbogecljkaimdaaGreatDoor
namespace Go.Proofs.YtbogecljkaimdaaGreatDoor
open Go.Sl
set_option maxRecDepth 10000
theorem strR_len (l : List Rec) : (strR l).2.length ≤ 1048576 := by
  by_cases h : (strR l).1 = 0
  · exact (str_rec h).2.1
  · rw [(str_err h).1]; simp
theorem recG_ck : ∀ (n : Nat) (b : List UInt8) (s : Fs) (acc : List Rec), b.length ≤ n → (∀ r ∈ acc, Sml r) → ∀ r ∈ (recG b s acc).2, Sml r := by
  intro n
  induction n with
  | zero =>
    intro b s acc hn h
    obtain rfl : b = [] := List.length_eq_zero_iff.1 (by omega)
    rw [zHe]; exact h
  | succ n ih =>
    intro b s acc hn h
    by_cases hb : b = []
    · subst hb; rw [zHe]; exact h
    · by_cases hd : (decR b s).1 = 0
      · rw [zLf acc hb hd]
        have ho := dec_ok hd
        have h1 := ho.n_
        have h2 := ho.len
        refine ih _ _ _ (by rw [List.length_drop]; omega) fun r hr => ?_
        rcases List.mem_append.1 hr with q | q
        · exact h r q
        · rw [List.mem_singleton.1 q]; exact dec_sml b s
      · rw [zJx acc hb hd]; intro r hr; cases hr
theorem recs_sml (b : List UInt8) : ∀ r ∈ (zGj b).2, Sml r := by
  unfold zGj
  split
  · intro r hr; cases hr
  · exact recG_ck _ b zEj [] (Nat.le_refl _) (by simp)
theorem recG_len : ∀ (n : Nat) (b : List UInt8) (s : Fs) (acc : List Rec), b.length ≤ n → (recG b s acc).2.length ≤ acc.length + b.length := by
  intro n
  induction n with
  | zero =>
    intro b s acc hn
    obtain rfl : b = [] := List.length_eq_zero_iff.1 (by omega)
    rw [zHe]; simp
  | succ n ih =>
    intro b s acc hn
    by_cases hb : b = []
    · subst hb; rw [zHe]; simp
    · by_cases hd : (decR b s).1 = 0
      · rw [zLf acc hb hd]
        have ho := dec_ok hd
        have h1 := ho.n_
        have h2 := ho.len
        have := ih (b.drop (decR b s).2.2.1) (decR b s).2.2.2 (acc ++ [(decR b s).2.1]) (by rw [List.length_drop]; omega)
        rw [List.length_drop, List.length_append, List.length_singleton] at this
        omega
      · rw [zJx acc hb hd]; simp
theorem recs_len (b : List UInt8) : (zGj b).2.length ≤ 1048576 := by
  unfold zGj
  split
  · simp
  · have := recG_len b.length b zEj [] (Nat.le_refl _)
    simp only [List.length_nil] at this
    omega
set_option maxHeartbeats 2000000 in
theorem streams_walk (O : zAy) (hL : Lay4 [O]) (v : Value) (l : List RV) (hD : Rd O 13 v l.length (l.flatMap RV.lay)) (hX : RVs O l) (hs : ∀ x ∈ l, Sml x.r) (hl : l.length ≤ 1048576) (ad : Option Addr) (c : Nat) (b : List UInt8) (hB : Rd O 1 (.slice ad b.length c) b.length (byt b)) (hcap : b.length ≤ c) (w0 : World) (H : Hp w0 [O]) :
    Ret Tryz.prog 7 #[v, .slice ad b.length c] w0 fun u w' => u = .bool true ∧ Trs w0 w' [O] [O] := by
  have S := St.begin H
  have hG := hL.r
  have hG0 := hL.f
  have hG1 := hL.g
  obtain ⟨rs, hrs⟩ : ∃ rs, rs = l.map RV.r := ⟨_, rfl⟩
  have hal := strR_len rs
  have hsm := recs_sml b
  have hrl := recs_len b
  have hsm2 := recs_sml (strR rs).2
  have hrl2 := recs_len (strR rs).2
  obtain ⟨x, hx⟩ : ∃ x, x = strR rs := ⟨_, rfl⟩
  obtain ⟨y, hy⟩ : ∃ y, y = zGj b := ⟨_, rfl⟩
  obtain ⟨z, hz⟩ : ∃ z, z = zGj (strR rs).2 := ⟨_, rfl⟩
  rw [← hz] at hsm2 hrl2
  rw [← hx] at hal hz
  rw [← hy] at hsm hrl
  obtain ⟨e1, bs⟩ := x
  obtain ⟨e2, l2⟩ := y
  obtain ⟨e3, l3⟩ := z
  simp only at hal hsm hrl hz hsm2 hrl2
  obtain ⟨adl, cl, rfl⟩ := hD.slice
  refine zCr 86 Tryz.func7 rfl rfl (by decide) ?_; intro a E
  refine wp_seq_k ?_; intro K hK
  refine zAb ?_
  refine zp E (zAd E rfl rfl) ?_; clear E a; intro a E
  refine wpList_nil ?_
  refine zAf hK ?_; clear hK; clear K
  refine wp_seq_k ?_; intro K hK
  refine zAb ?_
  refine zAp E rfl rfl (by decide) rfl Tryz.func9 rfl (by kernel_rfl) rfl (awake_ret (by repeat (first | exact hG | apply Tab.tail)) _ S.hp) ?_
  rintro v20 w ⟨rfl, hT⟩; clear E a; intro a E
  have S := S.all hT
  refine zp E (zAd E rfl rfl) ?_; clear E a; intro a E
  refine wpList_nil ?_
  refine zAf hK ?_; clear hK; clear K
  refine wp_seq_k ?_; intro K hK
  refine zAb ?_
  refine zp E (zAe E rfl rfl) ?_; clear E a; intro a E
  refine zAp E rfl rfl (by decide) rfl Tryz.func23 rfl (by kernel_rfl) rfl (stream_ret hD hX hs hl rs hrs (by repeat (first | exact mm1 | assumption | apply List.Mem.tail)) (by repeat (first | exact mm1 | assumption | apply List.Mem.tail)) (by repeat (first | exact hG | apply Tab.tail)) _ S.hp) ?_
  rintro v23 w ⟨v1, C1, he, hC1, hT⟩; clear E a; intro a E
  rw [← hx] at he hC1; simp only at he hC1; subst he; have S := S.all hT; obtain ⟨a1, n1', rfl⟩ := hC1.slice; have hc1 := hC1.cap_le
  refine zp E (zAe E rfl rfl) ?_; clear E a; intro a E
  iterate 2 (refine zp E (zBm E rfl rfl rfl) ?_; clear E a; intro a E)
  iterate 2 (refine zp E (zAd E rfl rfl) ?_; clear E a; intro a E)
  refine wpList_nil ?_
  refine zAf hK ?_; clear hK; clear K
  refine wp_seq_k ?_; intro K hK
  refine zAb ?_
  refine zp E (zAe E rfl rfl) ?_; clear E a; intro a E
  refine zAp E rfl rfl (by decide) rfl Tryz.func24 rfl (by kernel_rfl) rfl (ustream_ret hD hX hs hl rs hrs (by repeat (first | exact mm1 | assumption | apply List.Mem.tail)) (by repeat (first | exact mm1 | assumption | apply List.Mem.tail)) (by repeat (first | exact hG0 | apply Tab.tail)) (by repeat (first | exact hG1 | apply Tab.tail)) _ S.hp) ?_
  rintro v28 w ⟨v2, C2, he, hC2, hT⟩; clear E a; intro a E
  rw [← hx] at he hC2; simp only at he hC2; subst he; have S := S.all hT; obtain ⟨a2, n2', rfl⟩ := hC2.slice; have hc2 := hC2.cap_le
  refine zp E (zAe E rfl rfl) ?_; clear E a; intro a E
  iterate 2 (refine zp E (zBm E rfl rfl rfl) ?_; clear E a; intro a E)
  iterate 2 (refine zp E (zAd E rfl rfl) ?_; clear E a; intro a E)
  refine wpList_nil ?_
  refine zAf hK ?_; clear hK; clear K
  refine wp_seq_k ?_; intro K hK
  refine zAb ?_
  refine zp E (zAe E rfl rfl) ?_; clear E a; intro a E
  refine zAp E rfl rfl (by decide) rfl Tryz.func20 rfl (by kernel_rfl) rfl (zLg O ad c b hB hcap (by repeat (first | exact mm1 | assumption | apply List.Mem.tail)) (by repeat (first | exact hG | apply Tab.tail)) _ S.hp) ?_
  rintro v33 w ⟨v3, C3, X3, L3, he, hC3, hX3, hm3, hT⟩; clear E a; intro a E
  rw [← hy] at he hm3; simp only at he hm3; subst he; have S := S.all hT
  refine zp E (zAe E rfl rfl) ?_; clear E a; intro a E
  iterate 2 (refine zp E (zBm E rfl rfl rfl) ?_; clear E a; intro a E)
  iterate 2 (refine zp E (zAd E rfl rfl) ?_; clear E a; intro a E)
  refine wpList_nil ?_
  refine zAf hK ?_; clear hK; clear K
  refine wp_seq_k ?_; intro K hK
  replace E := E.keep (e' := [(1, _), (4, _), (5, _), (6, _), (7, _), (8, _), (9, _), (10, _), (11, _)]) (zAa rfl (zAa rfl (zAa rfl (zAa rfl (zAa rfl (zAa rfl (zAa rfl (zAa rfl (zAa rfl (zAm))))))))))
  refine zAb ?_
  refine zp E (zAe E rfl rfl) ?_; clear E a; intro a E
  refine zAp E rfl rfl (by decide) rfl Tryz.func21 rfl (by kernel_rfl) rfl (zJm O ad c b hB hcap (by repeat (first | exact mm1 | assumption | apply List.Mem.tail)) (by repeat (first | exact hG0 | apply Tab.tail)) (by repeat (first | exact hG1 | apply Tab.tail)) _ S.hp) ?_
  rintro v38 w ⟨v4, C4, X4, L4, he, hC4, hX4, hm4, hT⟩; clear E a; intro a E
  rw [← hy] at he hm4; simp only at he hm4; subst he; have S := S.all hT
  refine zp E (zAe E rfl rfl) ?_; clear E a; intro a E
  iterate 2 (refine zp E (zBm E rfl rfl rfl) ?_; clear E a; intro a E)
  iterate 2 (refine zp E (zAd E rfl rfl) ?_; clear E a; intro a E)
  refine wpList_nil ?_
  refine zAf hK ?_; clear hK; clear K
  refine wp_seq_k ?_; intro K hK
  refine zAb ?_
  iterate 2 (refine zp E (zAe E rfl rfl) ?_; clear E a; intro a E)
  refine zAp E rfl rfl (by decide) rfl Tryz.func22 rfl (by kernel_rfl) rfl (zJn hC3.rd hX3 hC4.rd hX4 (fun x hx => hsm _ (by rw [← hm3]; exact List.mem_map_of_mem hx)) (by have := congrArg List.length hm3; rw [List.length_map] at this; omega) l2 l2 hm3.symm hm4.symm (by repeat (first | exact mm1 | assumption | apply List.Mem.tail)) (by repeat (first | exact mm1 | assumption | apply List.Mem.tail)) (by repeat (first | exact mm1 | assumption | apply List.Mem.tail)) (by repeat (first | exact mm1 | assumption | apply List.Mem.tail)) _ S.hp) ?_
  rintro v43 w ⟨zz, rfl, hzz, hT⟩; clear E a; intro a E
  obtain rfl := hzz.2 rfl; have S := S.all hT
  refine zp E (zAd E rfl rfl) ?_; clear E a; intro a E
  refine wpList_nil ?_
  refine zAf hK ?_; clear hK; clear K
  refine wp_seq_k ?_; intro K hK
  refine zAb ?_
  refine zp E (zAe E rfl rfl) ?_; clear E a; intro a E
  refine zAp E rfl rfl (by decide) rfl Tryz.func20 rfl (by kernel_rfl) rfl (zLg C2 a2 n2' bs hC2.rd hc2 (by repeat (first | exact mm1 | assumption | apply List.Mem.tail)) (by repeat (first | exact hG | apply Tab.tail)) _ S.hp) ?_
  rintro v46 w ⟨v5, C5, X5, L5, he, hC5, hX5, hm5, hT⟩; clear E a; intro a E
  rw [← hz] at he hm5; simp only at he hm5; subst he; have S := S.all hT
  refine zp E (zAe E rfl rfl) ?_; clear E a; intro a E
  iterate 2 (refine zp E (zBm E rfl rfl rfl) ?_; clear E a; intro a E)
  iterate 2 (refine zp E (zAd E rfl rfl) ?_; clear E a; intro a E)
  refine wpList_nil ?_
  refine zAf hK ?_; clear hK; clear K
  refine wp_seq_k ?_; intro K hK
  replace E := E.keep (e' := [(4, _), (5, _), (6, _), (7, _), (8, _), (9, _), (11, _), (13, _), (14, _), (15, _), (16, _)]) (zAa rfl (zAa rfl (zAa rfl (zAa rfl (zAa rfl (zAa rfl (zAa rfl (zAa rfl (zAa rfl (zAa rfl (zAa rfl (zAm))))))))))))
  refine zAb ?_
  refine zp E (zAe E rfl rfl) ?_; clear E a; intro a E
  refine zAp E rfl rfl (by decide) rfl Tryz.func21 rfl (by kernel_rfl) rfl (zJm C2 a2 n2' bs hC2.rd hc2 (by repeat (first | exact mm1 | assumption | apply List.Mem.tail)) (by repeat (first | exact hG0 | apply Tab.tail)) (by repeat (first | exact hG1 | apply Tab.tail)) _ S.hp) ?_
  rintro v51 w ⟨v6, C6, X6, L6, he, hC6, hX6, hm6, hT⟩; clear E a; intro a E
  rw [← hz] at he hm6; simp only at he hm6; subst he; have S := S.all hT
  refine zp E (zAe E rfl rfl) ?_; clear E a; intro a E
  iterate 2 (refine zp E (zBm E rfl rfl rfl) ?_; clear E a; intro a E)
  iterate 2 (refine zp E (zAd E rfl rfl) ?_; clear E a; intro a E)
  refine wpList_nil ?_
  refine zAf hK ?_; clear hK; clear K
  refine wp_seq_k ?_; intro K hK
  refine zAb ?_
  iterate 2 (refine zp E (zAe E rfl rfl) ?_; clear E a; intro a E)
  refine zAp E rfl rfl (by decide) rfl Tryz.func22 rfl (by kernel_rfl) rfl (zJn hC5.rd hX5 hC6.rd hX6 (fun x hx => hsm2 _ (by rw [← hm5]; exact List.mem_map_of_mem hx)) (by have := congrArg List.length hm5; rw [List.length_map] at this; omega) l3 l3 hm5.symm hm6.symm (by repeat (first | exact mm1 | assumption | apply List.Mem.tail)) (by repeat (first | exact mm1 | assumption | apply List.Mem.tail)) (by repeat (first | exact mm1 | assumption | apply List.Mem.tail)) (by repeat (first | exact mm1 | assumption | apply List.Mem.tail)) _ S.hp) ?_
  rintro v56 w ⟨zz, rfl, hzz, hT⟩; clear E a; intro a E
  obtain rfl := hzz.2 rfl; have S := S.all hT
  refine zp E (zAd E rfl rfl) ?_; clear E a; intro a E
  refine wpList_nil ?_
  refine zAf hK ?_; clear hK; clear K
  refine wp_seq_k ?_; intro K hK
  refine zAb ?_
  iterate 2 (refine zp E (zAe E rfl rfl) ?_; clear E a; intro a E)
  refine zDe E (t := 58) rfl (rfl) (fun hb58 => ?_)
  refine zy E hb58 (zAe E rfl rfl) ?_; clear E a; intro a E
  refine zy E hb58 (zCa E rfl rfl rfl rfl rfl hC1.rd (S.stab.at (by repeat (first | exact mm1 | assumption | apply List.Mem.tail)))) ?_; clear E a; intro a E
  refine zy E hb58 (zAe E rfl rfl) ?_; clear E a; intro a E
  refine zy E hb58 (zCa E rfl rfl rfl rfl rfl hC2.rd (S.stab.at (by repeat (first | exact mm1 | assumption | apply List.Mem.tail)))) ?_; clear E a; intro a E
  refine zy E hb58 (by first | exact zCe E rfl rfl rfl | exact zAt E rfl rfl rfl rfl | exact zBd E rfl rfl rfl rfl | exact zAw E rfl rfl rfl) ?_; clear E a; intro a E
  refine zp E (zAl E rfl rfl hb58 rfl) ?_; clear E a; intro a E
  refine zp E (zAe E rfl rfl) ?_; clear E a; intro a E
  refine zDe E (t := 65) rfl ((by simp)) (fun hb65 => ?_)
  iterate 2 (refine zy E hb65 (zAe E rfl rfl) ?_; clear E a; intro a E)
  refine zy E hb65 (by first | exact zCe E rfl rfl rfl | exact zAt E rfl rfl rfl rfl | exact zBd E rfl rfl rfl rfl | exact zAw E rfl rfl rfl) ?_; clear E a; intro a E
  refine zp E (zAl E rfl rfl hb65 rfl) ?_; clear E a; intro a E
  refine zp E (zAe E rfl rfl) ?_; clear E a; intro a E
  refine zDe E (t := 70) rfl ((by simp)) (fun hb70 => ?_)
  refine zy E hb70 (zAe E rfl rfl) ?_; clear E a; intro a E
  refine zp E (zAl E rfl rfl hb70 rfl) ?_; clear E a; intro a E
  refine zp E (zAe E rfl rfl) ?_; clear E a; intro a E
  refine zDe E (t := 73) rfl (rfl) (fun hb73 => ?_)
  iterate 2 (refine zy E hb73 (zAe E rfl rfl) ?_; clear E a; intro a E)
  refine zy E hb73 (by first | exact zCe E rfl rfl rfl | exact zAt E rfl rfl rfl rfl | exact zBd E rfl rfl rfl rfl | exact zAw E rfl rfl rfl) ?_; clear E a; intro a E
  refine zp E (zAl E rfl rfl hb73 rfl) ?_; clear E a; intro a E
  refine zp E (zAe E rfl rfl) ?_; clear E a; intro a E
  refine zDe E (t := 78) rfl ((by simp)) (fun hb78 => ?_)
  refine zy E hb78 (zAe E rfl rfl) ?_; clear E a; intro a E
  refine zp E (zAl E rfl rfl hb78 rfl) ?_; clear E a; intro a E
  refine zp E (zAe E rfl rfl) ?_; clear E a; intro a E
  refine zDe E (t := 81) rfl (rfl) (fun hb81 => ?_)
  iterate 2 (refine zy E hb81 (zAe E rfl rfl) ?_; clear E a; intro a E)
  refine zy E hb81 (by first | exact zCe E rfl rfl rfl | exact zAt E rfl rfl rfl rfl | exact zBd E rfl rfl rfl rfl | exact zAw E rfl rfl rfl) ?_; clear E a; intro a E
  refine zp E (zAl E rfl rfl hb81 rfl) ?_; clear E a; intro a E
  refine zp E (zAd E rfl rfl) ?_; clear E a; intro a E
  refine wpList_nil ?_
  refine zAf hK ?_; clear hK; clear K
  refine wp_ret ?_
  refine ret1 E rfl rfl ?_
  exact ⟨_, rfl, by simp, by repeat (first | exact S.tr | replace S := S.tail)⟩
end Go.Proofs.YtbogecljkaimdaaGreatDoor
namespace Go.Sl
structure PV where
  v : Value
  bs : List UInt8
def PV.lay (x : PV) : List Value := [x.v]
theorem PV.lay_len (x : PV) : x.lay.length = 1 := rfl
def PVs (X : zAy) (l : List PV) : Prop := ∀ x ∈ l, Rd X 1 x.v x.bs.length (byt x.bs) ∧ x.bs.length ≤ 2085
theorem PVs.sub {C D : zAy} {l : List PV} (h : PVs C l) (hs : ∀ x ∈ C, x ∈ D) : PVs D l := fun x hx => ⟨(h x hx).1.sub hs, (h x hx).2⟩
theorem PVs.set {X : zAy} {l : List PV} (h : PVs X l) (i : Nat) {y : PV} (hy : y ∈ l) : PVs X (l.set i y) := fun x hx => by
  rcases List.mem_or_eq_of_mem_set hx with q | q
  · exact h x q
  · rw [q]; exact h y hy
end Go.Sl
namespace Go.Proofs.YtbogecljkaimdaaGreatDoor
open Go.Sl
set_option maxRecDepth 10000
end Go.Proofs.YtbogecljkaimdaaGreatDoor
namespace Go.Sl
open Go.ChangeShapes Go.WideShapes Go.ChangeAt Go.RowKit Go.ChangeMaps
def old (w : World) : zAy := w.heap.toList.zipIdx.map fun x => (x.2, x.1)
theorem mem_old {w : World} {b : Nat} {o : Obj} (h : w.heap[b]? = some o) : (b, o) ∈ old w := by
  refine List.mem_map.2 ⟨(o, b), ?_, rfl⟩
  rw [List.mem_zipIdx_iff_getElem?]
  simpa using h
theorem old_own (w : World) : Own w (old w) := by
  refine ⟨?_, fun x hx => ?_⟩
  · have : (old w).map (·.1) = List.range' 0 w.heap.toList.length := by simp [old, Function.comp_def]
    rw [this]; exact List.nodup_range'
  · obtain ⟨y, hy, rfl⟩ := List.mem_map.1 hx
    rw [List.mem_zipIdx_iff_getElem?] at hy
    simpa using hy
theorem hp_old (w : World) : Hp w [old w] := by simpa [Hp] using old_own w
theorem below_old {w w' : World} {Bs : List zAy} (h : Trs w w' [old w] (old w :: Bs)) : Below w.heap.size w w' :=
  ⟨h.os, h.tape, h.output, h.size, fun k hk => by
    have e : w.heap[k]? = some w.heap[k] := Array.getElem?_eq_getElem hk
    rw [e]
    have h1 := h.own [] (by simpa using old_own w)
    exact h1.2 (k, w.heap[k]) (by simp [mem_old e])⟩
def Dec {H : Type} (enc : TypeId × Value → H) (P : Program) (w : World) (e : TypeId) (s : Nat) {α : Type} (lay : α → List Value) (good : α → Prop) : Prop :=
  ∀ n cs x, DataW.trod enc P w 0 (fun _ => true) true n e cs = some x → cs.length = s → (x.1.weights P e).all (· ≤ reachBytes) = true → ∃ a, cs = lay a ∧ good a
section
variable {H : Type} {enc : TypeId × Value → H} {P : Program} {w : World} {t e : TypeId} {s : Nat} {α : Type} {lay : α → List Value} {good : α → Prop}
theorem Dec.imp {good' : α → Prop} (h : Dec enc P w e s lay good) (k : ∀ a, good a → good' a) : Dec enc P w e s lay good' := fun n cs x h1 h2 h3 => by
  obtain ⟨a, h4, h5⟩ := h n cs x h1 h2 h3
  exact ⟨a, h4, k a h5⟩
theorem Dec.map {β : Type} {lay' : β → List Value} {good' : β → Prop} (h : Dec enc P w e s lay good) (k : ∀ a, good a → ∃ b, lay a = lay' b ∧ good' b) : Dec enc P w e s lay' good' := fun n cs x h1 h2 h3 => by
  obtain ⟨a, h4, h5⟩ := h n cs x h1 h2 h3
  obtain ⟨b, h6, h7⟩ := k a h5
  exact ⟨b, h4.trans h6, h7⟩
theorem dec_int {k : IntKind} (ht : P.underlying t = some (.int k)) : Dec enc P w t 1 (fun z => [.int k z]) (fun z => (Lit.int k z).wf = true) := fun n cs x h _ _ => by
  obtain ⟨z, h1, _, h2⟩ := DataW.trod_int ht h
  exact ⟨z, h1, h2⟩
theorem zHf (ht : P.underlying t = some (.int .i64)) : Dec enc P w t 1 (fun z => [.int .i64 z]) (fun z => -9223372036854775808 ≤ z ∧ z ≤ 9223372036854775807) :=
  (dec_int ht).imp fun z hz => by simpa [Lit.wf, IntKind.min, IntKind.max, IntKind.signed, IntKind.bits] using hz
theorem dec_u8 (ht : P.underlying t = some (.int .u8)) : Dec enc P w t 1 (fun b : UInt8 => [.int .u8 b.toNat]) (fun _ => True) :=
  (dec_int ht).map fun z hz => by
    have hz : 0 ≤ z ∧ z ≤ 255 := by simpa [Lit.wf, IntKind.min, IntKind.max, IntKind.signed, IntKind.bits] using hz
    refine ⟨UInt8.ofNat z.toNat, ?_, trivial⟩
    have : (UInt8.ofNat z.toNat).toNat = z.toNat := by simp; omega
    rw [this, Int.toNat_of_nonneg hz.1]
theorem zIf : ∀ {ds : List (DataW H)} {d : DataW H}, d ∈ ds → ∀ n ∈ d.weights P e, n ∈ DataW.weightsAll P e ds
  | d0 :: ds, d, hd, n, hn => by
    simp only [DataW.weightsAll, List.mem_append]
    rcases List.mem_cons.1 hd with rfl | hd
    · exact .inl hn
    · exact .inr (zIf hd n hn)
  | [], _, hd, _, _ => by cases hd
theorem list_of {n : Nat} {p : Nat → α → Prop} (h : ∀ i, i < n → ∃ a, p i a) : ∃ asx : List α, asx.length = n ∧ ∀ i a, asx[i]? = some a → p i a := by
  induction n with
  | zero => exact ⟨[], rfl, by simp⟩
  | succ n ih =>
    obtain ⟨asx, h1, h2⟩ := ih (fun i hi => h i (by omega))
    obtain ⟨a, ha⟩ := h n (by omega)
    refine ⟨asx ++ [a], by simp [h1], fun i b hb => ?_⟩
    by_cases hi : i < n
    · rw [List.getElem?_append_left (by omega)] at hb; exact h2 i b hb
    · rw [List.getElem?_append_right (by omega)] at hb
      have : i = n := by
        have := (List.getElem?_eq_some_iff.1 hb).1
        simp at this; omega
      subst this
      simp [h1] at hb
      exact hb ▸ ha
theorem flat_get {asx : List α} (hl : ∀ a ∈ asx, (lay a).length = s) {l : Array Value} {off : Nat} : ∀ (k : Nat), (∀ i a, asx[i]? = some a → ∀ j v, (lay a)[j]? = some v → l[off + (k + i) * s + j]? = some v) →
    ∀ i u, (asx.flatMap lay)[i]? = some u → l[off + k * s + i]? = some u := by
  induction asx with
  | nil => intro k _ i u h; simp at h
  | cons a r ih =>
    intro k h i u hu
    rw [List.flatMap_cons] at hu
    have ha := hl a (List.mem_cons_self ..)
    by_cases hi : i < s
    · rw [List.getElem?_append_left (by omega)] at hu
      exact h 0 a rfl i u hu
    · rw [List.getElem?_append_right (by omega), ha] at hu
      have := ih (fun b hb => hl b (List.mem_cons_of_mem _ hb)) (k + 1) (fun i b hb j v hv => by
        have := h (i + 1) b (by simpa using hb) j v hv
        rwa [show k + 1 + i = k + (i + 1) by omega]) (i - s) u hu
      rw [Nat.succ_mul] at this
      rwa [show off + (k * s + s) + (i - s) = off + k * s + i by omega] at this
theorem flat_length {asx : List α} (hl : ∀ a ∈ asx, (lay a).length = s) : (asx.flatMap lay).length = asx.length * s := by
  induction asx with
  | nil => simp
  | cons a r ih => rw [List.flatMap_cons, List.length_append, ih (fun b hb => hl b (List.mem_cons_of_mem _ hb)), hl a (List.mem_cons_self ..), List.length_cons, Nat.succ_mul, Nat.add_comm]
def OldS (w : World) (s sz : Nat) (lay : α → List Value) (good : α → Prop) (x : Value × List α) : Prop :=
  ∃ ad c, x.1 = .slice ad x.2.length c ∧ x.2.length ≤ c ∧ c * sz ≤ 140737488351232 ∧ Rd (old w) s x.1 x.2.length (x.2.flatMap lay) ∧ ∀ a ∈ x.2, good a
theorem dec_fields {fs : Array Field} (ht : P.underlying t = some (.struct fs)) {n : Nat} {cs : List Value} {x : DataW H × List MemPlace} (h : DataW.trod enc P w 0 (fun _ => true) true n t cs = some x) (hw : (x.1.weights P t).all (· ≤ reachBytes) = true)
    {i : Nat} {f : Field} (hf : fs[i]? = some f) (hd : Dec enc P w f.type s lay good) (hs : ((cs.drop f.offset).take (P.cellsOf f.type)).length = s) : ∃ a, (cs.drop f.offset).take (P.cellsOf f.type) = lay a ∧ good a := by
  obtain ⟨xs, m, rfl, rfl, hl, hxs, hx⟩ := DataW.trod_struct ht h
  have hi : i < fs.size := (Array.getElem?_eq_some_iff.1 hf).1
  have h1 := hx i f hf
  rw [List.getElem?_eq_getElem (by omega)] at h1
  refine hd _ _ _ h1 hs (List.all_eq_true.2 fun k hk => ?_)
  simp only [DataW.weights, ht] at hw
  exact List.all_eq_true.1 hw k (DataW.weights_mem_each (j := i) (by simpa using ⟨f, hf, rfl⟩) (by simp [List.getElem?_eq_getElem (show i < xs.length by omega)]) k hk)
theorem zFn {fs : Array Field} (i off : Nat) {ft : TypeId} (ht : P.underlying t = some (.struct fs)) {n : Nat} {cs : List Value} {x : DataW H × List MemPlace} (h : DataW.trod enc P w 0 (fun _ => true) true n t cs = some x) (hw : (x.1.weights P t).all (· ≤ reachBytes) = true)
    (hf : (fs[i]?).map (fun f => (f.type, f.offset)) = some (ft, off)) (hc : P.cellsOf ft = s) (hd : Dec enc P w ft s lay good) (hs : off + s ≤ cs.length) : ∃ a, (cs.drop off).take s = lay a ∧ good a := by
  rw [Option.map_eq_some_iff] at hf
  obtain ⟨f, h1, h2⟩ := hf
  cases h2
  have := dec_fields ht h hw h1 hd (by rw [hc, List.length_take, List.length_drop]; omega)
  rwa [hc] at this
theorem Dec.arg (hd : Dec enc P w t 1 lay good) {v : Value} {d : DataW H} {p : List MemPlace} (h : DataW.Trod enc P w 0 (fun _ => true) true t v d p) (h1 : v.cells.toList = [v]) {ts : List TypeId} {ds : List (DataW H)}
    (hw : (DataW.weightsEach P ts ds).all (· ≤ reachBytes) = true) {j : Nat} (ht : ts[j]? = some t) (hdj : ds[j]? = some d) : ∃ a, [v] = lay a ∧ good a := by
  obtain ⟨n, hn⟩ := h
  rw [h1] at hn
  exact hd n _ _ hn rfl (List.all_eq_true.2 fun k hk => List.all_eq_true.1 hw k (DataW.weights_mem_each ht hdj k hk))
theorem one_slice {b : Nat} (ht : P.underlying t = some (.slice e)) {v : Value} (h : Value.okWide P w .any b t v) : v.cells.toList = [v] := by
  obtain ⟨a, l, c, rfl⟩ := okWide_slice ht h
  rfl
theorem flat_byt (bs : List UInt8) : (bs.flatMap fun b => [Value.int .u8 b.toNat]) = byt bs := by
  induction bs with
  | nil => rfl
  | cons b r ih => rw [List.flatMap_cons, ih]; rfl
end
end Go.Sl
namespace Go.Proofs.YtbogecljkaimdaaGreatDoor
open Go.Sl Go.ChangeShapes Go.WideShapes Go.RowKit
theorem zJe {P : Program} {W : World} {nm : String} {g m : Nat} {t e : TypeId} {cs : Array Value} {fuel : Nat} {p : List MemPlace} (l : List Int) (hg : P.globalNamed nm = some g) (ht : P.underlying t = some (.array m e)) (he : P.underlying e = some (.int .u32)) (ce : P.cellsOf e = 1) (ct : P.cellsOf t = l.length) (hm : m = l.length)
    (hv : W.var? P nm = some cs) (hd : DataW.trod (fun _ : TypeId × Value => ()) P W 0 (fun _ => true) false fuel t cs.toList = some (DataW.agg (l.map fun n => .lit (.int .u32 n)), p)) : Tab [old W] g l := by
  subst hm
  obtain ⟨xs, k, _, ex, hlen, hl, hel⟩ := DataW.trod_array ht hd
  rw [ct] at hlen
  have e3 : (xs.map (·.1)) = l.map fun n => (DataW.lit (.int .u32 n) : DataW Unit) := (DataW.agg.inj (Prod.mk.inj ex).1).symm
  have hcs : cs.toList = u32s l := by
    apply List.ext_getElem?
    intro i
    rcases Nat.lt_or_ge i l.length with hi | hi
    · have hE := hel i hi
      rw [ce, Nat.mul_one, List.getElem?_eq_getElem (by omega)] at hE
      obtain ⟨z, e1, e2, _⟩ := DataW.trod_int he hE
      have e4 : (xs.map (·.1))[i]? = (l.map fun n => (DataW.lit (.int .u32 n) : DataW Unit))[i]? := by rw [e3]
      rw [List.getElem?_map, List.getElem?_map, List.getElem?_eq_getElem (by omega : i < xs.length), List.getElem?_eq_getElem hi, e2] at e4
      simp only [Option.map_some, Option.some.injEq, DataW.lit.injEq, Lit.int.injEq, true_and] at e4
      have h0 : ((cs.toList.drop i).take 1)[0]? = some (.int .u32 z) := by rw [e1]; rfl
      have h1 : cs.toList[i]? = some (.int .u32 z) := by simpa using h0
      rw [h1, e4]
      simp [u32s, hi]
    · rw [List.getElem?_eq_none (by omega), List.getElem?_eq_none (by simp [u32s]; omega)]
  simp only [World.var?, hg, Option.bind_some] at hv
  split at hv
  · rename_i c T fr hh
    cases hv
    exact ⟨_, List.Mem.head _, T, fr, mem_old (by rw [← hcs]; simpa using hh)⟩
  · cases hv
end Go.Proofs.YtbogecljkaimdaaGreatDoor
namespace Go.Proofs.YtbogecljkaimdaaGreatDoor
open Go.Sl Go.ChangeShapes Go.WideShapes Go.ChangeAt Go.RowKit
section
variable {H : Type} {enc : TypeId × Value → H} {P : Program} {w : World} {t e : TypeId} {s : Nat} {α : Type} {lay : α → List Value} {good : α → Prop} {size : α → Nat}
theorem bulk_one (d : DataW H) : 1 ≤ Rows.uptoBulk d := by
  cases d with
  | lit l => cases l <;> simp [Rows.uptoBulk]
  | nil => simp [Rows.uptoBulk]
  | ptr d => simp [Rows.uptoBulk]
  | slice elems spare => simp [Rows.uptoBulk]
  | agg parts => simp [Rows.uptoBulk]
  | iface t d => simp [Rows.uptoBulk]
  | map entries => simp [Rows.uptoBulk]
  | held h => simp [Rows.uptoBulk]
theorem zLk {d : DataW H} : ∀ {l : List (DataW H)}, d ∈ l → Rows.uptoBulk d ≤ Rows.uptoBulkAll l
  | x :: r, h => by
    simp only [Rows.uptoBulkAll]
    rcases List.mem_cons.1 h with rfl | h
    · omega
    · have := zLk h; omega
  | [], h => by cases h
def DecB (enc : TypeId × Value → H) (P : Program) (w : World) (e : TypeId) (s : Nat) (lay : α → List Value) (good : α → Prop) (size : α → Nat) : Prop :=
  ∀ n cs x, DataW.trod enc P w 0 (fun _ => true) true n e cs = some x → cs.length = s → (x.1.weights P e).all (· ≤ reachBytes) = true → ∃ a, cs = lay a ∧ good a ∧ size a ≤ Rows.uptoBulk x.1
theorem dec_one (hd : Dec enc P w e s lay good) : DecB enc P w e s lay good (fun _ => 1) := fun n cs x h1 h2 h3 => by
  obtain ⟨a, h4, h5⟩ := hd n cs x h1 h2 h3
  exact ⟨a, h4, h5, bulk_one _⟩
theorem sum_bulk : ∀ {al : List α} {ds : List (DataW H)}, al.length = ds.length → (∀ (i : Nat) (a : α) (d : DataW H), al[i]? = some a → ds[i]? = some d → size a ≤ Rows.uptoBulk d) → (al.map size).sum ≤ Rows.uptoBulkAll ds
  | [], [], _, _ => by simp
  | a :: al, d :: ds, hl, h => by
    have h1 := h 0 a d rfl rfl
    have h2 := sum_bulk (al := al) (ds := ds) (by simpa using hl) (fun i a d ha hd => h (i + 1) a d (by simpa using ha) (by simpa using hd))
    simp only [List.map_cons, List.sum_cons, Rows.uptoBulkAll]; omega
  | [], _ :: _, hl, _ => by simp at hl
  | _ :: _, [], hl, _ => by simp at hl
theorem size_mem {al : List α} {a : α} (h : a ∈ al) : size a ≤ (al.map size).sum := by
  induction al with
  | nil => cases h
  | cons b r ih =>
    rw [List.map_cons, List.sum_cons]
    rcases List.mem_cons.1 h with rfl | h
    · omega
    · have := ih h; omega
theorem size_len {al : List α} (h : ∀ a, 1 ≤ size a) : al.length ≤ (al.map size).sum := by
  induction al with
  | nil => simp
  | cons b r ih => have := h b; rw [List.map_cons, List.sum_cons, List.length_cons]; omega
theorem decB_slice (ht : P.underlying t = some (.slice e)) (hs : P.cellsOf e = s) (h0 : 0 < s) {sz : Nat} (hz : P.bytesOf e = sz) (hd : DecB enc P w e s lay good size) (one : ∀ a, good a → ∀ u ∈ lay a, u.oneCell' = true) :
    DecB enc P w t 1 (fun x : Value × List α => [x.1]) (OldS w s sz lay good) (fun x => (x.2.map size).sum + 1) := fun n cs x h _ hw => by
  rcases Deep.open_slice ht h with ⟨rfl, rfl⟩ | ⟨a, len, cap, m, n, D, Pl, rfl, _, hl, hm, hmm, rfl, hx⟩
  · exact ⟨(.slice none 0 0, []), rfl, ⟨none, 0, rfl, Nat.le_refl _, by simp, ⟨by simp, by simp, Nat.zero_le _, .inl ⟨rfl, none, 0, rfl⟩⟩, by simp⟩, by simp [Rows.uptoBulk]⟩
  · simp only [if_true] at hmm
    subst hmm
    simp only [DataW.weights, ht, List.length_map, List.length_range, List.all_cons, Bool.and_eq_true, decide_eq_true_eq, List.all_append] at hw
    obtain ⟨hw1, hw2, _⟩ := hw
    have hstep : ∀ i, i < len → ∃ b : α, w.cells? 0 (a.add (i * s)) s = some (lay b) ∧ good b ∧ size b ≤ Rows.uptoBulk (D i) := fun i hi => by
      obtain ⟨cs', h1, h2⟩ := hx i (by omega)
      rw [hs] at h1
      have hlen : cs'.length = s := (World.cells?_some h1).2.1
      obtain ⟨b, rfl, hb, hsz⟩ := hd _ _ _ h2 hlen (List.all_eq_true.2 fun n hn => List.all_eq_true.1 hw2 n (zIf (List.mem_map.2 ⟨i, by simpa using hi, rfl⟩) n hn))
      exact ⟨b, h1, hb, hsz⟩
    obtain ⟨al, hal, has⟩ := list_of hstep
    have hgood : ∀ b ∈ al, good b := fun b hb => by
      obtain ⟨i, hi⟩ := List.getElem?_of_mem hb
      exact (has i b hi).2.1
    have hlay : ∀ b ∈ al, (lay b).length = s := fun b hb => by
      obtain ⟨i, hi⟩ := List.getElem?_of_mem hb
      exact (World.cells?_some (has i b hi).1).2.1
    have hlen := flat_length hlay
    refine ⟨(.slice (some a) len m, al), rfl, ⟨some a, m, by rw [hal], by simp only [hal]; exact hl, ?_, ?_, hgood⟩, ?_⟩
    · rw [hz, show len + (m - len) = m by omega] at hw1
      exact hw1
    · simp only [hal]
      refine ⟨by rw [hlen, hal], fun u hu => ?_, by omega, ?_⟩
      · obtain ⟨b, hb, hu⟩ := List.mem_flatMap.1 hu
        exact one b (hgood b hb) u hu
      · by_cases hl0 : len = 0
        · exact .inl ⟨hl0, some a, m, by rw [hl0]⟩
        · obtain ⟨b0, hb0, -⟩ := hstep 0 (by omega)
          have hc0 := (World.cells?_some hb0).2.2 0 h0
          have hlb : (lay b0).length = s := (World.cells?_some hb0).2.1
          rw [List.getElem?_eq_getElem (by omega)] at hc0
          obtain ⟨b, off, spot⟩ := a
          simp only [World.cell?, Addr.add, Nat.zero_mul, Nat.add_zero] at hc0
          split at hc0
          · rename_i l T fr hh
            have hh' : w.heap[b]? = some (.cells l T fr) := hh
            cases spot with
            | some q => simp at hc0
            | none =>
              refine .inr ⟨b, off, m, l, T, fr, rfl, mem_old hh', ?_⟩
              have := flat_get (lay := lay) (asx := al) (s := s) (l := l) (off := off) hlay 0 (fun i c hc j v hv => by
                obtain ⟨h1, _⟩ := has i c hc
                have hls : (lay c).length = s := (World.cells?_some h1).2.1
                have hj : j < s := by
                  have := (List.getElem?_eq_some_iff.1 hv).1
                  omega
                have h3 := (World.cells?_some h1).2.2 j hj
                rw [Addr.add_lit, Addr.add_lit, zIh hh', hv] at h3
                rw [Nat.zero_add]
                exact h3)
              simpa using this
          · cases hc0
    · have := sum_bulk (size := size) (al := al) (ds := (List.range len).map D) (by simp [hal]) (fun i b d hb hd => by
        rw [List.getElem?_map] at hd
        have hi := (List.getElem?_eq_some_iff.1 hb).1
        rw [List.getElem?_range (by omega)] at hd
        cases hd
        exact (has i b hb).2.2)
      simp only [Rows.uptoBulk]; omega
theorem DecB.arg (hd : DecB enc P w t 1 lay good size) {v : Value} {d : DataW H} {p : List MemPlace} (h : DataW.Trod enc P w 0 (fun _ => true) true t v d p) (h1 : v.cells.toList = [v]) {ts : List TypeId} {ds : List (DataW H)}
    (hw : (DataW.weightsEach P ts ds).all (· ≤ reachBytes) = true) (hk : Rows.uptoSmall H ds = true) {j : Nat} (ht : ts[j]? = some t) (hdj : ds[j]? = some d) : ∃ a, [v] = lay a ∧ good a ∧ size a ≤ 1048576 := by
  obtain ⟨n, hn⟩ := h
  rw [h1] at hn
  obtain ⟨a, h2, h3, h4⟩ := hd n _ _ hn rfl (List.all_eq_true.2 fun k hk => List.all_eq_true.1 hw k (DataW.weights_mem_each ht hdj k hk))
  have hb : Rows.uptoBulkAll ds ≤ 1048576 := of_decide_eq_true hk
  have := zLk (List.mem_of_getElem? hdj)
  have h5 : size a ≤ Rows.uptoBulk d := h4
  exact ⟨a, h2, h3, by omega⟩
end
end Go.Proofs.YtbogecljkaimdaaGreatDoor
namespace Go.Proofs.YtbogecljkaimdaaGreatDoor
open Go.Sl Go.ChangeShapes Go.WideShapes Go.ChangeAt Go.RowKit
section
variable {H : Type} {enc : TypeId × Value → H} {P : Program} {w : World} {t e : TypeId} {s : Nat} {α : Type} {lay : α → List Value} {good : α → Prop} {size : α → Nat}
theorem DecB.imp {good' : α → Prop} {size' : α → Nat} (h : DecB enc P w e s lay good size) (k : ∀ a, good a → good' a) (k2 : ∀ a, size' a ≤ size a) : DecB enc P w e s lay good' size' := fun n cs x h1 h2 h3 => by
  obtain ⟨a, h4, h5, h6⟩ := h n cs x h1 h2 h3
  exact ⟨a, h4, k a h5, Nat.le_trans (k2 a) h6⟩
theorem zHg (ht : P.underlying t = some .string) : DecB enc P w t 1 (fun b => [str b]) (fun _ => True) (fun b => b.length) := fun n cs x h _ _ => by
  obtain ⟨z, h1, h2, _⟩ := DataW.trod_string ht h
  refine ⟨z.data.toList, by rw [h1], trivial, ?_⟩
  rw [h2]
  simp [Rows.uptoBulk]
theorem zFi {fs : Array Field} (i off : Nat) {ft : TypeId} (ht : P.underlying t = some (.struct fs)) {n : Nat} {cs : List Value} {x : DataW H × List MemPlace} (h : DataW.trod enc P w 0 (fun _ => true) true n t cs = some x) (hw : (x.1.weights P t).all (· ≤ reachBytes) = true)
    (hf : (fs[i]?).map (fun f => (f.type, f.offset)) = some (ft, off)) (hc : P.cellsOf ft = s) (hd : DecB enc P w ft s lay good size) (hs : off + s ≤ cs.length) : ∃ a, (cs.drop off).take s = lay a ∧ good a ∧ size a + 1 ≤ Rows.uptoBulk x.1 := by
  rw [Option.map_eq_some_iff] at hf
  obtain ⟨f, h1, h2⟩ := hf
  cases h2
  obtain ⟨xs, m, rfl, rfl, hl, hxs, hx⟩ := DataW.trod_struct ht h
  have hi : i < fs.size := (Array.getElem?_eq_some_iff.1 h1).1
  have h3 := hx i f h1
  rw [List.getElem?_eq_getElem (by omega)] at h3
  have hsl : ((cs.drop f.offset).take (P.cellsOf f.type)).length = s := by rw [hc, List.length_take, List.length_drop]; omega
  obtain ⟨a, h4, h5, h6⟩ := hd _ _ _ h3 hsl (List.all_eq_true.2 fun k hk => by
    simp only [DataW.weights, ht] at hw
    exact List.all_eq_true.1 hw k (DataW.weights_mem_each (j := i) (by simpa using ⟨f, h1, rfl⟩) (by simp [List.getElem?_eq_getElem (show i < xs.length by omega)]) k hk))
  rw [hc] at h4
  refine ⟨a, h4, h5, ?_⟩
  have hp := zLk (H := H) (d := (xs[i]'(by omega)).1) (l := xs.map (·.1)) (List.mem_map.2 ⟨_, List.getElem_mem _, rfl⟩)
  simp only [Rows.uptoBulk]
  omega
theorem witness_row_zip {C : Checked} {os : Os} {f : FuncId} {fn : Func} {s : OpenSpec} {conds : List PathCond} {apart : Bool} {laid : List (String × DataW Unit)} (modest : Bool) (w0 : World) (args : Array Value) (hos : w0.os = os)
    (hsh : (w0.forCall (fun _ _ => 0) ⟨#[], args, []⟩).Shaped C.prog)
    (hok : Input.okWideB C.prog (w0.forCall (fun _ _ => 0) ⟨#[], args, []⟩) f ⟨#[], args, []⟩ = true)
    (hrow : s.preRow enc C.prog fn conds apart laid (w0.forCall (fun _ _ => 0) ⟨#[], args, []⟩).memory args) :
    ∃ (w : World) (tape : Tape) (i : Input), w.os = os ∧ (w.forCall tape i).Shaped C.prog ∧ i.vars = [] ∧ Input.okWide C.prog (w.forCall tape i) .any w.heap.size f i ∧
      s.preRow enc C.prog fn conds apart laid (w.forCall tape i).memory i.args ∧ ({ modest := modest } : Assume).holds C.prog (lone (Frame.enter C.prog f i.args .normal) [] (w.forCall tape i)) :=
  ⟨w0, fun _ _ => 0, ⟨#[], args, []⟩, hos, hsh, (Input.okWide_of_okWideB (base := 0) hok).1, (Input.okWide_of_okWideB hok).2, hrow, by
    simp only [Assume.holds]
    exact ⟨by simp, by simp, fun _ => Modest.zero, by simp, by simp⟩⟩
end
theorem ones_sum {α : Type} (l : List α) : (l.map fun _ => 1).sum = l.length := by
  induction l with
  | nil => rfl
  | cons a l ih => rw [List.map_cons, List.sum_cons, ih, List.length_cons, Nat.add_comm]
def recSz (r : Rec) : Nat := max r.name.length (max r.snap.length (max (r.props.map fun p => max p.name.length p.value.length + 1).sum (max r.keep.length r.data.length)))
theorem recSz_sml {r : Rec} (h : recSz r ≤ 1048576) : Sml r := by
  unfold recSz at h
  have h1 : (r.props.map fun p => max p.name.length p.value.length + 1).sum ≤ 1048576 := by omega
  have h2 := size_len (al := r.props) (size := fun p => max p.name.length p.value.length + 1) (fun _ => by omega)
  refine ⟨by omega, by omega, by omega, fun p hp => ?_, by omega, by omega⟩
  have h3 := size_mem (size := fun p : Prp => max p.name.length p.value.length + 1) hp
  omega
section
variable {H : Type} {enc : TypeId × Value → H} {w : World}
theorem decB_prop : DecB enc Tryz.prog w 70 2 Prp.lay (fun _ => True) (fun p => max p.name.length p.value.length + 1) := fun n cs x h hlen hw => by
  match cs, hlen with
  | [c0, c1], _ =>
  have ks : Tryz.prog.cellsOf 9 = 1 := by kernel_rfl
  have ht := Tryz.underlying70
  obtain ⟨a0, e0, -, s0⟩ := zFi 0 0 ht h hw rfl ks (zHg (enc := enc) Tryz.underlying9) (by simp)
  obtain ⟨a1, e1, -, s1⟩ := zFi 1 1 ht h hw rfl ks (zHg (enc := enc) Tryz.underlying9) (by simp)
  simp only [List.drop_succ_cons, List.drop_zero, List.take_succ_cons, List.take_zero, List.cons.injEq, and_true] at e0 e1
  subst e0 e1
  refine ⟨⟨a0, a1⟩, rfl, trivial, ?_⟩
  show max a0.length a1.length + 1 ≤ _
  omega
theorem decB_rec : DecB enc Tryz.prog w 26 13 RV.lay (fun x => RecR (old w) x.r x.pv x.kv x.dv) (fun x => recSz x.r + 1) := fun n cs x h hlen hw => by
  match cs, hlen with
  | [c0, c1, c2, c3, c4, c5, c6, c7, c8, c9, c10, c11, c12], _ =>
  have ki : Tryz.prog.cellsOf 3 = 1 := by kernel_rfl
  have ks : Tryz.prog.cellsOf 9 = 1 := by kernel_rfl
  have kp : Tryz.prog.cellsOf 22 = 1 := by kernel_rfl
  have kk : Tryz.prog.cellsOf 23 = 1 := by kernel_rfl
  have kb : Tryz.prog.cellsOf 24 = 1 := by kernel_rfl
  have ht := Tryz.underlying26
  obtain ⟨a0, e0, h0⟩ := zFn 0 0 ht h hw rfl ki (zHf (enc := enc) Tryz.underlying3) (by simp)
  obtain ⟨a1, e1, -, s1⟩ := zFi 1 1 ht h hw rfl ks (zHg (enc := enc) Tryz.underlying9) (by simp)
  obtain ⟨a2, e2, h2⟩ := zFn 2 2 ht h hw rfl ki (zHf (enc := enc) Tryz.underlying3) (by simp)
  obtain ⟨a3, e3, h3⟩ := zFn 3 3 ht h hw rfl ki (zHf (enc := enc) Tryz.underlying3) (by simp)
  obtain ⟨a4, e4, h4⟩ := zFn 4 4 ht h hw rfl ki (zHf (enc := enc) Tryz.underlying3) (by simp)
  obtain ⟨a5, e5, h5⟩ := zFn 5 5 ht h hw rfl ki (zHf (enc := enc) Tryz.underlying3) (by simp)
  obtain ⟨a6, e6, -, s6⟩ := zFi 6 6 ht h hw rfl ks (zHg (enc := enc) Tryz.underlying9) (by simp)
  obtain ⟨⟨v7, l7⟩, e7, g7, s7⟩ := zFi 7 7 ht h hw rfl kp (decB_slice (enc := enc) (s := 2) (sz := 32) Tryz.underlying22 (by kernel_rfl) (by decide) (by kernel_rfl) decB_prop (fun p _ u hu => by simp only [Prp.lay, List.mem_cons, List.not_mem_nil, or_false] at hu; rcases hu with rfl | rfl <;> rfl)) (by simp)
  obtain ⟨a8, e8, h8⟩ := zFn 8 8 ht h hw rfl ki (zHf (enc := enc) Tryz.underlying3) (by simp)
  obtain ⟨a9, e9, h9⟩ := zFn 9 9 ht h hw rfl ki (zHf (enc := enc) Tryz.underlying3) (by simp)
  obtain ⟨a10, e10, h10⟩ := zFn 10 10 ht h hw rfl ki (zHf (enc := enc) Tryz.underlying3) (by simp)
  obtain ⟨⟨v11, l11⟩, e11, g11, s11⟩ := zFi 11 11 ht h hw rfl kk (decB_slice (enc := enc) (s := 1) (sz := 8) Tryz.underlying23 (by kernel_rfl) (by decide) (by kernel_rfl) (dec_one (zHf Tryz.underlying3)) (fun _ _ u hu => by rw [List.mem_singleton.1 hu]; rfl)) (by simp)
  obtain ⟨⟨v12, l12⟩, e12, g12, s12⟩ := zFi 12 12 ht h hw rfl kb (decB_slice (enc := enc) (s := 1) (sz := 1) Tryz.underlying24 (by kernel_rfl) (by decide) (by kernel_rfl) (dec_one (dec_u8 Tryz.underlying5)) (fun _ _ u hu => by rw [List.mem_singleton.1 hu]; rfl)) (by simp)
  simp only [List.drop_succ_cons, List.drop_zero, List.take_succ_cons, List.take_zero, List.cons.injEq, and_true] at e0 e1 e2 e3 e4 e5 e6 e7 e8 e9 e10 e11 e12
  subst e0 e1 e2 e3 e4 e5 e6 e7 e8 e9 e10 e11 e12
  obtain ⟨_, _, -, -, -, r7, -⟩ := g7
  obtain ⟨_, _, -, -, -, r11, -⟩ := g11
  obtain ⟨_, _, -, -, -, r12, -⟩ := g12
  simp only at r7 r11 r12 s7 s11 s12
  have f11 : ∀ l : List Int, (l.flatMap fun z => [Value.int .i64 z]) = ints l := fun l => by
    induction l with
    | nil => rfl
    | cons a l ih => rw [List.flatMap_cons, ih]; rfl
  rw [f11] at r11
  rw [flat_byt] at r12
  have o11 : (l11.map fun _ => 1).sum = l11.length := ones_sum _
  have o12 : (l12.map fun _ => 1).sum = l12.length := ones_sum _
  refine ⟨⟨⟨a0, a1, a2, a3, a4, a5, a6, l7, a8, a9, a10, l11, l12⟩, c7, c11, c12⟩, rfl, ⟨r7, r11, r12⟩, ?_⟩
  simp only [recSz]
  omega
theorem rv_one {W : World} (x : RV) (h : RecR (old W) x.r x.pv x.kv x.dv) : ∀ u ∈ x.lay, u.oneCell' = true := fun u hu => rvs_one (X := old W) (l := [x]) (fun y hy => by rw [List.mem_singleton.1 hy]; exact h) u (by simpa using hu)
end
theorem laid4 {W : World} (h : laidMetH Tryz.prog [("undercroft/undercroftref02.first", Rows.laid_undercroft_undercroftref02_first), ("undercroft/undercroftref02.rounds", Rows.laid_undercroft_undercroftref02_rounds), ("unicode/utf8.acceptRanges", Rows.laid_unicode_utf8_acceptRanges), ("undercroft/sum.rounds", Rows.laid_undercroft_sum_rounds), ("unicode/utf8.first", Rows.laid_unicode_utf8_first)] W) : Lay4 [old W] := by
  rw [MakeChecks.laidMetH_plain _ _ _ (by kernel_rfl)] at h
  obtain ⟨ps, ⟨g0, t0, cs0, f0, p0, q0, hg0, ht0, hv0, hd0, ⟨g1, t1, cs1, f1, p1, q1, hg1, ht1, hv1, hd1, ⟨gx, tx, csx, fx, px, qx, hgx, htx, hvx, hdx, ⟨g2, t2, cs2, f2, p2, q2, hg2, ht2, hv2, hd2, _, _⟩, _⟩, _⟩, _⟩, _, _⟩ := h
  have a0 : Tryz.prog.globalNamed "undercroft/undercroftref02.first" = some 0 := by kernel_rfl
  have a1 : Tryz.prog.globalNamed "undercroft/undercroftref02.rounds" = some 1 := by kernel_rfl
  have a2 : Tryz.prog.globalNamed "undercroft/sum.rounds" = some 2 := by kernel_rfl
  obtain rfl := Option.some.inj (a0.symm.trans hg0)
  obtain rfl := Option.some.inj (a1.symm.trans hg1)
  obtain rfl := Option.some.inj (a2.symm.trans hg2)
  obtain rfl := Option.some.inj ((show (Tryz.prog.globals[(0 : Nat)]?).map (·.type) = some 122 by kernel_rfl).symm.trans ht0)
  obtain rfl := Option.some.inj ((show (Tryz.prog.globals[(1 : Nat)]?).map (·.type) = some 127 by kernel_rfl).symm.trans ht1)
  obtain rfl := Option.some.inj ((show (Tryz.prog.globals[(2 : Nat)]?).map (·.type) = some 127 by kernel_rfl).symm.trans ht2)
  exact ⟨zJe shaK a2 Tryz.underlying127 Tryz.underlying121 (by kernel_rfl) (by kernel_rfl) (by kernel_rfl) hv2 hd2,
    zJe sha0.l a0 Tryz.underlying122 Tryz.underlying121 (by kernel_rfl) (by kernel_rfl) (by kernel_rfl) hv0 hd0,
    zJe shaK a1 Tryz.underlying127 Tryz.underlying121 (by kernel_rfl) (by kernel_rfl) (by kernel_rfl) hv1 hd1⟩
theorem recs_old {W : World} {X : Value × List RV} (g : OldS W 13 168 RV.lay (fun x => RecR (old W) x.r x.pv x.kv x.dv) X) (s : (X.2.map fun x => recSz x.r + 1).sum + 1 ≤ 1048576) :
    Rd (old W) 13 X.1 X.2.length (X.2.flatMap RV.lay) ∧ RVs (old W) X.2 ∧ (∀ x ∈ X.2, Sml x.r) ∧ X.2.length ≤ 1048576 := by
  obtain ⟨v, l⟩ := X
  obtain ⟨ad, c, h1, h2, h3, h4, h5⟩ := g
  simp only at s
  have h6 := size_len (al := l) (size := fun x : RV => recSz x.r + 1) (fun _ => by omega)
  refine ⟨h4, h5, fun x hx => recSz_sml ?_, by simp only; omega⟩
  have hx : x ∈ l := hx
  have := size_mem (size := fun x : RV => recSz x.r + 1) hx
  omega
theorem bytes_old {W : World} {X : Value × List UInt8} (g : OldS W 1 1 (fun b : UInt8 => [.int .u8 b.toNat]) (fun _ => True) X) (s : (X.2.map fun _ => 1).sum + 1 ≤ 1048576) :
    ∃ ad c, X.1 = .slice ad X.2.length c ∧ Rd (old W) 1 (.slice ad X.2.length c) X.2.length (byt X.2) ∧ X.2.length ≤ c ∧ X.2.length ≤ 1048576 := by
  obtain ⟨v, l⟩ := X
  obtain ⟨ad, c, h1, h2, h3, h4, h5⟩ := g
  simp only at h1 h2 h4 s
  subst h1
  rw [ones_sum] at s
  rw [flat_byt] at h4
  exact ⟨ad, c, rfl, h4, h2, by show l.length ≤ _; omega⟩
theorem streams_upto (W : World) (hL : laidMetH Tryz.prog Rows.recordStreamsUptoRow.laid W) (X : Value × List RV) (g : OldS W 13 168 RV.lay (fun x => RecR (old W) x.r x.pv x.kv x.dv) X) (s : (X.2.map fun x => recSz x.r + 1).sum + 1 ≤ 1048576)
    (Y : Value × List UInt8) (gy : OldS W 1 1 (fun b : UInt8 => [.int .u8 b.toNat]) (fun _ => True) Y) (sy : (Y.2.map fun _ => 1).sum + 1 ≤ 1048576) :
    Ret Tryz.prog 7 #[X.1, Y.1] W fun u w' => u = .bool true ∧ Trs W w' [old W] [old W] := by
  obtain ⟨h1, h2, h3, h4⟩ := recs_old g s
  obtain ⟨ad, c, k1, k2, k3, k4⟩ := bytes_old gy sy
  rw [k1]
  exact streams_walk (old W) (laid4 hL) X.1 X.2 h1 h2 h3 h4 ad c Y.2 k2 k3 W (hp_old W)
end Go.Proofs.YtbogecljkaimdaaGreatDoor
