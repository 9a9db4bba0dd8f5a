/-
  Texts put together (17).
-/
import Derived.Test.YtbogecljkaimdaaGreatDoorZRecordChain16
namespace Go.Proofs.YtbogecljkaimdaaGreatDoor
open Go.Sl
set_option maxRecDepth 10000
theorem decR_ok (b : List UInt8) (s : Fs) : (decR b s).2.2.2.Ok := by
  rcases dec_inv b s with ⟨_, h1⟩ | ⟨r, n, o, h1, h2⟩
  · rw [h1]; exact zero_ok
  · rw [h1]; simp only; rw [h2.o_]; exact shaF_ok _
set_option maxHeartbeats 1000000 in
theorem urecords_ret (D : zAy) (ad : Option Addr) (c : Nat) (b : List UInt8) (hD : Rd D 1 (.slice ad b.length c) b.length (byt b)) (hcap : b.length ≤ c) {As : List zAy} (mD : D ∈ As) (hG0 : Tab As 0 sha0.l) (hG1 : Tab As 1 shaK) (w0 : World) (H : Hp w0 As) :
    Ret Tryz.prog 21 #[.slice ad b.length c] w0 fun u w' => ∃ v' C X l, u = .tuple #[v', .int .i64 (zHd b).1] ∧ Buf C 26 13 v' l.length (l.flatMap RV.lay) ∧ RVs X l ∧ l.map RV.r = (zHd b).2 ∧ Trs w0 w' As (C :: X :: As) := by
  have S := St.begin H
  refine zCz 41 Tryz.func21 rfl rfl (by decide) ?_; intro a E
  refine wp_seq_k ?_; intro K hK
  refine zAb ?_
  iterate 2 (refine zp E (zAd E rfl rfl) ?_; clear E a; intro a E)
  refine wpList_nil ?_
  refine zAf hK ?_; clear hK; clear K
  iterate 2 (refine wp_seq_k ?_; intro K hK)
  refine zAb ?_
  refine zp E (zAe E rfl rfl) ?_; clear E a; intro a E
  refine zp E (by first | exact zBx E rfl rfl rfl | exact zAw E rfl rfl rfl | exact zAq E rfl rfl rfl) ?_; clear E a; intro a E
  refine zp E (zDm E rfl rfl rfl) ?_; clear E a; intro a E
  refine wpList_nil ?_
  refine zAf hK ?_; clear hK; clear K
  refine zBf E rfl (fun hb => ?_) (fun hb => ?_)
  · replace hb := Nrm.nrm hb
    refine wp_seq_k ?_; intro K hK
    refine zAb ?_
    iterate 2 (refine zp E (zAd E rfl rfl) ?_; clear E a; intro a E)
    refine wpList_nil ?_
    refine zAf hK ?_; clear hK; clear K
    refine wp_ret ?_
    refine zAv ?_; clear hK; clear K
    refine ret2 E rfl rfl rfl ?_
    refine ⟨_, rfl, nilv, [], [], [], ?_, Buf.nil _ _, (fun x hx => by cases hx), ?_, S.addNil.addNil.tr⟩
    · rw [zHd, if_pos (by omega)]
    · rw [zHd, if_pos (by omega)]; rfl
  · replace hb := Nrm.nrm hb
    refine wp_skip ?_
    refine zAf hK ?_; clear hK; clear K
    refine wp_seq_k ?_; intro K hK
    have hbl : b.length ≤ 1048576 := by omega
    have hr0 : zHd b = recG b zEr [] := by rw [zHd, if_neg (by omega)]
    refine zAb ?_
    refine zp E (zAd E rfl rfl) ?_; clear E a; intro a E
    refine wpList_nil ?_
    refine zAf hK ?_; clear hK; clear K
    refine wp_seq_k ?_; intro K hK
    refine zAb ?_
    refine zp E (zCh (cells := [_, _, _, _]) E rfl rfl rfl) ?_; clear E a; intro a E
    refine zAn rfl (zBs E S rfl rfl (by decide) rfl rfl rfl ?_); clear E S a; intro a w b5 E S
    refine zAn rfl (zAz E S rfl rfl rfl rfl (by simp [Value.oneCell']) rfl (by repeat (first | exact pk1 | apply zAc)) (by simp) ?_); clear E S a; intro a w E S; simp only [List.take_succ_cons, List.take_zero, List.drop_succ_cons, List.drop_zero, List.cons_append, List.nil_append, List.append_nil, List.length_cons, List.length_nil, Nat.zero_add, Nat.add_zero] at S
    refine wpList_nil ?_
    refine zAf hK ?_; clear hK; clear K
    refine wp_seq_k ?_; intro K hK
    refine zAb ?_
    refine zp E (zAd E rfl rfl) ?_; clear E a; intro a E
    refine wpList_nil ?_
    refine zAf hK ?_; clear hK; clear K
    refine wp_seq_k ?_; intro K hK
    refine wp_block ?_
    refine wp_loop_ghost (fun (m : Nat) (a : Act) (w' : World) => ∃ (q : Nat) (s : Fs) (l : List RV) (C X : zAy) (v' : Value), m = b.length - q ∧ q ≤ b.length ∧ s.Ok ∧ l.length ≤ q ∧ zHd b = recG (b.drop q) s (l.map RV.r) ∧ Buf C 26 13 v' l.length (l.flatMap RV.lay) ∧ RVs X l ∧ St w0 As w' (C :: X :: [(b5, cel (fsC s) 29)] :: As) ∧ Fr a 41 [(0, .slice ad b.length c), (2, nilv), (3, .int .i64 0), (4, v'), (5, ptr b5), (6, .int .i64 q)]) (b.length) ?_ ?_
    · exact ⟨0, zEr, [], [], [], _, rfl, by omega, zero_ok, by simp, by rw [List.drop_zero]; exact hr0, Buf.nil _ _, (fun x hx => by cases hx), S.addNil.addNil, E.keep (zAa rfl (zAa rfl (zAa rfl (zAa rfl (zAa rfl (zAa rfl zAm))))))⟩
    clear E; clear a; (try clear S); rintro m a w ⟨q, s, l, C, X, v', rfl, hq, hso, hll, hrec, hB, hX, S, E⟩
    iterate 2 (refine wp_seq_k ?_; intro K hK)
    refine zAb ?_
    iterate 2 (refine zp E (zAe E rfl rfl) ?_; clear E a; intro a E)
    refine zp E (by first | exact zBx E rfl rfl rfl | exact zAw E rfl rfl rfl | exact zAq E rfl rfl rfl) ?_; clear E a; intro a E
    refine zp E (zCj E rfl rfl rfl) ?_; clear E a; intro a E
    refine wpList_nil ?_
    refine zAf hK ?_; clear hK; clear K
    refine zBf E rfl (fun hb => ?_) (fun hb => ?_)
    · replace hb := Nrm.nrm hb
      refine wp_skip ?_
      refine zAf hK ?_; clear hK; clear K
      refine wp_block ?_
      refine wp_seq_k ?_; intro K hK
      obtain ⟨b', hb'⟩ : ∃ b', b' = b.drop q := ⟨_, rfl⟩
      have hbl' : b'.length = b.length - q := by rw [hb', List.length_drop]
      have hne : b' ≠ [] := by rintro rfl; simp at hbl'; omega
      obtain ⟨ad', hs2, hD', hc'⟩ := sl_cut (n := q) hD hcap hq
      rw [← hb'] at hs2 hD' hc' hrec
      have hsm := dec_sml b' s
      have hok' := decR_ok b' s
      obtain ⟨x, hx⟩ : ∃ x, x = decR b' s := ⟨_, rfl⟩
      have hok : x.1 = 0 → DecOk b' s x.2.1 x.2.2.1 x.2.2.2 := fun h => by rw [hx] at h ⊢; exact dec_ok h
      have herr := zJv (s := s) (l.map RV.r) hne
      have hgo := recG_ok (s := s) (l.map RV.r) hne
      rw [← hx] at hsm herr hgo hok'
      obtain ⟨e, r, n, o⟩ := x
      simp only at hsm hok herr hgo hok'
      refine zDq (fun (a : Act) (w' : World) => ∃ b7 b9 Y a1 c1 a2 c2 a3 c3, RecR Y r (.slice a1 r.props.length c1) (.slice a2 r.keep.length c2) (.slice a3 r.data.length c3) ∧ St w0 As w' (Y :: [(b7, cel (r.cells (.slice a1 r.props.length c1) (.slice a2 r.keep.length c2) (.slice a3 r.data.length c3)) 26)] :: [(b9, cel (fsC o) 29)] :: C :: X :: [(b5, cel (fsC s) 29)] :: As) ∧ Fr a 41 [(0, .slice ad b.length c), (2, nilv), (3, .int .i64 0), (4, v'), (5, ptr b5), (6, .int .i64 q), (7, ptr b7), (8, .int .i64 n), (9, ptr b9), (10, .int .i64 e)]) ?_ ?_
      · skip
        refine zDb S (.cons (0, 0) (.cons (1, 0) (.cons (2, 0) (.cons (3, 0) (.fork3 4 (.cons (5, 0) (.cons (6, 0) (.cons (7, 0) (.cons (8, 0) (.cons (9, 2) (.fork 10 (.ofL [(11, 1), (12, 1), (13, 0), (14, 3), (15, 2)]) 11 (.ofL [(10, 1), (12, 1), (13, 0), (14, 3), (15, 2)]))))))) 10 (.fork 4 (.ofL [(5, 0), (6, 0), (7, 0), (8, 0), (9, 2), (11, 1), (12, 1), (13, 0), (14, 3), (15, 2)]) 11 (.ofL [(4, 1), (5, 0), (6, 0), (7, 0), (8, 0), (9, 2), (12, 1), (13, 0), (14, 3), (15, 2)])) 11 (.fork 4 (.ofL [(5, 0), (6, 0), (7, 0), (8, 0), (9, 2), (10, 1), (12, 1), (13, 0), (14, 3), (15, 2)]) 10 (.ofL [(4, 1), (5, 0), (6, 0), (7, 0), (8, 0), (9, 2), (12, 1), (13, 0), (14, 3), (15, 2)]))))))) [[(b5, cel (fsC s) 29)]] (fun h => h.sub (by first | (simp; done) | (simp +contextual; done) | (simp [*]; done))) (by kernel_rfl) (by kernel_rfl) ?_
        clear S; intro w S
        iterate 2 (refine zm E rfl (fun w h => zAe E rfl rfl) ?_; clear E a; intro a E)
        refine zm E rfl (fun w h => zIw (s := 1) E rfl rfl rfl rfl rfl rfl (by omega)) ?_; clear E a; intro a E
        rw [hs2] at E
        refine zm E rfl (fun w h => zBq (vs := [_, _, _, _]) E rfl rfl rfl (h.one (by repeat (first | exact mm1 | assumption | apply List.Mem.tail))) rfl rfl) ?_; clear E a; intro a E
        refine ⟨?_, ?_, ?_⟩
        · skip
          refine zCc E rfl rfl rfl (by decide) rfl Tryz.func38 rfl (by kernel_rfl) rfl (zGh D ad' (c - q) b' hD' hc' (by omega) s hso (by repeat (first | exact mD | apply List.Mem.tail)) (by repeat (first | exact hG0 | apply Tab.tail)) (by repeat (first | exact hG1 | apply Tab.tail)) _ S.hp) ?_
          rintro v24 w ⟨Y, pv, kv, dv, he, hY, hT⟩; clear E a; intro a E
          rw [← hx] at he hY; simp only [Rec.cells] at he hY; subst he; have S := S.all hT
          obtain ⟨a1, c1, rfl⟩ := hY.rd.pr.slice
          obtain ⟨a2, c2, rfl⟩ := hY.rd.kr.slice
          obtain ⟨a3, c3, rfl⟩ := hY.rd.dr.slice
          have hYR := hY.rd
          clear hY
          refine ⟨S.stab.sub (by first | (simp; done) | (simp +contextual; done) | (simp [*]; done)), ?_⟩
          refine zm E rfl (fun w h => zAe E rfl rfl) ?_; clear E a; intro a E
          iterate 3 (refine zm E rfl (fun w h => zBp E rfl rfl rfl) ?_; clear E a; intro a E)
          refine zCg E rfl rfl rfl (by decide) (fun w => zBp E rfl rfl rfl) ?_; clear E a; intro a E
          refine ⟨?_, ?_⟩
          · skip
            refine zCq rfl rfl (zBs E S rfl rfl (by decide) rfl rfl rfl ?_); clear E S a; intro a w b7 E S; refine ⟨S.stab.sub (by first | (simp; done) | (simp +contextual; done) | (simp [*]; done)), ?_⟩
            refine zCq rfl rfl (zBs E S rfl rfl (by decide) rfl rfl rfl ?_); clear E S a; intro a w b9 E S; refine ⟨S.stab.sub (by first | (simp; done) | (simp +contextual; done) | (simp [*]; done)), ?_⟩
            refine zCq rfl rfl (zAz E S rfl rfl rfl rfl (by simp [Value.oneCell']) rfl (by repeat (first | exact pk1 | apply zAc)) (by simp) ?_); clear E S a; intro a w E S; simp only [List.take_succ_cons, List.take_zero, List.drop_succ_cons, List.drop_zero, List.cons_append, List.nil_append, List.append_nil, List.length_cons, List.length_nil, Nat.zero_add, Nat.add_zero] at S; refine ⟨S.stab.sub (by first | (simp; done) | (simp +contextual; done) | (simp [*]; done)), ?_⟩
            refine zm E rfl (fun w h => zAd E rfl rfl) ?_; clear E a; intro a E
            refine zCm rfl rfl (zAz E S rfl rfl rfl rfl (by simp [Value.oneCell']) rfl (by repeat (first | exact pk1 | apply zAc)) (by simp) ?_); clear E S a; intro a w E S; simp only [List.take_succ_cons, List.take_zero, List.drop_succ_cons, List.drop_zero, List.cons_append, List.nil_append, List.append_nil, List.length_cons, List.length_nil, Nat.zero_add, Nat.add_zero] at S
            refine zCg E rfl rfl rfl (by decide) (fun w => zAd E rfl rfl) ?_; clear E a; intro a E
            refine zBw ?_
            refine zAt ?_
            exact ⟨b7, b9, Y, a1, c1, a2, c2, a3, c3, hYR, S.front6 (A := Y) (B := [(b7, _)]) (C := [(b9, _)]) (D := C) (F := X) (G := [(b5, _)]) (by repeat (first | exact pk1 | apply zAc)) (by repeat (first | exact pk1 | apply zAc)) (by repeat (first | exact pk1 | apply zAc)) (by repeat (first | exact pk1 | apply zAc)) (by repeat (first | exact pk1 | apply zAc)) (by repeat (first | exact pk1 | apply zAc)), E.keep (zAa rfl (zAa rfl (zAa rfl (zAa rfl (zAa rfl (zAa rfl (zAa rfl (zAa rfl (zAa rfl (zAa rfl zAm))))))))))⟩
          · skip
            refine zCq rfl rfl (zBs E S rfl rfl (by decide) rfl rfl rfl ?_); clear E S a; intro a w b9 E S; refine ⟨S.stab.sub (by first | (simp; done) | (simp +contextual; done) | (simp [*]; done)), ?_⟩
            refine zCq rfl rfl (zBs E S rfl rfl (by decide) rfl rfl rfl ?_); clear E S a; intro a w b7 E S; refine ⟨S.stab.sub (by first | (simp; done) | (simp +contextual; done) | (simp [*]; done)), ?_⟩
            refine zCq rfl rfl (zAz E S rfl rfl rfl rfl (by simp [Value.oneCell']) rfl (by repeat (first | exact pk1 | apply zAc)) (by simp) ?_); clear E S a; intro a w E S; simp only [List.take_succ_cons, List.take_zero, List.drop_succ_cons, List.drop_zero, List.cons_append, List.nil_append, List.append_nil, List.length_cons, List.length_nil, Nat.zero_add, Nat.add_zero] at S; refine ⟨S.stab.sub (by first | (simp; done) | (simp +contextual; done) | (simp [*]; done)), ?_⟩
            refine zm E rfl (fun w h => zAd E rfl rfl) ?_; clear E a; intro a E
            refine zCm rfl rfl (zAz E S rfl rfl rfl rfl (by simp [Value.oneCell']) rfl (by repeat (first | exact pk1 | apply zAc)) (by simp) ?_); clear E S a; intro a w E S; simp only [List.take_succ_cons, List.take_zero, List.drop_succ_cons, List.drop_zero, List.cons_append, List.nil_append, List.append_nil, List.length_cons, List.length_nil, Nat.zero_add, Nat.add_zero] at S
            refine zCg E rfl rfl rfl (by decide) (fun w => zAd E rfl rfl) ?_; clear E a; intro a E
            refine zBw ?_
            refine zAt ?_
            exact ⟨b7, b9, Y, a1, c1, a2, c2, a3, c3, hYR, S.front6 (A := Y) (B := [(b7, _)]) (C := [(b9, _)]) (D := C) (F := X) (G := [(b5, _)]) (by repeat (first | exact pk1 | apply zAc)) (by repeat (first | exact pk1 | apply zAc)) (by repeat (first | exact pk1 | apply zAc)) (by repeat (first | exact pk1 | apply zAc)) (by repeat (first | exact pk1 | apply zAc)) (by repeat (first | exact pk1 | apply zAc)), E.keep (zAa rfl (zAa rfl (zAa rfl (zAa rfl (zAa rfl (zAa rfl (zAa rfl (zAa rfl (zAa rfl (zAa rfl zAm))))))))))⟩
        · skip
          refine zCq rfl rfl (zBs E S rfl rfl (by decide) rfl rfl rfl ?_); clear E S a; intro a w b7 E S; refine ⟨S.stab.sub (by first | (simp; done) | (simp +contextual; done) | (simp [*]; done)), ?_⟩
          refine ⟨?_, ?_⟩
          · skip
            refine zCc E rfl rfl rfl (by decide) rfl Tryz.func38 rfl (by kernel_rfl) rfl (zGh D ad' (c - q) b' hD' hc' (by omega) s hso (by repeat (first | exact mD | apply List.Mem.tail)) (by repeat (first | exact hG0 | apply Tab.tail)) (by repeat (first | exact hG1 | apply Tab.tail)) _ S.hp) ?_
            rintro v24 w ⟨Y, pv, kv, dv, he, hY, hT⟩; clear E a; intro a E
            rw [← hx] at he hY; simp only [Rec.cells] at he hY; subst he; have S := S.all hT
            obtain ⟨a1, c1, rfl⟩ := hY.rd.pr.slice
            obtain ⟨a2, c2, rfl⟩ := hY.rd.kr.slice
            obtain ⟨a3, c3, rfl⟩ := hY.rd.dr.slice
            have hYR := hY.rd
            clear hY
            refine ⟨S.stab.sub (by first | (simp; done) | (simp +contextual; done) | (simp [*]; done)), ?_⟩
            refine zm E rfl (fun w h => zAe E rfl rfl) ?_; clear E a; intro a E
            iterate 3 (refine zm E rfl (fun w h => zBp E rfl rfl rfl) ?_; clear E a; intro a E)
            refine zCg E rfl rfl rfl (by decide) (fun w => zBp E rfl rfl rfl) ?_; clear E a; intro a E
            refine zCq rfl rfl (zBs E S rfl rfl (by decide) rfl rfl rfl ?_); clear E S a; intro a w b9 E S; refine ⟨S.stab.sub (by first | (simp; done) | (simp +contextual; done) | (simp [*]; done)), ?_⟩
            refine zCq rfl rfl (zAz E S rfl rfl rfl rfl (by simp [Value.oneCell']) rfl (by repeat (first | exact pk1 | apply zAc)) (by simp) ?_); clear E S a; intro a w E S; simp only [List.take_succ_cons, List.take_zero, List.drop_succ_cons, List.drop_zero, List.cons_append, List.nil_append, List.append_nil, List.length_cons, List.length_nil, Nat.zero_add, Nat.add_zero] at S; refine ⟨S.stab.sub (by first | (simp; done) | (simp +contextual; done) | (simp [*]; done)), ?_⟩
            refine zm E rfl (fun w h => zAd E rfl rfl) ?_; clear E a; intro a E
            refine zCm rfl rfl (zAz E S rfl rfl rfl rfl (by simp [Value.oneCell']) rfl (by repeat (first | exact pk1 | apply zAc)) (by simp) ?_); clear E S a; intro a w E S; simp only [List.take_succ_cons, List.take_zero, List.drop_succ_cons, List.drop_zero, List.cons_append, List.nil_append, List.append_nil, List.length_cons, List.length_nil, Nat.zero_add, Nat.add_zero] at S
            refine zCg E rfl rfl rfl (by decide) (fun w => zAd E rfl rfl) ?_; clear E a; intro a E
            refine zBw ?_
            refine zAt ?_
            exact ⟨b7, b9, Y, a1, c1, a2, c2, a3, c3, hYR, S.front6 (A := Y) (B := [(b7, _)]) (C := [(b9, _)]) (D := C) (F := X) (G := [(b5, _)]) (by repeat (first | exact pk1 | apply zAc)) (by repeat (first | exact pk1 | apply zAc)) (by repeat (first | exact pk1 | apply zAc)) (by repeat (first | exact pk1 | apply zAc)) (by repeat (first | exact pk1 | apply zAc)) (by repeat (first | exact pk1 | apply zAc)), E.keep (zAa rfl (zAa rfl (zAa rfl (zAa rfl (zAa rfl (zAa rfl (zAa rfl (zAa rfl (zAa rfl (zAa rfl zAm))))))))))⟩
          · skip
            refine zCq rfl rfl (zBs E S rfl rfl (by decide) rfl rfl rfl ?_); clear E S a; intro a w b9 E S; refine ⟨S.stab.sub (by first | (simp; done) | (simp +contextual; done) | (simp [*]; done)), ?_⟩
            refine zCc E rfl rfl rfl (by decide) rfl Tryz.func38 rfl (by kernel_rfl) rfl (zGh D ad' (c - q) b' hD' hc' (by omega) s hso (by repeat (first | exact mD | apply List.Mem.tail)) (by repeat (first | exact hG0 | apply Tab.tail)) (by repeat (first | exact hG1 | apply Tab.tail)) _ S.hp) ?_
            rintro v24 w ⟨Y, pv, kv, dv, he, hY, hT⟩; clear E a; intro a E
            rw [← hx] at he hY; simp only [Rec.cells] at he hY; subst he; have S := S.all hT
            obtain ⟨a1, c1, rfl⟩ := hY.rd.pr.slice
            obtain ⟨a2, c2, rfl⟩ := hY.rd.kr.slice
            obtain ⟨a3, c3, rfl⟩ := hY.rd.dr.slice
            have hYR := hY.rd
            clear hY
            refine ⟨S.stab.sub (by first | (simp; done) | (simp +contextual; done) | (simp [*]; done)), ?_⟩
            refine zm E rfl (fun w h => zAe E rfl rfl) ?_; clear E a; intro a E
            iterate 3 (refine zm E rfl (fun w h => zBp E rfl rfl rfl) ?_; clear E a; intro a E)
            refine zCg E rfl rfl rfl (by decide) (fun w => zBp E rfl rfl rfl) ?_; clear E a; intro a E
            refine zCq rfl rfl (zAz E S rfl rfl rfl rfl (by simp [Value.oneCell']) rfl (by repeat (first | exact pk1 | apply zAc)) (by simp) ?_); clear E S a; intro a w E S; simp only [List.take_succ_cons, List.take_zero, List.drop_succ_cons, List.drop_zero, List.cons_append, List.nil_append, List.append_nil, List.length_cons, List.length_nil, Nat.zero_add, Nat.add_zero] at S; refine ⟨S.stab.sub (by first | (simp; done) | (simp +contextual; done) | (simp [*]; done)), ?_⟩
            refine zm E rfl (fun w h => zAd E rfl rfl) ?_; clear E a; intro a E
            refine zCm rfl rfl (zAz E S rfl rfl rfl rfl (by simp [Value.oneCell']) rfl (by repeat (first | exact pk1 | apply zAc)) (by simp) ?_); clear E S a; intro a w E S; simp only [List.take_succ_cons, List.take_zero, List.drop_succ_cons, List.drop_zero, List.cons_append, List.nil_append, List.append_nil, List.length_cons, List.length_nil, Nat.zero_add, Nat.add_zero] at S
            refine zCg E rfl rfl rfl (by decide) (fun w => zAd E rfl rfl) ?_; clear E a; intro a E
            refine zBw ?_
            refine zAt ?_
            exact ⟨b7, b9, Y, a1, c1, a2, c2, a3, c3, hYR, S.front6 (A := Y) (B := [(b7, _)]) (C := [(b9, _)]) (D := C) (F := X) (G := [(b5, _)]) (by repeat (first | exact pk1 | apply zAc)) (by repeat (first | exact pk1 | apply zAc)) (by repeat (first | exact pk1 | apply zAc)) (by repeat (first | exact pk1 | apply zAc)) (by repeat (first | exact pk1 | apply zAc)) (by repeat (first | exact pk1 | apply zAc)), E.keep (zAa rfl (zAa rfl (zAa rfl (zAa rfl (zAa rfl (zAa rfl (zAa rfl (zAa rfl (zAa rfl (zAa rfl zAm))))))))))⟩
        · skip
          refine zCq rfl rfl (zBs E S rfl rfl (by decide) rfl rfl rfl ?_); clear E S a; intro a w b9 E S; refine ⟨S.stab.sub (by first | (simp; done) | (simp +contextual; done) | (simp [*]; done)), ?_⟩
          refine ⟨?_, ?_⟩
          · skip
            refine zCc E rfl rfl rfl (by decide) rfl Tryz.func38 rfl (by kernel_rfl) rfl (zGh D ad' (c - q) b' hD' hc' (by omega) s hso (by repeat (first | exact mD | apply List.Mem.tail)) (by repeat (first | exact hG0 | apply Tab.tail)) (by repeat (first | exact hG1 | apply Tab.tail)) _ S.hp) ?_
            rintro v24 w ⟨Y, pv, kv, dv, he, hY, hT⟩; clear E a; intro a E
            rw [← hx] at he hY; simp only [Rec.cells] at he hY; subst he; have S := S.all hT
            obtain ⟨a1, c1, rfl⟩ := hY.rd.pr.slice
            obtain ⟨a2, c2, rfl⟩ := hY.rd.kr.slice
            obtain ⟨a3, c3, rfl⟩ := hY.rd.dr.slice
            have hYR := hY.rd
            clear hY
            refine ⟨S.stab.sub (by first | (simp; done) | (simp +contextual; done) | (simp [*]; done)), ?_⟩
            refine zm E rfl (fun w h => zAe E rfl rfl) ?_; clear E a; intro a E
            iterate 3 (refine zm E rfl (fun w h => zBp E rfl rfl rfl) ?_; clear E a; intro a E)
            refine zCg E rfl rfl rfl (by decide) (fun w => zBp E rfl rfl rfl) ?_; clear E a; intro a E
            refine zCq rfl rfl (zBs E S rfl rfl (by decide) rfl rfl rfl ?_); clear E S a; intro a w b7 E S; refine ⟨S.stab.sub (by first | (simp; done) | (simp +contextual; done) | (simp [*]; done)), ?_⟩
            refine zCq rfl rfl (zAz E S rfl rfl rfl rfl (by simp [Value.oneCell']) rfl (by repeat (first | exact pk1 | apply zAc)) (by simp) ?_); clear E S a; intro a w E S; simp only [List.take_succ_cons, List.take_zero, List.drop_succ_cons, List.drop_zero, List.cons_append, List.nil_append, List.append_nil, List.length_cons, List.length_nil, Nat.zero_add, Nat.add_zero] at S; refine ⟨S.stab.sub (by first | (simp; done) | (simp +contextual; done) | (simp [*]; done)), ?_⟩
            refine zm E rfl (fun w h => zAd E rfl rfl) ?_; clear E a; intro a E
            refine zCm rfl rfl (zAz E S rfl rfl rfl rfl (by simp [Value.oneCell']) rfl (by repeat (first | exact pk1 | apply zAc)) (by simp) ?_); clear E S a; intro a w E S; simp only [List.take_succ_cons, List.take_zero, List.drop_succ_cons, List.drop_zero, List.cons_append, List.nil_append, List.append_nil, List.length_cons, List.length_nil, Nat.zero_add, Nat.add_zero] at S
            refine zCg E rfl rfl rfl (by decide) (fun w => zAd E rfl rfl) ?_; clear E a; intro a E
            refine zBw ?_
            refine zAt ?_
            exact ⟨b7, b9, Y, a1, c1, a2, c2, a3, c3, hYR, S.front6 (A := Y) (B := [(b7, _)]) (C := [(b9, _)]) (D := C) (F := X) (G := [(b5, _)]) (by repeat (first | exact pk1 | apply zAc)) (by repeat (first | exact pk1 | apply zAc)) (by repeat (first | exact pk1 | apply zAc)) (by repeat (first | exact pk1 | apply zAc)) (by repeat (first | exact pk1 | apply zAc)) (by repeat (first | exact pk1 | apply zAc)), E.keep (zAa rfl (zAa rfl (zAa rfl (zAa rfl (zAa rfl (zAa rfl (zAa rfl (zAa rfl (zAa rfl (zAa rfl zAm))))))))))⟩
          · skip
            refine zCq rfl rfl (zBs E S rfl rfl (by decide) rfl rfl rfl ?_); clear E S a; intro a w b7 E S; refine ⟨S.stab.sub (by first | (simp; done) | (simp +contextual; done) | (simp [*]; done)), ?_⟩
            refine zCc E rfl rfl rfl (by decide) rfl Tryz.func38 rfl (by kernel_rfl) rfl (zGh D ad' (c - q) b' hD' hc' (by omega) s hso (by repeat (first | exact mD | apply List.Mem.tail)) (by repeat (first | exact hG0 | apply Tab.tail)) (by repeat (first | exact hG1 | apply Tab.tail)) _ S.hp) ?_
            rintro v24 w ⟨Y, pv, kv, dv, he, hY, hT⟩; clear E a; intro a E
            rw [← hx] at he hY; simp only [Rec.cells] at he hY; subst he; have S := S.all hT
            obtain ⟨a1, c1, rfl⟩ := hY.rd.pr.slice
            obtain ⟨a2, c2, rfl⟩ := hY.rd.kr.slice
            obtain ⟨a3, c3, rfl⟩ := hY.rd.dr.slice
            have hYR := hY.rd
            clear hY
            refine ⟨S.stab.sub (by first | (simp; done) | (simp +contextual; done) | (simp [*]; done)), ?_⟩
            refine zm E rfl (fun w h => zAe E rfl rfl) ?_; clear E a; intro a E
            iterate 3 (refine zm E rfl (fun w h => zBp E rfl rfl rfl) ?_; clear E a; intro a E)
            refine zCg E rfl rfl rfl (by decide) (fun w => zBp E rfl rfl rfl) ?_; clear E a; intro a E
            refine zCq rfl rfl (zAz E S rfl rfl rfl rfl (by simp [Value.oneCell']) rfl (by repeat (first | exact pk1 | apply zAc)) (by simp) ?_); clear E S a; intro a w E S; simp only [List.take_succ_cons, List.take_zero, List.drop_succ_cons, List.drop_zero, List.cons_append, List.nil_append, List.append_nil, List.length_cons, List.length_nil, Nat.zero_add, Nat.add_zero] at S; refine ⟨S.stab.sub (by first | (simp; done) | (simp +contextual; done) | (simp [*]; done)), ?_⟩
            refine zm E rfl (fun w h => zAd E rfl rfl) ?_; clear E a; intro a E
            refine zCm rfl rfl (zAz E S rfl rfl rfl rfl (by simp [Value.oneCell']) rfl (by repeat (first | exact pk1 | apply zAc)) (by simp) ?_); clear E S a; intro a w E S; simp only [List.take_succ_cons, List.take_zero, List.drop_succ_cons, List.drop_zero, List.cons_append, List.nil_append, List.append_nil, List.length_cons, List.length_nil, Nat.zero_add, Nat.add_zero] at S
            refine zCg E rfl rfl rfl (by decide) (fun w => zAd E rfl rfl) ?_; clear E a; intro a E
            refine zBw ?_
            refine zAt ?_
            exact ⟨b7, b9, Y, a1, c1, a2, c2, a3, c3, hYR, S.front6 (A := Y) (B := [(b7, _)]) (C := [(b9, _)]) (D := C) (F := X) (G := [(b5, _)]) (by repeat (first | exact pk1 | apply zAc)) (by repeat (first | exact pk1 | apply zAc)) (by repeat (first | exact pk1 | apply zAc)) (by repeat (first | exact pk1 | apply zAc)) (by repeat (first | exact pk1 | apply zAc)) (by repeat (first | exact pk1 | apply zAc)), E.keep (zAa rfl (zAa rfl (zAa rfl (zAa rfl (zAa rfl (zAa rfl (zAa rfl (zAa rfl (zAa rfl (zAa rfl zAm))))))))))⟩
      · clear E S a; intro a w J; obtain ⟨b7, b9, Y, a1, c1, a2, c2, a3, c3, hYR, S, E⟩ := J
        refine zAf hK ?_; clear hK; clear K
        iterate 2 (refine wp_seq_k ?_; intro K hK)
        refine zAb ?_
        refine zp E (zAe E rfl rfl) ?_; clear E a; intro a E
        refine zp E (by first | exact zCw E rfl rfl rfl | exact zBi E rfl rfl rfl rfl | exact zBr E rfl rfl rfl rfl | exact zBk E rfl rfl rfl) ?_; clear E a; intro a E
        refine wpList_nil ?_
        refine zAf hK ?_; clear hK; clear K
        refine zBf E rfl (fun hb => ?_) (fun hb => ?_)
        · replace hb := Nrm.nrm hb
          refine wp_seq_k ?_; intro K hK
          refine zAb ?_
          refine zp E (zAe E rfl rfl) ?_; clear E a; intro a E
          iterate 2 (refine zp E (zAd E rfl rfl) ?_; clear E a; intro a E)
          refine wpList_nil ?_
          refine zAf hK ?_; clear hK; clear K
          refine wp_ret ?_
          refine zAv ?_; clear hK; clear K
          refine zCn ?_
          refine zAv ?_
          refine zCn ?_
          refine zAv ?_; clear hK; clear K
          refine ret2 E rfl rfl rfl ?_
          rw [hrec, herr hb]
          refine ⟨_, rfl, nilv, [], [], [], rfl, Buf.nil _ _, (fun x hx => by cases hx), rfl, ?_⟩
          exact ((St.drops0 [_, _, _, _, _, _] S).addNil.addNil).tr
        · replace hb := Nrm.nrm hb
          refine wp_skip ?_
          refine zAf hK ?_; clear hK; clear K
          refine wp_seq_k ?_; intro K hK
          have hd := hok hb
          have h1 := hd.n_
          have h2 := hd.len
          refine zAb ?_
          refine zp E (zAe E rfl rfl) ?_; clear E a; intro a E
          refine zp E (zBq (vs := [_, _, _, _, _, _, _, _, _, _, _, _, _]) E rfl rfl rfl (S.get (by repeat (first | exact pk1 | apply zAc))) rfl rfl) ?_; clear E a; intro a E
          refine zAn rfl (zDd (cells := [_, _, _, _, _, _, _, _, _, _, _, _, _]) E S rfl rfl (by decide) rfl rfl rfl rfl rfl (by decide) rfl ?_); clear E S a; intro a w b34 E S
          refine zAn rfl (zCp (by' := 168) E S rfl rfl (by decide) rfl rfl hB (by repeat (first | exact pk1 | apply zAc)) ((zEl (g := b34) (T := 26) (xs := [.int .i64 r.kind, str r.name, .int .i64 r.typ, .int .i64 r.frm, .int .i64 r.guid, .int .i64 r.origin, str r.snap, .slice a1 r.props.length c1, .int .i64 r.object, .int .i64 r.at_, .int .i64 r.many, .slice a2 r.keep.length c2, .slice a3 r.data.length c3]) (s := 13) (m := 1) rfl (by simp [Value.oneCell']) (by omega) 1).src (S.stab.at (by repeat (first | exact mm1 | assumption | apply List.Mem.tail))) rfl) rfl rfl rfl rfl rfl rfl (by simp only [maxLen]; omega) (by omega) ?_); clear E S a; intro a w v35 C35 E S hB35
          refine zp E (zAd E rfl rfl) ?_; clear E a; intro a E
          refine wpList_nil ?_
          refine zAf hK ?_; clear hK; clear K
          refine wp_seq_k ?_; intro K hK
          refine zAb ?_
          refine zp E (zBq (vs := [_, _, _, _]) E rfl rfl rfl (S.get (by repeat (first | exact pk1 | apply zAc))) rfl rfl) ?_; clear E a; intro a E
          refine zAn rfl (zAz E S rfl rfl rfl rfl (by simp [Value.oneCell']) rfl (by repeat (first | exact pk1 | apply zAc)) (by simp) ?_); clear E S a; intro a w E S; simp only [List.take_succ_cons, List.take_zero, List.drop_succ_cons, List.drop_zero, List.cons_append, List.nil_append, List.append_nil, List.length_cons, List.length_nil, Nat.zero_add, Nat.add_zero] at S
          refine wpList_nil ?_
          refine zAf hK ?_; clear hK; clear K
          refine zAb ?_
          iterate 2 (refine zp E (zAe E rfl rfl) ?_; clear E a; intro a E)
          refine zp E (zBu E rfl rfl rfl (by first | exact wa1 (by omega) | exact w_in (by omega) | exact zBt (by omega) | exact rfl)) ?_; clear E a; intro a E
          refine zp E (zAd E rfl rfl) ?_; clear E a; intro a E
          refine wpList_nil ?_
          refine zBh ?_
          refine zBo ?_
          have S := St.drops0 [_, _, _] (S.front3 (A := [(b34, _)]) (B := [(b7, _)]) (C := [(b9, _)]) (by repeat (first | exact pk1 | apply zAc)) (by repeat (first | exact pk1 | apply zAc)) (by repeat (first | exact pk1 | apply zAc)))
          have S := (S.front4 (A := X) (B := Y) (C := C35) (D := [(b5, _)]) (by repeat (first | exact pk1 | apply zAc)) (by repeat (first | exact pk1 | apply zAc)) (by repeat (first | exact pk1 | apply zAc)) (by repeat (first | exact pk1 | apply zAc))).join.perm2
          refine ⟨_, ?_, q + n, o, l ++ [⟨r, .slice a1 r.props.length c1, .slice a2 r.keep.length c2, .slice a3 r.data.length c3⟩], C35, X ++ Y, v35, rfl, by omega, hok', ?_, ?_, ?_, ?_, S, E.keep (zAa rfl (zAa rfl (zAa rfl (zAa rfl (zAa rfl (zAa rfl zAm))))))⟩
          · omega
          · simp only [List.length_append, List.length_singleton]; omega
          · rw [hrec, hgo hb, List.map_append, hb', List.drop_drop]; rfl
          · rw [List.length_append, List.flatMap_append]; exact hB35
          · intro x hx
            rcases List.mem_append.1 hx with q | q
            · exact (hX x q).sub fun y hy => List.mem_append_left _ hy
            · rw [List.mem_singleton.1 q]; exact hYR.sub fun y hy => List.mem_append_right _ hy
    · replace hb := Nrm.nrm hb
      refine wp_exit ?_
      refine zBc ?_; clear hK; clear K
      refine zBc ?_
      refine zCi ?_
      refine zAf hK ?_; clear hK; clear K
      refine wp_seq_k ?_; intro K hK
      refine zAb ?_
      refine zp E (zAe E rfl rfl) ?_; clear E a; intro a E
      iterate 2 (refine zp E (zAd E rfl rfl) ?_; clear E a; intro a E)
      refine wpList_nil ?_
      refine zAf hK ?_; clear hK; clear K
      refine wp_ret ?_
      refine ret2 E rfl rfl rfl ?_
      rw [List.drop_of_length_le (by omega)] at hrec
      rw [hrec, zHx]
      exact ⟨_, rfl, v', C, X, l, rfl, hB, hX, rfl, (St.drops2 [_] S).tr⟩
theorem usameall_ret {Da Xa Db Xb : zAy} {va vb : Value} {la lb : List RV} (hDa : Rd Da 13 va la.length (la.flatMap RV.lay)) (hXa : RVs Xa la) (hDb : Rd Db 13 vb lb.length (lb.flatMap RV.lay)) (hXb : RVs Xb lb) (hs : ∀ x ∈ la, Sml x.r) (hl : la.length ≤ 1048576) (ra rb : List Rec) (hra : ra = la.map RV.r) (hrb : rb = lb.map RV.r)
    {As : List zAy} (m1 : Da ∈ As) (m2 : Xa ∈ As) (m3 : Db ∈ As) (m4 : Xb ∈ As) (w0 : World) (H : Hp w0 As) :
    Ret Tryz.prog 22 #[va, vb] w0 fun u w' => ∃ z, u = .bool z ∧ (z = true ↔ ra = rb) ∧ Trs w0 w' As As := by
  have S := St.begin H
  have e1 : ra.length = la.length := by rw [hra, List.length_map]
  have e2 : rb.length = lb.length := by rw [hrb, List.length_map]
  obtain ⟨a1, c1, rfl⟩ := hDa.slice
  obtain ⟨a2, c2, rfl⟩ := hDb.slice
  refine zCr 29 Tryz.func22 rfl rfl (by decide) ?_; intro a E
  refine wp_seq_k ?_; intro K hK
  refine zAb ?_
  refine zp E (zAd E rfl rfl) ?_; clear E a; intro a E
  refine wpList_nil ?_
  refine zAf hK ?_; clear hK; clear K
  iterate 2 (refine wp_seq_k ?_; intro K hK)
  refine zAb ?_
  refine zp E (zAe E rfl rfl) ?_; clear E a; intro a E
  refine zp E (by first | exact zBx E rfl rfl rfl | exact zAw E rfl rfl rfl | exact zAq E rfl rfl rfl) ?_; clear E a; intro a E
  refine zp E (zAe E rfl rfl) ?_; clear E a; intro a E
  refine zp E (by first | exact zBx E rfl rfl rfl | exact zAw E rfl rfl rfl | exact zAq E rfl rfl rfl) ?_; clear E a; intro a E
  refine zp E (by first | exact zCw E rfl rfl rfl | exact zBi E rfl rfl rfl rfl | exact zBr E rfl rfl rfl rfl | exact zBk E rfl rfl rfl) ?_; clear E a; intro a E
  refine wpList_nil ?_
  refine zAf hK ?_; clear hK; clear K
  refine zBf E rfl (fun hb => ?_) (fun hb => ?_)
  · replace hb := Nrm.nrm hb
    refine wp_seq_k ?_; intro K hK
    refine zAb ?_
    refine zp E (zAd E rfl rfl) ?_; clear E a; intro a E
    refine wpList_nil ?_
    refine zAf hK ?_; clear hK; clear K
    refine wp_ret ?_
    refine zAv ?_; clear hK; clear K
    refine ret1 E rfl rfl ?_
    exact ⟨_, rfl, _, rfl, ⟨fun q => Bool.noConfusion q, fun q => by have := congrArg List.length q; omega⟩, S.tr⟩
  · replace hb := Nrm.nrm hb
    refine wp_skip ?_
    refine zAf hK ?_; clear hK; clear K
    iterate 2 (refine wp_seq_k ?_; intro K hK)
    refine zAb ?_
    refine zp E (zAd E rfl rfl) ?_; clear E a; intro a E
    refine wpList_nil ?_
    refine zAf hK ?_; clear hK; clear K
    refine wp_block ?_
    refine wp_loop_ghost (fun (m : Nat) (a : Act) (w' : World) => ∃ i : Nat, m = la.length - i ∧ i ≤ la.length ∧ ra.take i = rb.take i ∧ St w0 As w' As ∧ Fr a 29 [(0, .slice a1 la.length c1), (1, .slice a2 lb.length c2), (4, .bool false), (5, .int .i64 i)]) (la.length) ?_ ?_
    · exact ⟨0, by omega, by omega, rfl, S, E.keep (zAa rfl (zAa rfl (zAa rfl (zAa rfl zAm))))⟩
    clear E; clear a; (try clear S); rintro m a w ⟨i, rfl, hi, he, S, E⟩
    iterate 2 (refine wp_seq_k ?_; intro K hK)
    refine zAb ?_
    iterate 2 (refine zp E (zAe E rfl rfl) ?_; clear E a; intro a E)
    refine zp E (by first | exact zBx E rfl rfl rfl | exact zAw E rfl rfl rfl | exact zAq E rfl rfl rfl) ?_; clear E a; intro a E
    refine zp E (zCj E rfl rfl rfl) ?_; clear E a; intro a E
    refine wpList_nil ?_
    refine zAf hK ?_; clear hK; clear K
    refine zBf E rfl (fun hb => ?_) (fun hb => ?_)
    · replace hb := Nrm.nrm hb
      refine wp_skip ?_
      refine zAf hK ?_; clear hK; clear K
      refine wp_seq_k ?_; intro K hK
      refine wp_block ?_
      refine wp_seq_k ?_; intro K hK
      have hil : i < la.length := by omega
      have hil2 : i < lb.length := by omega
      obtain ⟨b1, o1, rfl⟩ := hDa.addr (by omega)
      obtain ⟨b2, o2, rfl⟩ := hDb.addr (by omega)
      have g1 : ra[i]'(by omega) = la[i].r := by simp [hra]
      have g2 : rb[i]'(by omega) = lb[i].r := by simp [hrb]
      refine zBz S (.ofL [(0, 0), (1, 0), (2, 0), (3, 0), (4, 0), (5, 0), (6, 0), (7, 0), (8, 3), (9, 2)]) (by kernel_rfl) (by kernel_rfl) ?_
      clear S; intro w S
      iterate 2 (refine zm E rfl (fun w h => zAe E rfl rfl) ?_; clear E a; intro a E)
      refine zm E rfl (fun w h => by first | exact zBm E rfl rfl rfl rfl rfl rfl (by omega) | exact zBv E rfl rfl rfl rfl rfl rfl (by omega) | exact zBj E rfl rfl rfl rfl rfl rfl (by omega)) ?_; clear E a; intro a E
      refine zm E rfl (fun w h => zDs (vs := [_, _, _, _, _, _, _, _, _, _, _, _, _]) E rfl rfl rfl rfl (hDa.elem (lay := RV.lay) RV.lay_len (h.at m1) hil)) ?_; clear E a; intro a E
      iterate 2 (refine zm E rfl (fun w h => zAe E rfl rfl) ?_; clear E a; intro a E)
      refine zm E rfl (fun w h => by first | exact zBm E rfl rfl rfl rfl rfl rfl (by omega) | exact zBv E rfl rfl rfl rfl rfl rfl (by omega) | exact zBj E rfl rfl rfl rfl rfl rfl (by omega)) ?_; clear E a; intro a E
      refine zm E rfl (fun w h => zDs (vs := [_, _, _, _, _, _, _, _, _, _, _, _, _]) E rfl rfl rfl rfl (hDb.elem (lay := RV.lay) RV.lay_len (h.at m3) hil2)) ?_; clear E a; intro a E
      refine zGp E rfl rfl rfl (by decide) rfl Tryz.func13 rfl (by kernel_rfl) rfl (same_ret (hXa _ (List.getElem_mem hil)) (hXb _ (List.getElem_mem hil2)) (hs _ (List.getElem_mem hil)) _ m2 m4 _ S.hp) ?_
      rintro v26 w ⟨z, rfl, hz, hT⟩; clear E a; intro a E
      have S := S.all hT
      refine zCg E rfl rfl rfl (by decide) (fun w => zAd E rfl rfl) ?_; clear E a; intro a E
      refine zBw ?_
      refine zAf hK ?_; clear hK; clear K
      refine wp_seq_k ?_; intro K hK
      refine zAb ?_
      refine zp E (zAe E rfl rfl) ?_; clear E a; intro a E
      refine zp E (zDo E rfl rfl) ?_; clear E a; intro a E
      refine wpList_nil ?_
      refine zAf hK ?_; clear hK; clear K
      refine zBf E rfl (fun hb => ?_) (fun hb => ?_)
      · replace hb := Nrm.nrm hb
        refine wp_seq_k ?_; intro K hK
        refine zAb ?_
        refine zp E (zAd E rfl rfl) ?_; clear E a; intro a E
        refine wpList_nil ?_
        refine zAf hK ?_; clear hK; clear K
        refine wp_ret ?_
        refine zCn ?_
        refine zAv ?_; clear hK; clear K
        refine zAv ?_
        refine zCn ?_
        refine zAv ?_; clear hK; clear K
        refine ret1 E rfl rfl ?_
        exact ⟨_, rfl, _, rfl, ⟨fun q => Bool.noConfusion q, fun q => by have h3 := hz.2 (by rw [← g1, ← g2]; simp only [q]); simp [h3] at hb⟩, S.tr⟩
      · replace hb := Nrm.nrm hb
        refine wp_skip ?_
        refine zBh ?_
        refine zAf hK ?_; clear hK; clear K
        refine zAb ?_
        refine zp E (zAe E rfl rfl) ?_; clear E a; intro a E
        refine zp E (zBu E rfl rfl rfl (by first | exact zCl (y := 1) (by omega) | exact w_in (by omega) | exact zBt (by omega) | exact rfl)) ?_; clear E a; intro a E
        refine zp E (zAd E rfl rfl) ?_; clear E a; intro a E
        refine wpList_nil ?_
        refine zBo ?_
        exact ⟨_, by omega, i + 1, rfl, by omega, zLc he (by omega) (by omega) (by rw [g1, g2]; exact hz.1 (by simpa using hb)), S, E.keep (zAa rfl (zAa rfl (zAa rfl (zAa rfl zAm))))⟩
    · replace hb := Nrm.nrm hb
      refine wp_exit ?_
      refine zBc ?_; clear hK; clear K
      refine zBc ?_
      refine zCi ?_
      refine zAf hK ?_; clear hK; clear K
      refine wp_seq_k ?_; intro K hK
      refine zAb ?_
      refine zp E (zAd E rfl rfl) ?_; clear E a; intro a E
      refine wpList_nil ?_
      refine zAf hK ?_; clear hK; clear K
      refine wp_ret ?_
      refine ret1 E rfl rfl ?_
      exact ⟨_, rfl, _, rfl, ⟨fun _ => by rw [List.take_of_length_le (by omega), List.take_of_length_le (by omega)] at he; exact he, fun _ => rfl⟩, S.tr⟩
end Go.Proofs.YtbogecljkaimdaaGreatDoor
namespace Go.Sl
theorem sl_take {D : zAy} {ad : Option Addr} {c n : Nat} {b : List UInt8} (h : Rd D 1 (.slice ad b.length c) b.length (byt b)) (hc : b.length ≤ c) (hn : n ≤ b.length) :
    ∃ ad2, sliced ad 0 n c 1 = .slice ad2 (b.take n).length c ∧ Rd D 1 (.slice ad2 (b.take n).length c) (b.take n).length (byt (b.take n)) ∧ (b.take n).length ≤ c := by
  have hp := h.piece rfl (lo := 0) (hi := n) (mx := c) (Nat.zero_le _) hn (by omega)
  have hl : (b.take n).length = n := by rw [List.length_take]; omega
  simp only [Nat.mul_one, List.drop_zero, Nat.sub_zero, zFr] at hp
  have e : sliced ad 0 n c 1 = .slice (if c = 0 then ad else ad.map (·.add (0 * 1))) (b.take n).length c := by rw [hl]; rfl
  exact ⟨_, e, by rw [← e, hl]; exact hp, by omega⟩
end Go.Sl
namespace Go.Proofs.YtbogecljkaimdaaGreatDoor
open Go.Sl
set_option maxRecDepth 10000
def rec1 : Rec := { zDw 6 with many := 5 }
theorem rec1_ck : ckB rec1 = true := by rw [ck6 (.inl rfl), may6]; rfl
theorem rec1_rd (X : zAy) : RecR X rec1 nilv nilv nilv := ⟨Rd.nil _ _, Rd.nil _ _, Rd.nil _ _⟩
theorem rec1_sml : Sml rec1 := ⟨zDh, zDh, zDh, zHo, zDh, zDh⟩
theorem rec0_ck : ckE (zDw 6) = 200 := by
  have : ckB (zDw 6) = false := by rw [ck6 (.inl rfl), may6]; rfl
  simp [ckE, this]
theorem zeroR_rd (X : zAy) (k : Int) : RecR X (zDw k) nilv nilv nilv := ⟨Rd.nil _ _, Rd.nil _ _, Rd.nil _ _⟩
theorem zero_sml (k : Int) : Sml (zDw k) := ⟨zDh, zDh, zDh, zHo, zDh, zDh⟩
set_option maxHeartbeats 1000000 in
theorem awake_ret {As : List zAy} (hG : Tab As 2 shaK) (w0 : World) (H : Hp w0 As) :
    Ret Tryz.prog 9 #[] w0 fun u w' => u = .bool true ∧ Trs w0 w' As As := by
  have S := St.begin H
  have hGA : ∃ G ∈ As, ∃ T fr, ((2 : Nat), Obj.cells (u32s shaK).toArray T fr) ∈ G := hG
  obtain ⟨X, hXm, -⟩ := hGA
  have henc := zJw rec1_ck zEr
  have hdec := dec_enc rec1_ck zEr []
  rw [List.append_nil] at hdec
  obtain ⟨pb, hpb⟩ : ∃ pb, pb = zDj rec1.kind (zEt rec1.kind rec1) zEr := ⟨_, rfl⟩
  obtain ⟨own, hown⟩ : ∃ own, own = ownS rec1.kind (zEt rec1.kind rec1) zEr := ⟨_, rfl⟩
  have hpl : pb.length = 41 := by rw [hpb, zHb]; rfl
  have hp9 : pb.take 9 = [6, 4, 0, 0, 0, 5, 0, 0, 0] := by
    have e1 : (zFq rec1.kind (zEt rec1.kind rec1)) = [6, 4, 0, 0, 0, 5, 0, 0, 0] := by rfl
    rw [hpb, zDj, e1]; rfl
  rw [← hpb, ← hown] at henc hdec
  have hd4 : decR (pb.take 4) zEr = zIv 10 := dec_1 (by rw [List.length_take]; omega)
  rw [hpl] at hdec
  refine enter0 86 Tryz.func9 rfl rfl ?_; intro a E
  refine wp_seq_k ?_; intro K hK
  refine zAb ?_
  refine zp E (zAd E rfl rfl) ?_; clear E a; intro a E
  refine wpList_nil ?_
  refine zAf hK ?_; clear hK; clear K
  refine wp_seq_k ?_; intro K hK
  refine zAb ?_
  refine zp E (zCh (cells := [_, _, _, _, _, _, _, _, _, _, _, _, _]) E rfl rfl rfl) ?_; clear E a; intro a E
  refine zp E (zCh (cells := [_, _, _, _]) E rfl rfl rfl) ?_; clear E a; intro a E
  refine zAp E rfl rfl (by decide) rfl Tryz.func12 rfl (by kernel_rfl) rfl (encode_ret (r := rec1) (rec1_rd X) rec1_sml zEr (by repeat (first | exact hXm | apply List.Mem.tail)) (by repeat (first | exact hG | apply Tab.tail)) _ S.hp) ?_
  rintro v18 w h; clear E a; intro a E
  replace h := encP_Q h; rw [henc] at h; obtain ⟨v1, C1, rfl, hB1, hT⟩ := h; have S := S.all hT; simp only at hB1
  obtain ⟨ad1, c1, rfl⟩ := hB1.slice
  have hc1 := hB1.cap_le
  refine zp E (zAe E rfl rfl) ?_; clear E a; intro a E
  iterate 3 (refine zp E (zBp E rfl rfl rfl) ?_; clear E a; intro a E)
  refine zAn rfl (zBs E S rfl rfl (by decide) rfl rfl rfl ?_); clear E S a; intro a w b2 E S
  refine zp E (zAd E rfl rfl) ?_; clear E a; intro a E
  refine zAn rfl (zAz E S rfl rfl rfl rfl (by simp [Value.oneCell']) rfl (by repeat (first | exact pk1 | apply zAc)) (by simp) ?_); clear E S a; intro a w E S; simp only [List.take_succ_cons, List.take_zero, List.drop_succ_cons, List.drop_zero, List.cons_append, List.nil_append, List.append_nil, List.length_cons, List.length_nil, Nat.zero_add, Nat.add_zero] at S
  refine zp E (zAd E rfl rfl) ?_; clear E a; intro a E
  refine wpList_nil ?_
  refine zAf hK ?_; clear hK; clear K
  refine wp_seq_k ?_; intro K hK
  obtain ⟨a4, he4, hR4, hc4⟩ := sl_take (n := 4) hB1.rd hc1 (by omega)
  obtain ⟨a9, he9, hR9, hc9⟩ := sl_take (n := 9) hB1.rd hc1 (by omega)
  have h4l : (pb.take 4).length = 4 := by rw [List.length_take]; omega
  have h9l : (pb.take 9).length = 9 := by rw [List.length_take]; omega
  refine zAb ?_
  refine zp E (zAe E rfl rfl) ?_; clear E a; intro a E
  refine zp E (zAd E rfl rfl) ?_; clear E a; intro a E
  refine wpList_nil ?_
  refine zAf hK ?_; clear hK; clear K
  iterate 2 (refine wp_seq_k ?_; intro K hK)
  refine zAb ?_
  refine zp E (zAe E rfl rfl) ?_; clear E a; intro a E
  refine zp E (by first | exact zBx E rfl rfl rfl | exact zAw E rfl rfl rfl | exact zAq E rfl rfl rfl) ?_; clear E a; intro a E
  refine zp E (zDm E rfl rfl rfl) ?_; clear E a; intro a E
  refine wpList_nil ?_
  refine zAf hK ?_; clear hK; clear K
  refine zCk E rfl ((by rw [hpl]; rfl)) ?_
  refine zAb ?_
  refine zp E (zAe E rfl rfl) ?_; clear E a; intro a E
  refine zp E (zFx (hi := 4) (s := 1) E rfl rfl rfl rfl rfl rfl (by omega)) ?_; clear E a; intro a E
  rw [he4] at E
  have S := S.front1 (A := C1) (by repeat (first | exact pk1 | apply zAc))
  refine zp E (zAd E rfl rfl) ?_; clear E a; intro a E
  refine wpList_nil ?_
  refine zAf hK ?_; clear hK; clear K
  refine wp_seq_k ?_; intro K hK
  refine zAb ?_
  refine zp E (zAe E rfl rfl) ?_; clear E a; intro a E
  refine zp E (zCh (cells := [_, _, _, _]) E rfl rfl rfl) ?_; clear E a; intro a E
  refine zAp E rfl rfl (by decide) rfl Tryz.func19 rfl (by kernel_rfl) rfl (zJc C1 a4 c1 (pb.take 4) hR4 hc4 (by omega) zEr _ (by repeat (first | exact hG | apply Tab.tail)) _ S.hp) ?_
  rintro v31 w ⟨X4, p4, k4, d4, rfl, hX4, hT⟩; clear E a; intro a E
  rw [hd4] at E; have S := S.all hT; simp only [zIv, zDw, Rec.cells] at E
  rw [hd4] at hX4
  obtain ⟨q1, n1', rfl⟩ := hX4.rd.pr.slice
  obtain ⟨q2, n2', rfl⟩ := hX4.rd.kr.slice
  obtain ⟨q3, n3', rfl⟩ := hX4.rd.dr.slice
  refine zp E (zAe E rfl rfl) ?_; clear E a; intro a E
  iterate 4 (refine zp E (zBp E rfl rfl rfl) ?_; clear E a; intro a E)
  refine zAn rfl (zBs E S rfl rfl (by decide) rfl rfl rfl ?_); clear E S a; intro a w b5 E S
  refine zAn rfl (zBs E S rfl rfl (by decide) rfl rfl rfl ?_); clear E S a; intro a w b7 E S
  refine zAn rfl (zAz E S rfl rfl rfl rfl (by simp [Value.oneCell']) rfl (by repeat (first | exact pk1 | apply zAc)) (by simp) ?_); clear E S a; intro a w E S; simp only [List.take_succ_cons, List.take_zero, List.drop_succ_cons, List.drop_zero, List.cons_append, List.nil_append, List.append_nil, List.length_cons, List.length_nil, Nat.zero_add, Nat.add_zero] at S
  refine zp E (zAd E rfl rfl) ?_; clear E a; intro a E
  refine zAn rfl (zAz E S rfl rfl rfl rfl (by simp [Value.oneCell']) rfl (by repeat (first | exact pk1 | apply zAc)) (by simp) ?_); clear E S a; intro a w E S; simp only [List.take_succ_cons, List.take_zero, List.drop_succ_cons, List.drop_zero, List.cons_append, List.nil_append, List.append_nil, List.length_cons, List.length_nil, Nat.zero_add, Nat.add_zero] at S
  refine zp E (zAd E rfl rfl) ?_; clear E a; intro a E
  refine wpList_nil ?_
  refine zAf hK ?_; clear hK; clear K
  refine wp_seq_k ?_; intro K hK
  replace E := E.keep (e' := [(0, _), (1, _), (2, _), (3, _), (8, _)]) (zAa rfl (zAa rfl (zAa rfl (zAa rfl (zAa rfl (zAm))))))
  refine zAb ?_
  refine zp E (zAe E rfl rfl) ?_; clear E a; intro a E
  refine zp E (zCh (cells := [_, _, _, _]) E rfl rfl rfl) ?_; clear E a; intro a E
  have S := S.front1 (A := C1) (by repeat (first | exact pk1 | apply zAc))
  refine zAp E rfl rfl (by decide) rfl Tryz.func19 rfl (by kernel_rfl) rfl (zJc C1 ad1 c1 pb hB1.rd hc1 (by omega) zEr _ (by repeat (first | exact hG | apply Tab.tail)) _ S.hp) ?_
  rintro v39 w ⟨X5, p5, k5, d5, rfl, hX5, hT⟩; clear E a; intro a E
  rw [hdec] at E; have S := S.all hT; simp only [rec1, zDw, Rec.cells] at E
  rw [hdec] at hX5
  obtain ⟨q4, n4', rfl⟩ := hX5.rd.pr.slice
  obtain ⟨q5, n5', rfl⟩ := hX5.rd.kr.slice
  obtain ⟨q6, n6', rfl⟩ := hX5.rd.dr.slice
  refine zp E (zAe E rfl rfl) ?_; clear E a; intro a E
  iterate 4 (refine zp E (zBp E rfl rfl rfl) ?_; clear E a; intro a E)
  refine zAn rfl (zBs E S rfl rfl (by decide) rfl rfl rfl ?_); clear E S a; intro a w b9 E S
  refine zAn rfl (zBs E S rfl rfl (by decide) rfl rfl rfl ?_); clear E S a; intro a w b11 E S
  refine zAn rfl (zAz E S rfl rfl rfl rfl (by simp [Value.oneCell']) rfl (by repeat (first | exact pk1 | apply zAc)) (by simp) ?_); clear E S a; intro a w E S; simp only [List.take_succ_cons, List.take_zero, List.drop_succ_cons, List.drop_zero, List.cons_append, List.nil_append, List.append_nil, List.length_cons, List.length_nil, Nat.zero_add, Nat.add_zero] at S
  refine zp E (zAd E rfl rfl) ?_; clear E a; intro a E
  refine zAn rfl (zAz E S rfl rfl rfl rfl (by simp [Value.oneCell']) rfl (by repeat (first | exact pk1 | apply zAc)) (by simp) ?_); clear E S a; intro a w E S; simp only [List.take_succ_cons, List.take_zero, List.drop_succ_cons, List.drop_zero, List.cons_append, List.nil_append, List.append_nil, List.length_cons, List.length_nil, Nat.zero_add, Nat.add_zero] at S
  refine zp E (zAd E rfl rfl) ?_; clear E a; intro a E
  refine wpList_nil ?_
  refine zAf hK ?_; clear hK; clear K
  refine wp_seq_k ?_; intro K hK
  refine zAb ?_
  refine zp E (zCh (cells := [_, _, _, _, _, _, _, _, _, _, _, _, _]) E rfl rfl rfl) ?_; clear E a; intro a E
  refine zAp E rfl rfl (by decide) rfl Tryz.func11 rfl (by kernel_rfl) rfl (zKm (r := zDw 6) (zeroR_rd X 6) (zero_sml 6) (by repeat (first | exact hXm | apply List.Mem.tail)) _ S.hp) ?_
  rintro v45 w ⟨rfl, hT⟩; clear E a; intro a E
  rw [rec0_ck] at E; have S := S.all hT
  refine zp E (zAd E rfl rfl) ?_; clear E a; intro a E
  refine wpList_nil ?_
  refine zAf hK ?_; clear hK; clear K
  refine wp_seq_k ?_; intro K hK
  refine zAb ?_
  refine zp E (zAe E rfl rfl) ?_; clear E a; intro a E
  refine zp E (by first | exact zBx E rfl rfl rfl | exact zAw E rfl rfl rfl | exact zAq E rfl rfl rfl) ?_; clear E a; intro a E
  refine zp E (by first | exact zCe E rfl rfl rfl | exact zAu E rfl rfl rfl rfl | exact zBe E rfl rfl rfl rfl | exact zAx E rfl rfl rfl) ?_; clear E a; intro a E
  refine zp E (zAe E rfl rfl) ?_; clear E a; intro a E
  refine zDu E (t := 49) rfl ((by rw [hpl]; rfl)) (fun hb49 => ?_)
  refine zy E hb49 (zAe E rfl rfl) ?_; clear E a; intro a E
  refine zy E hb49 (zFx (hi := 9) (s := 1) E rfl rfl rfl rfl rfl rfl (by omega)) ?_; clear E a; intro a E
  rw [he9] at E
  refine zy E hb49 (zCa E rfl rfl rfl rfl rfl hR9 (S.stab.at (by repeat (first | exact mm1 | assumption | apply List.Mem.tail)))) ?_; clear E a; intro a E
  refine zy E hb49 (by first | exact zCe E rfl rfl rfl | exact zAu E rfl rfl rfl rfl | exact zBe E rfl rfl rfl rfl | exact zAx E rfl rfl rfl) ?_; clear E a; intro a E
  refine zp E (zAl E rfl rfl hb49 rfl) ?_; clear E a; intro a E
  refine zp E (zAe E rfl rfl) ?_; clear E a; intro a E
  refine zDu E (t := 55) rfl ((decide_eq_true hp9)) (fun hb55 => ?_)
  refine zy E hb55 (zAe E rfl rfl) ?_; clear E a; intro a E
  refine zy E hb55 (by first | exact zCe E rfl rfl rfl | exact zAu E rfl rfl rfl rfl | exact zBe E rfl rfl rfl rfl | exact zAx E rfl rfl rfl) ?_; clear E a; intro a E
  refine zp E (zAl E rfl rfl hb55 rfl) ?_; clear E a; intro a E
  refine zp E (zAe E rfl rfl) ?_; clear E a; intro a E
  refine zDu E (t := 59) rfl (rfl) (fun hb59 => ?_)
  refine zy E hb59 (zAe E rfl rfl) ?_; clear E a; intro a E
  refine zy E hb59 (by first | exact zCe E rfl rfl rfl | exact zAu E rfl rfl rfl rfl | exact zBe E rfl rfl rfl rfl | exact zAx E rfl rfl rfl) ?_; clear E a; intro a E
  refine zp E (zAl E rfl rfl hb59 rfl) ?_; clear E a; intro a E
  refine zp E (zAd E rfl rfl) ?_; clear E a; intro a E
  refine wpList_nil ?_
  refine zAf hK ?_; clear hK; clear K
  refine wp_seq_k ?_; intro K hK
  replace E := E.keep (e' := [(0, _), (2, _), (9, _), (10, _), (11, _), (12, _), (13, _), (14, _)]) (zAa rfl (zAa rfl (zAa rfl (zAa rfl (zAa rfl (zAa rfl (zAa rfl (zAa rfl (zAm)))))))))
  refine zAb ?_
  iterate 2 (refine zp E (zAe E rfl rfl) ?_; clear E a; intro a E)
  refine zDu E (t := 64) rfl (rfl) (fun hb64 => ?_)
  refine zy E hb64 (by first | exact zAg (q := 10) E rfl rfl rfl | exact zAh (q := 10) E rfl rfl rfl) ?_; clear E a; intro a E
  refine zy E hb64 (by first | exact zAo E rfl rfl rfl (S.get (by repeat (first | exact pk1 | apply zAc))) rfl | exact zAj E rfl rfl rfl (by assumption)) ?_; clear E a; intro a E
  refine zy E hb64 (by first | exact zCe E rfl rfl rfl | exact zAu E rfl rfl rfl rfl | exact zBe E rfl rfl rfl rfl | exact zAx E rfl rfl rfl) ?_; clear E a; intro a E
  refine zp E (zAl E rfl rfl hb64 rfl) ?_; clear E a; intro a E
  refine zp E (zAe E rfl rfl) ?_; clear E a; intro a E
  refine zDu E (t := 69) rfl (rfl) (fun hb69 => ?_)
  refine zy E hb69 (zAe E rfl rfl) ?_; clear E a; intro a E
  refine zy E hb69 (by first | exact zCe E rfl rfl rfl | exact zAu E rfl rfl rfl rfl | exact zBe E rfl rfl rfl rfl | exact zAx E rfl rfl rfl) ?_; clear E a; intro a E
  refine zp E (zAl E rfl rfl hb69 rfl) ?_; clear E a; intro a E
  refine zp E (zAe E rfl rfl) ?_; clear E a; intro a E
  refine zDu E (t := 73) rfl (rfl) (fun hb73 => ?_)
  iterate 2 (refine zy E hb73 (zBq (vs := [_, _, _, _]) E rfl rfl rfl (S.get (by repeat (first | exact pk1 | apply zAc))) rfl rfl) ?_; clear E a; intro a E)
  refine zy E hb73 (by first | exact rn_eql_pair E rfl rfl rfl rfl (by kernel_rfl) (by kernel_rfl) rfl rfl rfl | exact rn_eql_cells E rfl rfl rfl rfl (by kernel_rfl) (by kernel_rfl) rfl) ?_; clear E a; intro a E
  refine zp E (zAl E rfl rfl hb73 rfl) ?_; clear E a; intro a E
  refine zp E (zAe E rfl rfl) ?_; clear E a; intro a E
  refine zDu E (t := 78) rfl ((by simp)) (fun hb78 => ?_)
  refine zy E hb78 (zAe E rfl rfl) ?_; clear E a; intro a E
  refine zy E hb78 (by first | exact zCe E rfl rfl rfl | exact zAu E rfl rfl rfl rfl | exact zBe E rfl rfl rfl rfl | exact zAx E rfl rfl rfl) ?_; clear E a; intro a E
  refine zp E (zAl E rfl rfl hb78 rfl) ?_; clear E a; intro a E
  refine zp E (zAe E rfl rfl) ?_; clear E a; intro a E
  refine zDu E (t := 82) rfl (rfl) (fun hb82 => ?_)
  refine zy E hb82 (zAe E rfl rfl) ?_; clear E a; intro a E
  refine zy E hb82 (by first | exact zCe E rfl rfl rfl | exact zAu E rfl rfl rfl rfl | exact zBe E rfl rfl rfl rfl | exact zAx E rfl rfl rfl) ?_; clear E a; intro a E
  refine zp E (zAl E rfl rfl hb82 rfl) ?_; clear E a; intro a E
  refine zp E (zAd E rfl rfl) ?_; clear E a; intro a E
  refine wpList_nil ?_
  refine zAf hK ?_; clear hK; clear K
  refine wp_ret ?_
  refine ret1 E rfl rfl ?_
  exact ⟨_, rfl, rfl, by repeat (first | exact S.tr | replace S := S.tail)⟩
end Go.Proofs.YtbogecljkaimdaaGreatDoor
namespace Go.Proofs.YtbogecljkaimdaaGreatDoor
open Go.Sl
set_option maxRecDepth 10000
theorem zJl {C : zAy} {r : Rec} {pv kv dv : Value} (hR : RecR C r pv kv dv) (hs : Sml r) (s : Fs) (hok : s.Ok) {As : List zAy} (hC : C ∈ As) (hG0 : Tab As 0 sha0.l) (hG1 : Tab As 1 shaK) (w0 : World) (H : Hp w0 As) :
    Ret Tryz.prog 16 #[.agg (r.cells pv kv dv).toArray, s.agg] w0 (encQ (encR r s) As w0) := (uencode_ret hR hs s hok hC hG0 hG1 w0 H).mono fun _ _ h => encP_Q h
theorem encR_len (r : Rec) (s : Fs) : (encR r s).2.1.length ≤ 2085 := by
  cases h : ckB r with
  | true => rw [zJw h]; exact piece_le h s
  | false => rw [encR_no h]; simp
structure Lay4 (As : List zAy) : Prop where
  r : Tab As 2 shaK
  f : Tab As 0 sha0.l
  g : Tab As 1 shaK
end Go.Proofs.YtbogecljkaimdaaGreatDoor
namespace Go.Proofs.YtbogecljkaimdaaGreatDoor
open Go.Sl
set_option maxRecDepth 10000
theorem recG_ck : ∀ (n : Nat) (b : List UInt8) (s : Fs) (acc : List Rec), b.length ≤ n → (∀ r ∈ acc, Sml r) → ∀ r ∈ (recG b s acc).2, Sml r := by
  intro n
  induction n with
  | zero =>
    intro b s acc hn h
    obtain rfl : b = [] := List.length_eq_zero_iff.1 (by omega)
    rw [zHx]; exact h
  | succ n ih =>
    intro b s acc hn h
    by_cases hb : b = []
    · subst hb; rw [zHx]; exact h
    · by_cases hd : (decR b s).1 = 0
      · rw [recG_ok acc hb hd]
        have ho := dec_ok hd
        have h1 := ho.n_
        have h2 := ho.len
        refine ih _ _ _ (by rw [List.length_drop]; omega) fun r hr => ?_
        rcases List.mem_append.1 hr with q | q
        · exact h r q
        · rw [List.mem_singleton.1 q]; exact dec_sml b s
      · rw [zJv acc hb hd]; intro r hr; cases hr
theorem recs_sml (b : List UInt8) : ∀ r ∈ (zHd b).2, Sml r := by
  unfold zHd
  split
  · intro r hr; cases hr
  · exact recG_ck _ b zEr [] (Nat.le_refl _) (by simp)
theorem recG_len : ∀ (n : Nat) (b : List UInt8) (s : Fs) (acc : List Rec), b.length ≤ n → (recG b s acc).2.length ≤ acc.length + b.length := by
  intro n
  induction n with
  | zero =>
    intro b s acc hn
    obtain rfl : b = [] := List.length_eq_zero_iff.1 (by omega)
    rw [zHx]; simp
  | succ n ih =>
    intro b s acc hn
    by_cases hb : b = []
    · subst hb; rw [zHx]; simp
    · by_cases hd : (decR b s).1 = 0
      · rw [recG_ok acc hb hd]
        have ho := dec_ok hd
        have h1 := ho.n_
        have h2 := ho.len
        have := ih (b.drop (decR b s).2.2.1) (decR b s).2.2.2 (acc ++ [(decR b s).2.1]) (by rw [List.length_drop]; omega)
        rw [List.length_drop, List.length_append, List.length_singleton] at this
        omega
      · rw [zJv acc hb hd]; simp
theorem recs_len (b : List UInt8) : (zHd b).2.length ≤ 1048576 := by
  unfold zHd
  split
  · simp
  · have := recG_len b.length b zEr [] (Nat.le_refl _)
    simp only [List.length_nil] at this
    omega
end Go.Proofs.YtbogecljkaimdaaGreatDoor
namespace Go.Sl
structure PV where
  v : Value
  bs : List UInt8
def PV.lay (x : PV) : List Value := [x.v]
theorem PV.lay_len (x : PV) : x.lay.length = 1 := rfl
def PVs (X : zAy) (l : List PV) : Prop := ∀ x ∈ l, Rd X 1 x.v x.bs.length (byt x.bs) ∧ x.bs.length ≤ 2085
theorem PVs.sub {C D : zAy} {l : List PV} (h : PVs C l) (hs : ∀ x ∈ C, x ∈ D) : PVs D l := fun x hx => ⟨(h x hx).1.sub hs, (h x hx).2⟩
theorem PVs.set {X : zAy} {l : List PV} (h : PVs X l) (i : Nat) {y : PV} (hy : y ∈ l) : PVs X (l.set i y) := fun x hx => by
  rcases List.mem_or_eq_of_mem_set hx with q | q
  · exact h x q
  · rw [q]; exact h y hy
theorem pv_set (l : List PV) (i : Nat) (y : PV) : (l.map PV.v).set i y.v = (l.set i y).map PV.v := by rw [List.map_set]
end Go.Sl
namespace Go.Proofs.YtbogecljkaimdaaGreatDoor
open Go.Sl
set_option maxRecDepth 10000
set_option maxHeartbeats 2000000 in
theorem chain_walk (O : zAy) (hL : Lay4 [O]) (v : Value) (l : List RV) (hD : Rd O 13 v l.length (l.flatMap RV.lay)) (hX : RVs O l) (hs : ∀ x ∈ l, Sml x.r) (hl : l.length ≤ 1048576) (i k : Int) (w0 : World) (H : Hp w0 [O]) :
    Ret Tryz.prog 6 #[v, .int .i64 i, .int .i64 k] w0 fun u w' => u = .bool true ∧ Trs w0 w' [O] [O] := by
  have S := St.begin H
  have hG := hL.r
  have hG0 := hL.f
  have hG1 := hL.g
  obtain ⟨adl, cl, rfl⟩ := hD.slice
  refine zFy 121 Tryz.func6 rfl rfl (by decide) ?_; intro a E
  refine wp_seq_k ?_; intro K hK
  refine zAb ?_
  refine zp E (zAd E rfl rfl) ?_; clear E a; intro a E
  refine wpList_nil ?_
  refine zAf hK ?_; clear hK; clear K
  refine wp_seq_k ?_; intro K hK
  refine zAb ?_
  refine zAp E rfl rfl (by decide) rfl Tryz.func9 rfl (by kernel_rfl) rfl (awake_ret (by repeat (first | exact hG | apply Tab.tail)) _ S.hp) ?_
  rintro v22 w ⟨rfl, hT⟩; clear E a; intro a E
  have S := S.all hT
  refine zp E (zAd E rfl rfl) ?_; clear E a; intro a E
  refine wpList_nil ?_
  refine zAf hK ?_; clear hK; clear K
  iterate 2 (refine wp_seq_k ?_; intro K hK)
  refine zDq (fun (a : Act) (w' : World) => ∃ z, (z = false → ∃ i' k' : Nat, i = i' ∧ k = k' ∧ i' < l.length ∧ k' < l.length) ∧ St w0 [O] w' [O] ∧ Fr a 121 [(0, .slice adl l.length cl), (1, .int .i64 i), (2, .int .i64 k), (6, .bool false), (7, .bool true), (45, .bool z)]) ?_ ?_
  · skip
    refine zAb ?_
    refine zp E (zAe E rfl rfl) ?_; clear E a; intro a E
    refine zp E (zCj E rfl rfl rfl) ?_; clear E a; intro a E
    refine zp E (zAe E rfl rfl) ?_; clear E a; intro a E
    refine zAs E (t := 25) rfl (fun hb25 => ?_) (fun hb25 => ?_)
    · have hb25n := hb25; replace hb25n := Nrm.nrm hb25n
      iterate 2 (refine zn E hb25 ?_; clear E a; intro a E)
      refine zp E (zAl E rfl rfl hb25 rfl) ?_; clear E a; intro a E
      refine zp E (zAe E rfl rfl) ?_; clear E a; intro a E
      iterate 4 (refine zn E rfl ?_; clear E a; intro a E)
      refine zp E (zAl E rfl rfl rfl rfl) ?_; clear E a; intro a E
      refine zp E (zAe E rfl rfl) ?_; clear E a; intro a E
      iterate 4 (refine zn E rfl ?_; clear E a; intro a E)
      refine zp E (zAl E rfl rfl rfl rfl) ?_; clear E a; intro a E
      refine zp E (zAe E rfl rfl) ?_; clear E a; intro a E
      iterate 3 (refine zn E rfl ?_; clear E a; intro a E)
      refine zp E (zAl E rfl rfl rfl rfl) ?_; clear E a; intro a E
      refine wpList_nil ?_
      refine zAt ?_
      refine ⟨_, fun q => ?_, S, E.keep (zAa rfl (zAa rfl (zAa rfl (zAa rfl (zAa rfl (zAa rfl zAm))))))⟩
      first
        | cases q
        | (exact ⟨i.toNat, k.toNat, by omega, by omega, by omega, by omega⟩)
    · have hb25n := hb25; replace hb25n := Nrm.nrm hb25n
      refine zy E hb25 (zAe E rfl rfl) ?_; clear E a; intro a E
      refine zy E hb25 (zCj E rfl rfl rfl) ?_; clear E a; intro a E
      refine zp E (zAi E rfl rfl hb25 rfl) ?_; clear E a; intro a E
      refine zp E (zAe E rfl rfl) ?_; clear E a; intro a E
      refine zAs E (t := 29) rfl (fun hb29 => ?_) (fun hb29 => ?_)
      · have hb29n := hb29; replace hb29n := Nrm.nrm hb29n
        iterate 4 (refine zn E hb29 ?_; clear E a; intro a E)
        refine zp E (zAl E rfl rfl hb29 rfl) ?_; clear E a; intro a E
        refine zp E (zAe E rfl rfl) ?_; clear E a; intro a E
        iterate 4 (refine zn E rfl ?_; clear E a; intro a E)
        refine zp E (zAl E rfl rfl rfl rfl) ?_; clear E a; intro a E
        refine zp E (zAe E rfl rfl) ?_; clear E a; intro a E
        iterate 3 (refine zn E rfl ?_; clear E a; intro a E)
        refine zp E (zAl E rfl rfl rfl rfl) ?_; clear E a; intro a E
        refine wpList_nil ?_
        refine zAt ?_
        refine ⟨_, fun q => ?_, S, E.keep (zAa rfl (zAa rfl (zAa rfl (zAa rfl (zAa rfl (zAa rfl zAm))))))⟩
        first
          | cases q
          | (exact ⟨i.toNat, k.toNat, by omega, by omega, by omega, by omega⟩)
      · have hb29n := hb29; replace hb29n := Nrm.nrm hb29n
        iterate 2 (refine zy E hb29 (zAe E rfl rfl) ?_; clear E a; intro a E)
        refine zy E hb29 (by first | exact zBx E rfl rfl rfl | exact zAw E rfl rfl rfl | exact zAq E rfl rfl rfl) ?_; clear E a; intro a E
        refine zy E hb29 (zDz E rfl rfl rfl) ?_; clear E a; intro a E
        refine zp E (zAi E rfl rfl hb29 rfl) ?_; clear E a; intro a E
        refine zp E (zAe E rfl rfl) ?_; clear E a; intro a E
        refine zAs E (t := 35) rfl (fun hb35 => ?_) (fun hb35 => ?_)
        · have hb35n := hb35; replace hb35n := Nrm.nrm hb35n
          iterate 4 (refine zn E hb35 ?_; clear E a; intro a E)
          refine zp E (zAl E rfl rfl hb35 rfl) ?_; clear E a; intro a E
          refine zp E (zAe E rfl rfl) ?_; clear E a; intro a E
          iterate 3 (refine zn E rfl ?_; clear E a; intro a E)
          refine zp E (zAl E rfl rfl rfl rfl) ?_; clear E a; intro a E
          refine wpList_nil ?_
          refine zAt ?_
          refine ⟨_, fun q => ?_, S, E.keep (zAa rfl (zAa rfl (zAa rfl (zAa rfl (zAa rfl (zAa rfl zAm))))))⟩
          first
            | cases q
            | (exact ⟨i.toNat, k.toNat, by omega, by omega, by omega, by omega⟩)
        · have hb35n := hb35; replace hb35n := Nrm.nrm hb35n
          iterate 2 (refine zy E hb35 (zAe E rfl rfl) ?_; clear E a; intro a E)
          refine zy E hb35 (by first | exact zBx E rfl rfl rfl | exact zAw E rfl rfl rfl | exact zAq E rfl rfl rfl) ?_; clear E a; intro a E
          refine zy E hb35 (zDz E rfl rfl rfl) ?_; clear E a; intro a E
          refine zp E (zAi E rfl rfl hb35 rfl) ?_; clear E a; intro a E
          refine zp E (zAe E rfl rfl) ?_; clear E a; intro a E
          refine zAs E (t := 41) rfl (fun hb41 => ?_) (fun hb41 => ?_)
          · have hb41n := hb41; replace hb41n := Nrm.nrm hb41n
            iterate 3 (refine zn E hb41 ?_; clear E a; intro a E)
            refine zp E (zAl E rfl rfl hb41 rfl) ?_; clear E a; intro a E
            refine wpList_nil ?_
            refine zAt ?_
            refine ⟨_, fun q => ?_, S, E.keep (zAa rfl (zAa rfl (zAa rfl (zAa rfl (zAa rfl (zAa rfl zAm))))))⟩
            first
              | cases q
              | (exact ⟨i.toNat, k.toNat, by omega, by omega, by omega, by omega⟩)
          · have hb41n := hb41; replace hb41n := Nrm.nrm hb41n
            iterate 2 (refine zy E hb41 (zAe E rfl rfl) ?_; clear E a; intro a E)
            refine zy E hb41 (zDz E rfl rfl rfl) ?_; clear E a; intro a E
            refine zp E (zAi E rfl rfl hb41 rfl) ?_; clear E a; intro a E
            refine wpList_nil ?_
            refine zAt ?_
            refine ⟨_, fun q => ?_, S, E.keep (zAa rfl (zAa rfl (zAa rfl (zAa rfl (zAa rfl (zAa rfl zAm))))))⟩
            first
              | cases q
              | (exact ⟨i.toNat, k.toNat, by omega, by omega, by omega, by omega⟩)
  · clear E S a; intro a w J; obtain ⟨z, hz, S, E⟩ := J
    refine zAf hK ?_; clear hK; clear K
    refine zBf E rfl (fun hb => ?_) (fun hb => ?_)
    · replace hb := Nrm.nrm hb
      refine wp_seq_k ?_; intro K hK
      refine zAb ?_
      refine zp E (zAe E rfl rfl) ?_; clear E a; intro a E
      refine zp E (zAd E rfl rfl) ?_; clear E a; intro a E
      refine wpList_nil ?_
      refine zAf hK ?_; clear hK; clear K
      refine wp_ret ?_
      refine zAv ?_; clear hK; clear K
      refine ret1 E rfl rfl ?_
      exact ⟨_, rfl, rfl, S.tr⟩
    · replace hb := Nrm.nrm hb
      obtain ⟨i, k, rfl, rfl, hi, hk⟩ := hz hb
      refine wp_skip ?_
      refine zAf hK ?_; clear hK; clear K
      refine wp_seq_k ?_; intro K hK
      refine zAb ?_
      refine zp E (zAd E rfl rfl) ?_; clear E a; intro a E
      refine wpList_nil ?_
      refine zAf hK ?_; clear hK; clear K
      refine wp_seq_k ?_; intro K hK
      refine zAb ?_
      refine zp E (zAd E rfl rfl) ?_; clear E a; intro a E
      refine wpList_nil ?_
      refine zAf hK ?_; clear hK; clear K
      refine wp_seq_k ?_; intro K hK
      refine zAb ?_
      refine zp E (zCh (cells := [_, _, _, _]) E rfl rfl rfl) ?_; clear E a; intro a E
      refine zAn rfl (zBs E S rfl rfl (by decide) rfl rfl rfl ?_); clear E S a; intro a w b10 E S
      refine zAn rfl (zAz E S rfl rfl rfl rfl (by simp [Value.oneCell']) rfl (by repeat (first | exact pk1 | apply zAc)) (by simp) ?_); clear E S a; intro a w E S; simp only [List.take_succ_cons, List.take_zero, List.drop_succ_cons, List.drop_zero, List.cons_append, List.nil_append, List.append_nil, List.length_cons, List.length_nil, Nat.zero_add, Nat.add_zero] at S
      refine wpList_nil ?_
      refine zAf hK ?_; clear hK; clear K
      iterate 2 (refine wp_seq_k ?_; intro K hK)
      refine zAb ?_
      refine zp E (zAd E rfl rfl) ?_; clear E a; intro a E
      refine wpList_nil ?_
      refine zAf hK ?_; clear hK; clear K
      refine wp_block ?_
      refine wp_loop_ghost (fun (m : Nat) (a : Act) (w' : World) => ∃ (n : Nat) (C X : zAy) (v' : Value) (ps : List PV) (s : Fs), m = l.length - n ∧ n ≤ l.length ∧ s.Ok ∧ ps.length = n ∧ PVs X ps ∧ Buf C 24 1 v' n (ps.map PV.v) ∧ St w0 [O] w' [C, X, [(b10, cel (fsC s) 29)], O] ∧ Fr a 121 [(0, .slice adl l.length cl), (1, .int .i64 i), (2, .int .i64 k), (6, .bool false), (7, .bool true), (8, nilv), (9, v'), (10, ptr b10), (11, .int .i64 n)]) (l.length) ?_ ?_
      · exact ⟨0, [], [], _, [], zEr, by omega, by omega, zero_ok, rfl, (fun x hx => by cases hx), Buf.nil _ _, S.addNil.addNil, E.keep (zAa rfl (zAa rfl (zAa rfl (zAa rfl (zAa rfl (zAa rfl (zAa rfl (zAa rfl (zAa rfl zAm)))))))))⟩
      clear E; clear a; (try clear S); rintro m a w ⟨n, C, X, v', ps, s, rfl, hn, hso, hpl, hpv, hB, S, E⟩
      iterate 2 (refine wp_seq_k ?_; intro K hK)
      refine zAb ?_
      iterate 2 (refine zp E (zAe E rfl rfl) ?_; clear E a; intro a E)
      refine zp E (by first | exact zBx E rfl rfl rfl | exact zAw E rfl rfl rfl | exact zAq E rfl rfl rfl) ?_; clear E a; intro a E
      refine zp E (zCj E rfl rfl rfl) ?_; clear E a; intro a E
      refine wpList_nil ?_
      refine zAf hK ?_; clear hK; clear K
      refine zBf E rfl (fun hb => ?_) (fun hb => ?_)
      · replace hb := Nrm.nrm hb
        refine wp_skip ?_
        refine zAf hK ?_; clear hK; clear K
        refine wp_seq_k ?_; intro K hK
        refine wp_block ?_
        refine wp_seq_k ?_; intro K hK
        have hil : n < l.length := by omega
        obtain ⟨g, off, rfl⟩ := hD.addr (by omega)
        have hxR := hX _ (List.getElem_mem hil)
        have hxs := hs _ (List.getElem_mem hil)
        have hel := encR_len l[n].r s
        have hokx := encR_ok l[n].r s
        obtain ⟨er, her⟩ : ∃ x, x = encR l[n].r s := ⟨_, rfl⟩
        rw [← her] at hel hokx
        obtain ⟨er, pb, own⟩ := er
        simp only at hel hokx
        refine zDq (fun (a : Act) (w' : World) => ∃ b13 D2 v2, BB D2 v2 pb ∧ St w0 [O] w' [D2, [(b13, cel (fsC own) 29)], C, X, [(b10, cel (fsC s) 29)], O] ∧ Fr a 121 [(0, .slice (some ⟨g, off, none⟩) l.length cl), (1, .int .i64 i), (2, .int .i64 k), (6, .bool false), (7, .bool true), (8, nilv), (9, v'), (10, ptr b10), (11, .int .i64 n), (12, v2), (13, ptr b13), (14, .int .i64 er)]) ?_ ?_
        · skip
          refine zDb S (.cons (0, 0) (.cons (1, 0) (.cons (2, 0) (.cons (3, 0) (.cons (4, 0) (.fork 5 (.ofL [(6, 0), (7, 0), (8, 0), (9, 2), (10, 1), (11, 0), (12, 3), (13, 2)]) 10 (.ofL [(5, 1), (6, 0), (7, 0), (8, 0), (9, 2), (11, 0), (12, 3), (13, 2)]))))))) [[(b10, cel (fsC s) 29)], O] (fun h => h.sub (by first | (simp; done) | (simp +contextual; done) | (simp [*]; done))) (by kernel_rfl) (by kernel_rfl) ?_
          clear S; intro w S
          iterate 2 (refine zm E rfl (fun w h => zAe E rfl rfl) ?_; clear E a; intro a E)
          refine zm E rfl (fun w h => by first | exact zBm E rfl rfl rfl rfl rfl rfl (by omega) | exact zBv E rfl rfl rfl rfl rfl rfl (by omega) | exact zBj E rfl rfl rfl rfl rfl rfl (by omega)) ?_; clear E a; intro a E
          refine zm E rfl (fun w h => zDs (vs := [_, _, _, _, _, _, _, _, _, _, _, _, _]) E rfl rfl rfl rfl (hD.elem (lay := RV.lay) RV.lay_len (h.at (by repeat (first | exact mm1 | assumption | apply List.Mem.tail))) hil)) ?_; clear E a; intro a E
          refine zm E rfl (fun w h => zBq (vs := [_, _, _, _]) E rfl rfl rfl (h.one (by repeat (first | exact mm1 | assumption | apply List.Mem.tail))) rfl rfl) ?_; clear E a; intro a E
          refine ⟨?_, ?_⟩
          · skip
            refine zCc E rfl rfl rfl (by decide) rfl Tryz.func16 rfl (by kernel_rfl) rfl (zJl hxR hxs s hso (by repeat (first | exact mm1 | assumption | apply List.Mem.tail)) (by repeat (first | exact hG0 | apply Tab.tail)) (by repeat (first | exact hG1 | apply Tab.tail)) _ S.hp) ?_
            rintro v60 w ⟨v2, D2, he, hB2, hT⟩; clear E a; intro a E
            rw [← her] at he hB2; simp only at he hB2; subst he; have S := S.all hT
            refine ⟨S.stab.sub (by first | (simp; done) | (simp +contextual; done) | (simp [*]; done)), ?_⟩
            refine zm E rfl (fun w h => zAe E rfl rfl) ?_; clear E a; intro a E
            iterate 2 (refine zm E rfl (fun w h => zBp E rfl rfl rfl) ?_; clear E a; intro a E)
            refine zCg E rfl rfl rfl (by decide) (fun w => zBp E rfl rfl rfl) ?_; clear E a; intro a E
            refine zCq rfl rfl (zBs E S rfl rfl (by decide) rfl rfl rfl ?_); clear E S a; intro a w b13 E S; refine ⟨S.stab.sub (by first | (simp; done) | (simp +contextual; done) | (simp [*]; done)), ?_⟩
            refine zm E rfl (fun w h => zAd E rfl rfl) ?_; clear E a; intro a E
            refine zCm rfl rfl (zAz E S rfl rfl rfl rfl (by simp [Value.oneCell']) rfl (by repeat (first | exact pk1 | apply zAc)) (by simp) ?_); clear E S a; intro a w E S; simp only [List.take_succ_cons, List.take_zero, List.drop_succ_cons, List.drop_zero, List.cons_append, List.nil_append, List.append_nil, List.length_cons, List.length_nil, Nat.zero_add, Nat.add_zero] at S
            refine zCg E rfl rfl rfl (by decide) (fun w => zAd E rfl rfl) ?_; clear E a; intro a E
            refine zBw ?_
            refine zAt ?_
            exact ⟨b13, D2, v2, hB2, S.perm (Bs := [D2, [(b13, _)], C, X, [(b10, _)], O]) (zAk (by repeat (first | exact pk1 | apply zAc)) (zAk (by repeat (first | exact pk1 | apply zAc)) (zAk (by repeat (first | exact pk1 | apply zAc)) (zAk (by repeat (first | exact pk1 | apply zAc)) (zAk (by repeat (first | exact pk1 | apply zAc)) (zAk (by repeat (first | exact pk1 | apply zAc)) (zAr _))))))), E.keep (zAa rfl (zAa rfl (zAa rfl (zAa rfl (zAa rfl (zAa rfl (zAa rfl (zAa rfl (zAa rfl (zAa rfl (zAa rfl (zAa rfl zAm))))))))))))⟩
          · skip
            refine zCq rfl rfl (zBs E S rfl rfl (by decide) rfl rfl rfl ?_); clear E S a; intro a w b13 E S; refine ⟨S.stab.sub (by first | (simp; done) | (simp +contextual; done) | (simp [*]; done)), ?_⟩
            refine zCc E rfl rfl rfl (by decide) rfl Tryz.func16 rfl (by kernel_rfl) rfl (zJl hxR hxs s hso (by repeat (first | exact mm1 | assumption | apply List.Mem.tail)) (by repeat (first | exact hG0 | apply Tab.tail)) (by repeat (first | exact hG1 | apply Tab.tail)) _ S.hp) ?_
            rintro v60 w ⟨v2, D2, he, hB2, hT⟩; clear E a; intro a E
            rw [← her] at he hB2; simp only at he hB2; subst he; have S := S.all hT
            refine ⟨S.stab.sub (by first | (simp; done) | (simp +contextual; done) | (simp [*]; done)), ?_⟩
            refine zm E rfl (fun w h => zAe E rfl rfl) ?_; clear E a; intro a E
            iterate 2 (refine zm E rfl (fun w h => zBp E rfl rfl rfl) ?_; clear E a; intro a E)
            refine zCg E rfl rfl rfl (by decide) (fun w => zBp E rfl rfl rfl) ?_; clear E a; intro a E
            refine zm E rfl (fun w h => zAd E rfl rfl) ?_; clear E a; intro a E
            refine zCm rfl rfl (zAz E S rfl rfl rfl rfl (by simp [Value.oneCell']) rfl (by repeat (first | exact pk1 | apply zAc)) (by simp) ?_); clear E S a; intro a w E S; simp only [List.take_succ_cons, List.take_zero, List.drop_succ_cons, List.drop_zero, List.cons_append, List.nil_append, List.append_nil, List.length_cons, List.length_nil, Nat.zero_add, Nat.add_zero] at S
            refine zCg E rfl rfl rfl (by decide) (fun w => zAd E rfl rfl) ?_; clear E a; intro a E
            refine zBw ?_
            refine zAt ?_
            exact ⟨b13, D2, v2, hB2, S.perm (Bs := [D2, [(b13, _)], C, X, [(b10, _)], O]) (zAk (by repeat (first | exact pk1 | apply zAc)) (zAk (by repeat (first | exact pk1 | apply zAc)) (zAk (by repeat (first | exact pk1 | apply zAc)) (zAk (by repeat (first | exact pk1 | apply zAc)) (zAk (by repeat (first | exact pk1 | apply zAc)) (zAk (by repeat (first | exact pk1 | apply zAc)) (zAr _))))))), E.keep (zAa rfl (zAa rfl (zAa rfl (zAa rfl (zAa rfl (zAa rfl (zAa rfl (zAa rfl (zAa rfl (zAa rfl (zAa rfl (zAa rfl zAm))))))))))))⟩
        · clear E S a; intro a w J; obtain ⟨b13, D2, v2, hB2, S, E⟩ := J
          refine zAf hK ?_; clear hK; clear K
          iterate 2 (refine wp_seq_k ?_; intro K hK)
          refine zAb ?_
          refine zp E (zAe E rfl rfl) ?_; clear E a; intro a E
          refine zp E (by first | exact zCw E rfl rfl rfl | exact zBi E rfl rfl rfl rfl | exact zBr E rfl rfl rfl rfl | exact zBk E rfl rfl rfl) ?_; clear E a; intro a E
          refine wpList_nil ?_
          refine zAf hK ?_; clear hK; clear K
          refine zBf E rfl (fun hb => ?_) (fun hb => ?_)
          · replace hb := Nrm.nrm hb
            refine wp_seq_k ?_; intro K hK
            refine zAb ?_
            refine zp E (zAe E rfl rfl) ?_; clear E a; intro a E
            refine zp E (zAd E rfl rfl) ?_; clear E a; intro a E
            refine wpList_nil ?_
            refine zAf hK ?_; clear hK; clear K
            refine wp_ret ?_
            refine zAv ?_; clear hK; clear K
            refine zCn ?_
            refine zAv ?_; clear hK; clear K
            refine zAv ?_
            refine zCn ?_
            refine zAv ?_; clear hK; clear K
            refine ret1 E rfl rfl ?_
            exact ⟨_, rfl, rfl, by repeat (first | exact S.tr | replace S := S.tail)⟩
          · replace hb := Nrm.nrm hb
            refine wp_skip ?_
            refine zAf hK ?_; clear hK; clear K
            refine wp_seq_k ?_; intro K hK
            obtain ⟨a2, c2, rfl⟩ := hB2.slice
            refine zAb ?_
            iterate 2 (refine zp E (zAe E rfl rfl) ?_; clear E a; intro a E)
            refine zAn rfl (zDd (cells := [_]) E S rfl rfl (by decide) rfl rfl rfl rfl rfl (by decide) rfl ?_); clear E S a; intro a w b69 E S
            refine zAn rfl (zCp (by' := 24) E S rfl rfl (by decide) rfl rfl hB (by repeat (first | exact pk1 | apply zAc)) ((zEl (g := b69) (T := 24) (xs := [.slice a2 pb.length c2]) (s := 1) (m := 1) rfl (by simp [Value.oneCell']) (by omega) 1).src (S.stab.at (by repeat (first | exact mm1 | assumption | apply List.Mem.tail))) rfl) rfl rfl rfl rfl rfl rfl (by simp only [maxLen]; omega) (by omega) ?_); clear E S a; intro a w v70 C70 E S hB70
            refine zp E (zAd E rfl rfl) ?_; clear E a; intro a E
            refine wpList_nil ?_
            refine zAf hK ?_; clear hK; clear K
            refine zAb ?_
            refine zp E (zBq (vs := [_, _, _, _]) E rfl rfl rfl (S.get (by repeat (first | exact pk1 | apply zAc))) rfl rfl) ?_; clear E a; intro a E
            refine zAn rfl (zAz E S rfl rfl rfl rfl (by simp [Value.oneCell']) rfl (by repeat (first | exact pk1 | apply zAc)) (by simp) ?_); clear E S a; intro a w E S; simp only [List.take_succ_cons, List.take_zero, List.drop_succ_cons, List.drop_zero, List.cons_append, List.nil_append, List.append_nil, List.length_cons, List.length_nil, Nat.zero_add, Nat.add_zero] at S
            refine wpList_nil ?_
            refine zBh ?_
            refine zAf hK ?_; clear hK; clear K
            refine zAb ?_
            refine zp E (zAe E rfl rfl) ?_; clear E a; intro a E
            refine zp E (zBu E rfl rfl rfl (by first | exact zCl (y := 1) (by omega) | exact w_in (by omega) | exact zBt (by omega) | exact rfl)) ?_; clear E a; intro a E
            refine zp E (zAd E rfl rfl) ?_; clear E a; intro a E
            refine wpList_nil ?_
            refine zBo ?_
            have S := St.drops0 [_, _] (S.front2 (A := [(b69, _)]) (B := [(b13, _)]) (by repeat (first | exact pk1 | apply zAc)) (by repeat (first | exact pk1 | apply zAc)))
            have S := (S.front4 (A := X) (B := D2) (C := C70) (D := [(b10, _)]) (by repeat (first | exact pk1 | apply zAc)) (by repeat (first | exact pk1 | apply zAc)) (by repeat (first | exact pk1 | apply zAc)) (by repeat (first | exact pk1 | apply zAc))).join.perm2
            refine ⟨_, by omega, n + 1, C70, X ++ D2, v70, ps ++ [⟨.slice a2 pb.length c2, pb⟩], own, rfl, by omega, hokx, by simp [hpl], ?_, by rw [List.map_append]; exact hB70, S, E.keep (zAa rfl (zAa rfl (zAa rfl (zAa rfl (zAa rfl (zAa rfl (zAa rfl (zAa rfl (zAa rfl zAm)))))))))⟩
            intro x hx
            rcases List.mem_append.1 hx with q | q
            · exact ⟨(hpv x q).1.sub fun y hy => List.mem_append_left _ hy, (hpv x q).2⟩
            · rw [List.mem_singleton.1 q]; exact ⟨hB2.rd.sub fun y hy => List.mem_append_right _ hy, hel⟩
      · replace hb := Nrm.nrm hb
        refine wp_exit ?_
        refine zBc ?_; clear hK; clear K
        refine zBc ?_
        refine zCi ?_
        refine zAf hK ?_; clear hK; clear K
        refine wp_seq_k ?_; intro K hK
        obtain rfl : n = l.length := by omega
        obtain ⟨av, cv, rfl⟩ := hB.slice
        obtain ⟨g9, rfl⟩ := hB.addr (by omega)
        have hip : i < ps.length := by omega
        have hkp : k < ps.length := by omega
        refine zAb ?_
        iterate 2 (refine zp E (zAe E rfl rfl) ?_; clear E a; intro a E)
        refine zp E (zKh (i := i) E rfl rfl rfl rfl rfl rfl (by omega)) ?_; clear E a; intro a E
        refine zp E (zAj E rfl rfl rfl (by rw [← Nat.zero_add i]; exact hB.rd.cells (S.stab.at (by repeat (first | exact mm1 | assumption | apply List.Mem.tail))) rfl i _ (by rw [List.getElem?_map, List.getElem?_eq_getElem hip]; rfl))) ?_; clear E a; intro a E
        refine zp E (zAd E rfl rfl) ?_; clear E a; intro a E
        refine wpList_nil ?_
        refine zAf hK ?_; clear hK; clear K
        refine wp_seq_k ?_; intro K hK
        refine zAb ?_
        iterate 4 (refine zp E (zAe E rfl rfl) ?_; clear E a; intro a E)
        refine zp E (zKh (i := k) E rfl rfl rfl rfl rfl rfl (by omega)) ?_; clear E a; intro a E
        refine zp E (zAj E rfl rfl rfl (by rw [← Nat.zero_add k]; exact hB.rd.cells (S.stab.at (by repeat (first | exact mm1 | assumption | apply List.Mem.tail))) rfl k _ (by rw [List.getElem?_map, List.getElem?_eq_getElem hkp]; rfl))) ?_; clear E a; intro a E
        refine zp E (zKh (i := i) E rfl rfl rfl rfl rfl rfl (by omega)) ?_; clear E a; intro a E
        refine zAn rfl (wp_elem1 E S rfl rfl rfl rfl (by obtain ⟨q1, q2, q3⟩ := (hpv _ (List.getElem_mem hkp)).1.slice; rw [q3]; rfl) rfl hB (by repeat (first | exact pk1 | apply zAc)) (i := i) (by rw [List.length_map]; omega) rfl ?_); clear E S a; intro a w Cs7 E hBs7 S
        refine wpList_nil ?_
        refine zAf hK ?_; clear hK; clear K
        refine wp_seq_k ?_; intro K hK
        replace E := E.keep (e' := [(2, _), (6, _), (7, _), (8, _), (9, _), (15, _)]) (zAa rfl (zAa rfl (zAa rfl (zAa rfl (zAa rfl (zAa rfl (zAm)))))))
        have hps1 : PVs X (ps.set i ps[k]) := hpv.set i (List.getElem_mem hkp)
        have hB1 := hBs7
        rw [pv_set] at hB1
        refine zAb ?_
        iterate 3 (refine zp E (zAe E rfl rfl) ?_; clear E a; intro a E)
        refine zp E (zKh (i := k) E rfl rfl rfl rfl rfl rfl (by omega)) ?_; clear E a; intro a E
        refine zAn rfl (wp_elem1 E S rfl rfl rfl rfl (by obtain ⟨q1, q2, q3⟩ := (hpv _ (List.getElem_mem hip)).1.slice; rw [q3]; rfl) rfl hB1 (by repeat (first | exact pk1 | apply zAc)) (i := k) (by rw [List.length_map, List.length_set]; omega) rfl ?_); clear E S a; intro a w Cs4 E hBs4 S
        refine wpList_nil ?_
        refine zAf hK ?_; clear hK; clear K
        iterate 2 (refine wp_seq_k ?_; intro K hK)
        have hB2 := hBs4
        rw [pv_set] at hB2
        obtain ⟨qs, hqs⟩ : ∃ qs, qs = (ps.set i ps[k]).set k ps[i] := ⟨_, rfl⟩
        have hql : qs.length = l.length := by rw [hqs, List.length_set, List.length_set, hpl]
        have hqp : PVs X qs := fun x hx => by
          rw [hqs] at hx
          rcases List.mem_or_eq_of_mem_set hx with q | q
          · exact hps1 x q
          · rw [q]; exact hpv _ (List.getElem_mem hip)
        rw [← hqs] at hB2
        refine zAb ?_
        refine zp E (zAd E rfl rfl) ?_; clear E a; intro a E
        refine wpList_nil ?_
        refine zAf hK ?_; clear hK; clear K
        refine wp_block ?_
        refine wp_loop_ghost (fun (m : Nat) (a : Act) (w' : World) => ∃ (n : Nat) (C : zAy) (v' : Value) (bs : List UInt8), m = l.length - n ∧ n ≤ l.length ∧ bs.length ≤ 2085 * n ∧ BB C v' bs ∧ St w0 [O] w' [C, Cs4, X, O] ∧ Fr a 121 [(6, .bool false), (7, .bool true), (8, v'), (9, .slice (some ⟨g9, 0, none⟩) l.length cv), (16, .int .i64 n)]) (l.length) ?_ ?_
        · exact ⟨0, [], _, [], by omega, by omega, by simp, Buf.nil _ _, (S.addNil).only (Bs := [[], Cs4, X, O]) (zAk (by repeat (first | exact pk1 | apply zAc)) (zAk (by repeat (first | exact pk1 | apply zAc)) (zAk (by repeat (first | exact pk1 | apply zAc)) (zAk (by repeat (first | exact pk1 | apply zAc)) (zAr _))))), E.keep (zAa rfl (zAa rfl (zAa rfl (zAa rfl (zAa rfl zAm)))))⟩
        clear E; clear a; (try clear S); rintro m a w ⟨n, C, v', bs, rfl, hn, hbl, hB3, S, E⟩
        iterate 2 (refine wp_seq_k ?_; intro K hK)
        refine zAb ?_
        iterate 2 (refine zp E (zAe E rfl rfl) ?_; clear E a; intro a E)
        refine zp E (by first | exact zBx E rfl rfl rfl | exact zAw E rfl rfl rfl | exact zAq E rfl rfl rfl) ?_; clear E a; intro a E
        refine zp E (zCj E rfl rfl rfl) ?_; clear E a; intro a E
        refine wpList_nil ?_
        refine zAf hK ?_; clear hK; clear K
        refine zBf E rfl (fun hb => ?_) (fun hb => ?_)
        · replace hb := Nrm.nrm hb
          refine wp_skip ?_
          refine zAf hK ?_; clear hK; clear K
          refine wp_seq_k ?_; intro K hK
          refine wp_block ?_
          have hnq : n < qs.length := by omega
          have hqn := hqp _ (List.getElem_mem hnq)
          obtain ⟨y, hy⟩ : ∃ y, y = qs[n] := ⟨_, rfl⟩
          rw [← hy] at hqn
          refine zAb ?_
          iterate 3 (refine zp E (zAe E rfl rfl) ?_; clear E a; intro a E)
          refine zp E (zKh (i := n) E rfl rfl rfl rfl rfl rfl (by omega)) ?_; clear E a; intro a E
          refine zp E (zAj E rfl rfl rfl (by rw [← Nat.zero_add n]; exact hB2.rd.cells (S.stab.at (by repeat (first | exact mm1 | assumption | apply List.Mem.tail))) rfl n y.v (by rw [List.getElem?_map, List.getElem?_eq_getElem hnq, hy]; rfl))) ?_; clear E a; intro a E
          refine zAn rfl (zCp (by' := 1) E S rfl rfl (by decide) rfl rfl hB3 (by repeat (first | exact pk1 | apply zAc)) (hqn.1.src (S.stab.at (by repeat (first | exact mm1 | assumption | apply List.Mem.tail))) rfl) rfl rfl rfl rfl rfl rfl (by simp only [maxLen]; omega) (by omega) ?_); clear E S a; intro a w v98 C98 E S hB98
          refine zp E (zAd E rfl rfl) ?_; clear E a; intro a E
          refine wpList_nil ?_
          refine zBh ?_
          refine zAf hK ?_; clear hK; clear K
          refine zAb ?_
          refine zp E (zAe E rfl rfl) ?_; clear E a; intro a E
          refine zp E (zBu E rfl rfl rfl (by first | exact zCl (y := 1) (by omega) | exact w_in (by omega) | exact zBt (by omega) | exact rfl)) ?_; clear E a; intro a E
          refine zp E (zAd E rfl rfl) ?_; clear E a; intro a E
          refine wpList_nil ?_
          refine zBo ?_
          exact ⟨_, by omega, n + 1, C98, v98, bs ++ y.bs, rfl, by omega, by rw [List.length_append]; have := hqn.2; omega, zJk hB98, S, E.keep (zAa rfl (zAa rfl (zAa rfl (zAa rfl (zAa rfl zAm)))))⟩
        · replace hb := Nrm.nrm hb
          refine wp_exit ?_
          refine zBc ?_; clear hK; clear K
          refine zBc ?_
          refine zCi ?_
          refine zAf hK ?_; clear hK; clear K
          refine wp_seq_k ?_; intro K hK
          obtain ⟨a5, c5, rfl⟩ := hB3.slice
          have hc5 := hB3.cap_le
          have hsm := recs_sml bs
          have hrl := recs_len bs
          obtain ⟨z, hz⟩ : ∃ z, z = zHd bs := ⟨_, rfl⟩
          rw [← hz] at hsm hrl
          obtain ⟨e3, l3⟩ := z
          simp only at hsm hrl
          refine zAb ?_
          refine zp E (zAe E rfl rfl) ?_; clear E a; intro a E
          refine zAp E rfl rfl (by decide) rfl Tryz.func20 rfl (by kernel_rfl) rfl (records_ret C a5 c5 bs hB3.rd hc5 (by repeat (first | exact mm1 | assumption | apply List.Mem.tail)) (by repeat (first | exact hG | apply Tab.tail)) _ S.hp) ?_
          rintro v101 w ⟨v5, C5, X5, L5, he, hC5, hX5, hm5, hT⟩; clear E a; intro a E
          rw [← hz] at he hm5; simp only at he hm5; subst he; have S := S.all hT
          refine zp E (zAe E rfl rfl) ?_; clear E a; intro a E
          iterate 2 (refine zp E (zBp E rfl rfl rfl) ?_; clear E a; intro a E)
          iterate 2 (refine zp E (zAd E rfl rfl) ?_; clear E a; intro a E)
          refine wpList_nil ?_
          refine zAf hK ?_; clear hK; clear K
          refine wp_seq_k ?_; intro K hK
          refine zAb ?_
          refine zp E (zAe E rfl rfl) ?_; clear E a; intro a E
          refine zAp E rfl rfl (by decide) rfl Tryz.func21 rfl (by kernel_rfl) rfl (urecords_ret C a5 c5 bs hB3.rd hc5 (by repeat (first | exact mm1 | assumption | apply List.Mem.tail)) (by repeat (first | exact hG0 | apply Tab.tail)) (by repeat (first | exact hG1 | apply Tab.tail)) _ S.hp) ?_
          rintro v106 w ⟨v6, C6, X6, L6, he, hC6, hX6, hm6, hT⟩; clear E a; intro a E
          rw [← hz] at he hm6; simp only at he hm6; subst he; have S := S.all hT
          refine zp E (zAe E rfl rfl) ?_; clear E a; intro a E
          iterate 2 (refine zp E (zBp E rfl rfl rfl) ?_; clear E a; intro a E)
          iterate 2 (refine zp E (zAd E rfl rfl) ?_; clear E a; intro a E)
          refine wpList_nil ?_
          refine zAf hK ?_; clear hK; clear K
          refine wp_seq_k ?_; intro K hK
          refine zAb ?_
          iterate 2 (refine zp E (zAe E rfl rfl) ?_; clear E a; intro a E)
          refine zAp E rfl rfl (by decide) rfl Tryz.func22 rfl (by kernel_rfl) rfl (usameall_ret hC5.rd hX5 hC6.rd hX6 (fun x hx => hsm _ (by rw [← hm5]; exact List.mem_map_of_mem hx)) (by have := congrArg List.length hm5; rw [List.length_map] at this; omega) l3 l3 hm5.symm hm6.symm (by repeat (first | exact mm1 | assumption | apply List.Mem.tail)) (by repeat (first | exact mm1 | assumption | apply List.Mem.tail)) (by repeat (first | exact mm1 | assumption | apply List.Mem.tail)) (by repeat (first | exact mm1 | assumption | apply List.Mem.tail)) _ S.hp) ?_
          rintro v111 w ⟨zz, rfl, hzz, hT⟩; clear E a; intro a E
          obtain rfl := hzz.2 rfl; have S := S.all hT
          refine zp E (zAd E rfl rfl) ?_; clear E a; intro a E
          refine wpList_nil ?_
          refine zAf hK ?_; clear hK; clear K
          refine wp_seq_k ?_; intro K hK
          replace E := E.keep (e' := [(6, _), (7, _), (18, _), (20, _), (21, _)]) (zAa rfl (zAa rfl (zAa rfl (zAa rfl (zAa rfl (zAm))))))
          refine zAb ?_
          iterate 2 (refine zp E (zAe E rfl rfl) ?_; clear E a; intro a E)
          refine zDu E (t := 113) rfl (rfl) (fun hb113 => ?_)
          refine zy E hb113 (zAe E rfl rfl) ?_; clear E a; intro a E
          refine zp E (zAl E rfl rfl hb113 rfl) ?_; clear E a; intro a E
          refine zp E (zAe E rfl rfl) ?_; clear E a; intro a E
          refine zDu E (t := 116) rfl (rfl) (fun hb116 => ?_)
          iterate 2 (refine zy E hb116 (zAe E rfl rfl) ?_; clear E a; intro a E)
          refine zy E hb116 (by first | exact zCe E rfl rfl rfl | exact zAu E rfl rfl rfl rfl | exact zBe E rfl rfl rfl rfl | exact zAx E rfl rfl rfl) ?_; clear E a; intro a E
          refine zp E (zAl E rfl rfl hb116 rfl) ?_; clear E a; intro a E
          refine zp E (zAd E rfl rfl) ?_; clear E a; intro a E
          refine wpList_nil ?_
          refine zAf hK ?_; clear hK; clear K
          refine wp_ret ?_
          refine ret1 E rfl rfl ?_
          exact ⟨_, rfl, by simp, by repeat (first | exact S.tr | replace S := S.tail)⟩
end Go.Proofs.YtbogecljkaimdaaGreatDoor
namespace Go.Sl
open Go.ChangeShapes Go.WideShapes Go.ChangeAt Go.RowKit Go.ChangeMaps
def old (w : World) : zAy := w.heap.toList.zipIdx.map fun x => (x.2, x.1)
theorem mem_old {w : World} {b : Nat} {o : Obj} (h : w.heap[b]? = some o) : (b, o) ∈ old w := by
  refine List.mem_map.2 ⟨(o, b), ?_, rfl⟩
  rw [List.mem_zipIdx_iff_getElem?]
  simpa using h
theorem old_own (w : World) : Own w (old w) := by
  refine ⟨?_, fun x hx => ?_⟩
  · have : (old w).map (·.1) = List.range' 0 w.heap.toList.length := by simp [old, Function.comp_def]
    rw [this]; exact List.nodup_range'
  · obtain ⟨y, hy, rfl⟩ := List.mem_map.1 hx
    rw [List.mem_zipIdx_iff_getElem?] at hy
    simpa using hy
theorem hp_old (w : World) : Hp w [old w] := by simpa [Hp] using old_own w
theorem below_old {w w' : World} {Bs : List zAy} (h : Trs w w' [old w] (old w :: Bs)) : Below w.heap.size w w' :=
  ⟨h.os, h.tape, h.output, h.size, fun k hk => by
    have e : w.heap[k]? = some w.heap[k] := Array.getElem?_eq_getElem hk
    rw [e]
    have h1 := h.own [] (by simpa using old_own w)
    exact h1.2 (k, w.heap[k]) (by simp [mem_old e])⟩
def Dec {H : Type} (enc : TypeId × Value → H) (P : Program) (w : World) (e : TypeId) (s : Nat) {α : Type} (lay : α → List Value) (good : α → Prop) : Prop :=
  ∀ n cs x, DataW.trod enc P w 0 (fun _ => true) true n e cs = some x → cs.length = s → (x.1.weights P e).all (· ≤ reachBytes) = true → ∃ a, cs = lay a ∧ good a
section
variable {H : Type} {enc : TypeId × Value → H} {P : Program} {w : World} {t e : TypeId} {s : Nat} {α : Type} {lay : α → List Value} {good : α → Prop}
theorem Dec.imp {good' : α → Prop} (h : Dec enc P w e s lay good) (k : ∀ a, good a → good' a) : Dec enc P w e s lay good' := fun n cs x h1 h2 h3 => by
  obtain ⟨a, h4, h5⟩ := h n cs x h1 h2 h3
  exact ⟨a, h4, k a h5⟩
theorem Dec.map {β : Type} {lay' : β → List Value} {good' : β → Prop} (h : Dec enc P w e s lay good) (k : ∀ a, good a → ∃ b, lay a = lay' b ∧ good' b) : Dec enc P w e s lay' good' := fun n cs x h1 h2 h3 => by
  obtain ⟨a, h4, h5⟩ := h n cs x h1 h2 h3
  obtain ⟨b, h6, h7⟩ := k a h5
  exact ⟨b, h4.trans h6, h7⟩
theorem dec_int {k : IntKind} (ht : P.underlying t = some (.int k)) : Dec enc P w t 1 (fun z => [.int k z]) (fun z => (Lit.int k z).wf = true) := fun n cs x h _ _ => by
  obtain ⟨z, h1, _, h2⟩ := DataW.trod_int ht h
  exact ⟨z, h1, h2⟩
theorem dec_i64 (ht : P.underlying t = some (.int .i64)) : Dec enc P w t 1 (fun z => [.int .i64 z]) (fun z => -9223372036854775808 ≤ z ∧ z ≤ 9223372036854775807) :=
  (dec_int ht).imp fun z hz => by simpa [Lit.wf, IntKind.min, IntKind.max, IntKind.signed, IntKind.bits] using hz
theorem dec_u8 (ht : P.underlying t = some (.int .u8)) : Dec enc P w t 1 (fun b : UInt8 => [.int .u8 b.toNat]) (fun _ => True) :=
  (dec_int ht).map fun z hz => by
    have hz : 0 ≤ z ∧ z ≤ 255 := by simpa [Lit.wf, IntKind.min, IntKind.max, IntKind.signed, IntKind.bits] using hz
    refine ⟨UInt8.ofNat z.toNat, ?_, trivial⟩
    have : (UInt8.ofNat z.toNat).toNat = z.toNat := by simp; omega
    rw [this, Int.toNat_of_nonneg hz.1]
theorem zIe : ∀ {ds : List (DataW H)} {d : DataW H}, d ∈ ds → ∀ n ∈ d.weights P e, n ∈ DataW.weightsAll P e ds
  | d0 :: ds, d, hd, n, hn => by
    simp only [DataW.weightsAll, List.mem_append]
    rcases List.mem_cons.1 hd with rfl | hd
    · exact .inl hn
    · exact .inr (zIe hd n hn)
  | [], _, hd, _, _ => by cases hd
theorem list_of {n : Nat} {p : Nat → α → Prop} (h : ∀ i, i < n → ∃ a, p i a) : ∃ asx : List α, asx.length = n ∧ ∀ i a, asx[i]? = some a → p i a := by
  induction n with
  | zero => exact ⟨[], rfl, by simp⟩
  | succ n ih =>
    obtain ⟨asx, h1, h2⟩ := ih (fun i hi => h i (by omega))
    obtain ⟨a, ha⟩ := h n (by omega)
    refine ⟨asx ++ [a], by simp [h1], fun i b hb => ?_⟩
    by_cases hi : i < n
    · rw [List.getElem?_append_left (by omega)] at hb; exact h2 i b hb
    · rw [List.getElem?_append_right (by omega)] at hb
      have : i = n := by
        have := (List.getElem?_eq_some_iff.1 hb).1
        simp at this; omega
      subst this
      simp [h1] at hb
      exact hb ▸ ha
theorem flat_get {asx : List α} (hl : ∀ a ∈ asx, (lay a).length = s) {l : Array Value} {off : Nat} : ∀ (k : Nat), (∀ i a, asx[i]? = some a → ∀ j v, (lay a)[j]? = some v → l[off + (k + i) * s + j]? = some v) →
    ∀ i u, (asx.flatMap lay)[i]? = some u → l[off + k * s + i]? = some u := by
  induction asx with
  | nil => intro k _ i u h; simp at h
  | cons a r ih =>
    intro k h i u hu
    rw [List.flatMap_cons] at hu
    have ha := hl a (List.mem_cons_self ..)
    by_cases hi : i < s
    · rw [List.getElem?_append_left (by omega)] at hu
      exact h 0 a rfl i u hu
    · rw [List.getElem?_append_right (by omega), ha] at hu
      have := ih (fun b hb => hl b (List.mem_cons_of_mem _ hb)) (k + 1) (fun i b hb j v hv => by
        have := h (i + 1) b (by simpa using hb) j v hv
        rwa [show k + 1 + i = k + (i + 1) by omega]) (i - s) u hu
      rw [Nat.succ_mul] at this
      rwa [show off + (k * s + s) + (i - s) = off + k * s + i by omega] at this
theorem flat_length {asx : List α} (hl : ∀ a ∈ asx, (lay a).length = s) : (asx.flatMap lay).length = asx.length * s := by
  induction asx with
  | nil => simp
  | cons a r ih => rw [List.flatMap_cons, List.length_append, ih (fun b hb => hl b (List.mem_cons_of_mem _ hb)), hl a (List.mem_cons_self ..), List.length_cons, Nat.succ_mul, Nat.add_comm]
def OldS (w : World) (s sz : Nat) (lay : α → List Value) (good : α → Prop) (x : Value × List α) : Prop :=
  ∃ ad c, x.1 = .slice ad x.2.length c ∧ x.2.length ≤ c ∧ c * sz ≤ 140737488351232 ∧ Rd (old w) s x.1 x.2.length (x.2.flatMap lay) ∧ ∀ a ∈ x.2, good a
theorem dec_fields {fs : Array Field} (ht : P.underlying t = some (.struct fs)) {n : Nat} {cs : List Value} {x : DataW H × List MemPlace} (h : DataW.trod enc P w 0 (fun _ => true) true n t cs = some x) (hw : (x.1.weights P t).all (· ≤ reachBytes) = true)
    {i : Nat} {f : Field} (hf : fs[i]? = some f) (hd : Dec enc P w f.type s lay good) (hs : ((cs.drop f.offset).take (P.cellsOf f.type)).length = s) : ∃ a, (cs.drop f.offset).take (P.cellsOf f.type) = lay a ∧ good a := by
  obtain ⟨xs, m, rfl, rfl, hl, hxs, hx⟩ := DataW.trod_struct ht h
  have hi : i < fs.size := (Array.getElem?_eq_some_iff.1 hf).1
  have h1 := hx i f hf
  rw [List.getElem?_eq_getElem (by omega)] at h1
  refine hd _ _ _ h1 hs (List.all_eq_true.2 fun k hk => ?_)
  simp only [DataW.weights, ht] at hw
  exact List.all_eq_true.1 hw k (DataW.weights_mem_each (j := i) (by simpa using ⟨f, hf, rfl⟩) (by simp [List.getElem?_eq_getElem (show i < xs.length by omega)]) k hk)
theorem zFn {fs : Array Field} (i off : Nat) {ft : TypeId} (ht : P.underlying t = some (.struct fs)) {n : Nat} {cs : List Value} {x : DataW H × List MemPlace} (h : DataW.trod enc P w 0 (fun _ => true) true n t cs = some x) (hw : (x.1.weights P t).all (· ≤ reachBytes) = true)
    (hf : (fs[i]?).map (fun f => (f.type, f.offset)) = some (ft, off)) (hc : P.cellsOf ft = s) (hd : Dec enc P w ft s lay good) (hs : off + s ≤ cs.length) : ∃ a, (cs.drop off).take s = lay a ∧ good a := by
  rw [Option.map_eq_some_iff] at hf
  obtain ⟨f, h1, h2⟩ := hf
  cases h2
  have := dec_fields ht h hw h1 hd (by rw [hc, List.length_take, List.length_drop]; omega)
  rwa [hc] at this
theorem Dec.arg (hd : Dec enc P w t 1 lay good) {v : Value} {d : DataW H} {p : List MemPlace} (h : DataW.Trod enc P w 0 (fun _ => true) true t v d p) (h1 : v.cells.toList = [v]) {ts : List TypeId} {ds : List (DataW H)}
    (hw : (DataW.weightsEach P ts ds).all (· ≤ reachBytes) = true) {j : Nat} (ht : ts[j]? = some t) (hdj : ds[j]? = some d) : ∃ a, [v] = lay a ∧ good a := by
  obtain ⟨n, hn⟩ := h
  rw [h1] at hn
  exact hd n _ _ hn rfl (List.all_eq_true.2 fun k hk => List.all_eq_true.1 hw k (DataW.weights_mem_each ht hdj k hk))
theorem one_slice {b : Nat} (ht : P.underlying t = some (.slice e)) {v : Value} (h : Value.okWide P w .any b t v) : v.cells.toList = [v] := by
  obtain ⟨a, l, c, rfl⟩ := okWide_slice ht h
  rfl
theorem one_int {b : Nat} {k : IntKind} (ht : P.underlying t = some (.int k)) {v : Value} (h : Value.okWide P w .any b t v) : v.cells.toList = [v] := by
  obtain ⟨s, rfl⟩ := okWide_int ht h
  rfl
theorem flat_byt (bs : List UInt8) : (bs.flatMap fun b => [Value.int .u8 b.toNat]) = byt bs := by
  induction bs with
  | nil => rfl
  | cons b r ih => rw [List.flatMap_cons, ih]; rfl
end
end Go.Sl
namespace Go.Proofs.YtbogecljkaimdaaGreatDoor
open Go.Sl Go.ChangeShapes Go.WideShapes Go.RowKit
theorem zJd {P : Program} {W : World} {nm : String} {g m : Nat} {t e : TypeId} {cs : Array Value} {fuel : Nat} {p : List MemPlace} (l : List Int) (hg : P.globalNamed nm = some g) (ht : P.underlying t = some (.array m e)) (he : P.underlying e = some (.int .u32)) (ce : P.cellsOf e = 1) (ct : P.cellsOf t = l.length) (hm : m = l.length)
    (hv : W.var? P nm = some cs) (hd : DataW.trod (fun _ : TypeId × Value => ()) P W 0 (fun _ => true) false fuel t cs.toList = some (DataW.agg (l.map fun n => .lit (.int .u32 n)), p)) : Tab [old W] g l := by
  subst hm
  obtain ⟨xs, k, _, ex, hlen, hl, hel⟩ := DataW.trod_array ht hd
  rw [ct] at hlen
  have e3 : (xs.map (·.1)) = l.map fun n => (DataW.lit (.int .u32 n) : DataW Unit) := (DataW.agg.inj (Prod.mk.inj ex).1).symm
  have hcs : cs.toList = u32s l := by
    apply List.ext_getElem?
    intro i
    rcases Nat.lt_or_ge i l.length with hi | hi
    · have hE := hel i hi
      rw [ce, Nat.mul_one, List.getElem?_eq_getElem (by omega)] at hE
      obtain ⟨z, e1, e2, _⟩ := DataW.trod_int he hE
      have e4 : (xs.map (·.1))[i]? = (l.map fun n => (DataW.lit (.int .u32 n) : DataW Unit))[i]? := by rw [e3]
      rw [List.getElem?_map, List.getElem?_map, List.getElem?_eq_getElem (by omega : i < xs.length), List.getElem?_eq_getElem hi, e2] at e4
      simp only [Option.map_some, Option.some.injEq, DataW.lit.injEq, Lit.int.injEq, true_and] at e4
      have h0 : ((cs.toList.drop i).take 1)[0]? = some (.int .u32 z) := by rw [e1]; rfl
      have h1 : cs.toList[i]? = some (.int .u32 z) := by simpa using h0
      rw [h1, e4]
      simp [u32s, hi]
    · rw [List.getElem?_eq_none (by omega), List.getElem?_eq_none (by simp [u32s]; omega)]
  simp only [World.var?, hg, Option.bind_some] at hv
  split at hv
  · rename_i c T fr hh
    cases hv
    exact ⟨_, List.Mem.head _, T, fr, mem_old (by rw [← hcs]; simpa using hh)⟩
  · cases hv
end Go.Proofs.YtbogecljkaimdaaGreatDoor
