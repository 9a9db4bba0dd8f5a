/-
  Texts put together (11).
-/
import Derived.Test.YtbogecljkaimdaaGreatDoorZRecordCut10
namespace Go.Proofs.YtbogecljkaimdaaGreatDoor
open Go.Sl
set_option maxRecDepth 10000
theorem w_remn (a b : Nat) : ((a : Int)).tmod (b : Int) = ((a % b : Nat) : Int) := by rw [Int.tmod_eq_emod_of_nonneg (by omega)]; rfl
set_option maxHeartbeats 2000000 in
theorem cut_walk (O : zAs) (hG : Tab [O] 2 shaK) (r : Rec) (pv kv dv : Value) (hX : RecR O r pv kv dv) (hs : Sml r) (s : Fs) (hok : s.Ok) (k : Int) (hk : -9223372036854775808 ≤ k ∧ k ≤ 9223372036854775807) (w0 : World) (H : Hp w0 [O]) :
    Ret Tryz.prog 5 #[.agg (r.cells pv kv dv).toArray, s.agg, .int .i64 k] w0 fun u w' => u = .bool true ∧ Trs w0 w' [O] [O] := by
  have S := St.begin H
  obtain ⟨ad1, c1, e1⟩ := hX.pr.slice
  obtain ⟨ad2, c2, e2⟩ := hX.kr.slice
  obtain ⟨ad3, c3, e3⟩ := hX.dr.slice
  subst e1 e2 e3
  have hel := encR_len r s
  have hyes : ckB r = true → encR r s = (0, zCx r.kind (zDm r.kind r) s, ownS r.kind (zDm r.kind r) s) := fun h => zIk h s
  have hno : ckB r = false → encR r s = (200, [], zFd) := fun h => encR_no h s
  obtain ⟨er, her⟩ : ∃ x, x = encR r s := ⟨_, rfl⟩
  rw [← her] at hel hyes hno
  obtain ⟨er, pb, own⟩ := er
  simp only at hel
  refine zFt 105 Tryz.func5 rfl rfl (by decide) ?_; intro a E
  refine wp_seq_k ?_; intro K hK
  refine zAc ?_
  refine zAm rfl (zCk E S rfl rfl (by decide) rfl rfl ?_); clear E S a; intro a w b3 E S
  refine zAm rfl (zCk E S rfl rfl (by decide) rfl rfl ?_); clear E S a; intro a w b4 E S
  refine zp E (zAe E rfl rfl) ?_; clear E a; intro a E
  refine wpList_nil ?_
  refine zAf hK ?_; clear hK; clear K
  refine wp_seq_k ?_; intro K hK
  refine zAc ?_
  refine zAo E rfl rfl (by decide) rfl Tryz.func9 rfl (by kernel_rfl) rfl (awake_ret (by repeat (first | exact hG | apply Tab.tail)) _ S.hp) ?_
  rintro v22 w ⟨rfl, hT⟩; clear E a; intro a E
  have S := S.all hT
  refine zp E (zAe E rfl rfl) ?_; clear E a; intro a E
  refine wpList_nil ?_
  refine zAf hK ?_; clear hK; clear K
  refine wp_seq_k ?_; intro K hK
  refine zAc ?_
  refine zp E (zBm (vs := [_, _, _, _, _, _, _, _, _, _, _, _, _]) E rfl rfl rfl (S.get (by repeat (first | exact pk1 | apply zAa))) rfl rfl) ?_; clear E a; intro a E
  refine zp E (zBm (vs := [_, _, _, _]) E rfl rfl rfl (S.get (by repeat (first | exact pk1 | apply zAa))) rfl rfl) ?_; clear E a; intro a E
  refine zAo E rfl rfl (by decide) rfl Tryz.func12 rfl (by kernel_rfl) rfl (encode2_ret hX hs s (by repeat (first | exact mm1 | assumption | apply List.Mem.tail)) (by repeat (first | exact hG | apply Tab.tail)) _ S.hp) ?_
  rintro v26 w ⟨v2, D2, he, hB2, hT⟩; clear E a; intro a E
  rw [← her] at he hB2; simp only at he hB2; subst he; have S := S.all hT
  obtain ⟨a2, c2', rfl⟩ := hB2.slice
  have hc2 := hB2.cap_le
  refine zp E (zAd E rfl rfl) ?_; clear E a; intro a E
  iterate 3 (refine zp E (zBd E rfl rfl rfl) ?_; clear E a; intro a E)
  refine zAm rfl (zBl E S rfl rfl (by decide) rfl rfl rfl ?_); clear E S a; intro a w b9 E S
  refine zp E (zAe E rfl rfl) ?_; clear E a; intro a E
  refine zAm rfl (zAy E S rfl rfl rfl rfl (by simp [Value.oneCell']) rfl (by repeat (first | exact pk1 | apply zAa)) (by simp) ?_); clear E S a; intro a w E S; simp only [List.take_succ_cons, List.take_zero, List.drop_succ_cons, List.drop_zero, List.cons_append, List.nil_append, List.append_nil, List.length_cons, List.length_nil, Nat.zero_add, Nat.add_zero] at S
  refine zp E (zAe E rfl rfl) ?_; clear E a; intro a E
  refine wpList_nil ?_
  refine zAf hK ?_; clear hK; clear K
  iterate 2 (refine wp_seq_k ?_; intro K hK)
  refine zGo (fun (a : Act) (w' : World) => ∃ z, (z = true ↔ ckB r = false) ∧ St w0 [O] w' [[(b9, cel (fsC own) 29)], D2, [(b4, cel (fsC s) 29)], [(b3, cel (r.cells (.slice ad1 r.props.length c1) (.slice ad2 r.keep.length c2) (.slice ad3 r.data.length c3)) 26)], O] ∧ Fr a 105 [(2, .int .i64 k), (3, ptr b3), (4, ptr b4), (6, .bool false), (7, .bool true), (8, .slice a2 pb.length c2'), (9, ptr b9), (10, .int .i64 er), (36, .bool z)]) ?_ ?_
  · skip
    refine zAc ?_
    refine zp E (zAd E rfl rfl) ?_; clear E a; intro a E
    refine zp E (by first | exact zDk E rfl rfl rfl | exact zBi E rfl rfl rfl rfl | exact zBr E rfl rfl rfl rfl | exact zBk E rfl rfl rfl) ?_; clear E a; intro a E
    refine zp E (zAd E rfl rfl) ?_; clear E a; intro a E
    refine zAv E (t := 32) rfl (fun hb32 => ?_) (fun hb32 => ?_)
    · have hb32n := hb32; replace hb32n := Nrm.nrm hb32n
      iterate 3 (refine zn E hb32 ?_; clear E a; intro a E)
      refine zp E (zAj E rfl rfl hb32 rfl) ?_; clear E a; intro a E
      refine wpList_nil ?_
      refine zBo ?_
      refine ⟨_, ?_, S, E.keep (zAb rfl (zAb rfl (zAb rfl (zAb rfl (zAb rfl (zAb rfl (zAb rfl (zAb rfl (zAb rfl zAq)))))))))⟩
      cases hck : ckB r with
      | false => have := hno hck; simp only [Prod.mk.injEq] at this; simp [this.1]
      | true => have := hyes hck; simp only [Prod.mk.injEq] at this; exact absurd this.1 hb32n
    · have hb32n := hb32; replace hb32n := Nrm.nrm hb32n
      refine zy E hb32 (zAd E rfl rfl) ?_; clear E a; intro a E
      refine zy E hb32 (by first | exact zBz E rfl rfl rfl | exact zAz E rfl rfl rfl | exact zAr E rfl rfl rfl) ?_; clear E a; intro a E
      refine zy E hb32 (zCv E rfl rfl rfl) ?_; clear E a; intro a E
      refine zp E (zAk E rfl rfl hb32 rfl) ?_; clear E a; intro a E
      refine wpList_nil ?_
      refine zBo ?_
      refine ⟨_, ?_, S, E.keep (zAb rfl (zAb rfl (zAb rfl (zAb rfl (zAb rfl (zAb rfl (zAb rfl (zAb rfl (zAb rfl zAq)))))))))⟩
      cases hck : ckB r with
      | false => have := hno hck; simp only [Prod.mk.injEq] at this; omega
      | true =>
        have := hyes hck
        simp only [Prod.mk.injEq] at this
        have hl := zDy r.kind (zDm r.kind r) s
        rw [← this.2.1] at hl
        simp; omega
  · clear E S a; intro a w J; obtain ⟨z, hz, S, E⟩ := J
    refine zAf hK ?_; clear hK; clear K
    refine zBj E rfl (fun hb => ?_) (fun hb => ?_)
    · replace hb := Nrm.nrm hb
      have hck := hz.1 hb; have hq := hno hck; simp only [Prod.mk.injEq] at hq
      refine wp_seq_k ?_; intro K hK
      refine zAc ?_
      iterate 2 (refine zp E (zAd E rfl rfl) ?_; clear E a; intro a E)
      refine zCj E (t := 38) rfl (rfl) (fun hb38 => ?_)
      refine zy E hb38 (zAd E rfl rfl) ?_; clear E a; intro a E
      refine zy E hb38 (by first | exact zDk E rfl rfl rfl | exact zBi E rfl rfl rfl rfl | exact zBr E rfl rfl rfl rfl | exact zBk E rfl rfl rfl) ?_; clear E a; intro a E
      refine zp E (zAj E rfl rfl hb38 rfl) ?_; clear E a; intro a E
      refine zp E (zAe E rfl rfl) ?_; clear E a; intro a E
      refine wpList_nil ?_
      refine zAf hK ?_; clear hK; clear K
      refine wp_ret ?_
      refine zAx ?_; clear hK; clear K
      refine ret1 E rfl rfl ?_
      obtain ⟨rfl, -, -⟩ := hq
      exact ⟨_, rfl, rfl, by repeat (first | exact S.tr | replace S := S.tail)⟩
    · replace hb := Nrm.nrm hb
      have hck : ckB r = true := (by cases h : ckB r with | true => rfl | false => rw [hz.2 h] at hb; cases hb); have hq := hyes hck; simp only [Prod.mk.injEq] at hq
      refine wp_skip ?_
      refine zAf hK ?_; clear hK; clear K
      refine wp_seq_k ?_; intro K hK
      obtain ⟨rfl, hpb, hown⟩ := hq
      have hpl := zDy r.kind (zDm r.kind r) s
      rw [← hpb] at hpl
      have hdec := dec_enc hck s []
      rw [List.append_nil, ← hpb, ← hown] at hdec
      have hcut : ∀ j, j < pb.length → decR (pb.take j) s = zFk 10 := fun j hj => by rw [hpb] at hj ⊢; exact dec_cut hck s hj
      refine zAc ?_
      refine zp E (zAd E rfl rfl) ?_; clear E a; intro a E
      refine zp E (zAe E rfl rfl) ?_; clear E a; intro a E
      refine wpList_nil ?_
      refine zAf hK ?_; clear hK; clear K
      iterate 2 (refine wp_seq_k ?_; intro K hK)
      refine zAc ?_
      refine zp E (zAd E rfl rfl) ?_; clear E a; intro a E
      refine zp E (zCv E rfl rfl rfl) ?_; clear E a; intro a E
      refine wpList_nil ?_
      refine zAf hK ?_; clear hK; clear K
      refine zGo (fun (a : Act) (w' : World) => ∃ zn : Nat, zn ≤ 9223372036854775807 ∧ St w0 [O] w' [[(b9, cel (fsC own) 29)], D2, [(b4, cel (fsC s) 29)], [(b3, cel (r.cells (.slice ad1 r.props.length c1) (.slice ad2 r.keep.length c2) (.slice ad3 r.data.length c3)) 26)], O] ∧ Fr a 105 [(3, ptr b3), (4, ptr b4), (6, .bool false), (7, .bool true), (8, .slice a2 pb.length c2'), (10, .int .i64 0), (11, .int .i64 zn)]) ?_ ?_
      · skip
        refine zBj E rfl (fun hb => ?_) (fun hb => ?_)
        · replace hb := Nrm.nrm hb
          refine zAc ?_
          refine zp E (zAd E rfl rfl) ?_; clear E a; intro a E
          refine zp E (zCc E rfl rfl rfl (w_in (by omega))) ?_; clear E a; intro a E
          refine zp E (rn_neg E rfl rfl (by first | exact wn_in (by omega) | exact rfl)) ?_; clear E a; intro a E
          refine zp E (zAe E rfl rfl) ?_; clear E a; intro a E
          refine wpList_nil ?_
          refine zBo ?_
          exact ⟨(-(k + 1)).toNat, by omega, S, by rw [Int.toNat_of_nonneg (by omega)]; exact E.keep (zAb rfl (zAb rfl (zAb rfl (zAb rfl (zAb rfl (zAb rfl (zAb rfl zAq)))))))⟩
        · replace hb := Nrm.nrm hb
          refine wp_skip ?_
          refine zBo ?_
          exact ⟨k.toNat, by omega, S, by rw [Int.toNat_of_nonneg (by omega)]; exact E.keep (zAb rfl (zAb rfl (zAb rfl (zAb rfl (zAb rfl (zAb rfl (zAb rfl zAq)))))))⟩
      · clear S E a; intro a w J; obtain ⟨zn, hzn, S, E⟩ := J
        refine zAf hK ?_; clear hK; clear K
        refine wp_seq_k ?_; intro K hK
        obtain ⟨j, hj⟩ : ∃ j, j = zn % pb.length := ⟨_, rfl⟩
        have hjl : j < pb.length := by rw [hj]; exact Nat.mod_lt _ (by omega)
        have hdc := hcut j hjl
        obtain ⟨a5, he5, hR5, hc5⟩ := sl_take (n := j) hB2.rd hc2 (by omega)
        refine zGo (fun (a : Act) (w' : World) => ∃ b12 b14 X5 q1 n1' q2 n2' q3 n3', zJn X5 (zCu 0) (.slice q1 0 n1') (.slice q2 0 n2') (.slice q3 0 n3') ∧ St w0 [O] w' [X5, [(b12, cel ((zCu 0).cells (.slice q1 0 n1') (.slice q2 0 n2') (.slice q3 0 n3')) 26)], [(b14, cel (fsC zFd) 29)], D2, [(b4, cel (fsC s) 29)], [(b3, cel (r.cells (.slice ad1 r.props.length c1) (.slice ad2 r.keep.length c2) (.slice ad3 r.data.length c3)) 26)], O] ∧ Fr a 105 [(3, ptr b3), (4, ptr b4), (6, .bool false), (7, .bool true), (8, .slice a2 pb.length c2'), (12, ptr b12), (13, .int .i64 0), (14, ptr b14), (15, .int .i64 10)]) ?_ ?_
        · skip
          refine zDo S (.cons (0, 0) (.cons (1, 0) (.cons (2, 0) (.cons (3, 0) (.cons (4, 0) (.cons (5, 0) (.cons (6, 0) (.fork3 7 (.cons (8, 0) (.cons (9, 0) (.cons (10, 0) (.cons (11, 0) (.cons (12, 2) (.fork 13 (.ofL [(14, 1), (15, 1), (16, 0), (17, 3), (18, 2)]) 14 (.ofL [(13, 1), (15, 1), (16, 0), (17, 3), (18, 2)]))))))) 13 (.fork 7 (.ofL [(8, 0), (9, 0), (10, 0), (11, 0), (12, 2), (14, 1), (15, 1), (16, 0), (17, 3), (18, 2)]) 14 (.ofL [(7, 1), (8, 0), (9, 0), (10, 0), (11, 0), (12, 2), (15, 1), (16, 0), (17, 3), (18, 2)])) 14 (.fork 7 (.ofL [(8, 0), (9, 0), (10, 0), (11, 0), (12, 2), (13, 1), (15, 1), (16, 0), (17, 3), (18, 2)]) 13 (.ofL [(7, 1), (8, 0), (9, 0), (10, 0), (11, 0), (12, 2), (15, 1), (16, 0), (17, 3), (18, 2)])))))))))) [[(b4, cel (fsC s) 29)]] (fun h => h.sub (by first | (simp; done) | (simp +contextual; done) | (simp [*]; done))) (by kernel_rfl) (by kernel_rfl) ?_
          clear S; intro w S
          iterate 3 (refine zm E rfl (fun w h => zAd E rfl rfl) ?_; clear E a; intro a E)
          refine zm E rfl (fun w h => by first | exact zBz E rfl rfl rfl | exact zAz E rfl rfl rfl | exact zAr E rfl rfl rfl) ?_; clear E a; intro a E
          refine zm E rfl (fun w h => rn_rem E rfl rfl rfl (by first | decide | omega) (w_remn zn pb.length)) ?_; clear E a; intro a E
          rw [← hj] at E
          refine zm E rfl (fun w h => zEu (hi := j) (s := 1) E rfl rfl rfl rfl rfl rfl (by omega)) ?_; clear E a; intro a E
          rw [he5] at E
          refine zm E rfl (fun w h => zBm (vs := [_, _, _, _]) E rfl rfl rfl (h.one (by repeat (first | exact mm1 | assumption | apply List.Mem.tail))) rfl rfl) ?_; clear E a; intro a E
          refine ⟨?_, ?_, ?_⟩
          · skip
            refine zCg E rfl rfl rfl (by decide) rfl Tryz.func19 rfl (by kernel_rfl) rfl (zEi D2 a5 c2' (pb.take j) hR5 hc5 (by rw [List.length_take]; omega) s (by repeat (first | exact mm1 | assumption | apply List.Mem.tail)) (by repeat (first | exact hG | apply Tab.tail)) _ S.hp) ?_
            rintro v56 w ⟨X5, p5, k5, d5, he, hX5, hT⟩; clear E a; intro a E
            rw [hdc] at he hX5; simp only [zFk, zCu, Rec.cells] at he; subst he; have S := S.all hT
            obtain ⟨q1, n1', rfl⟩ := hX5.rd.pr.slice
            obtain ⟨q2, n2', rfl⟩ := hX5.rd.kr.slice
            obtain ⟨q3, n3', rfl⟩ := hX5.rd.dr.slice
            refine ⟨S.stab.sub (by first | (simp; done) | (simp +contextual; done) | (simp [*]; done)), ?_⟩
            refine zm E rfl (fun w h => zAd E rfl rfl) ?_; clear E a; intro a E
            iterate 3 (refine zm E rfl (fun w h => zBd E rfl rfl rfl) ?_; clear E a; intro a E)
            refine zCe E rfl rfl rfl (by decide) (fun w => zBd E rfl rfl rfl) ?_; clear E a; intro a E
            refine ⟨?_, ?_⟩
            · skip
              refine zCi rfl rfl (zBl E S rfl rfl (by decide) rfl rfl rfl ?_); clear E S a; intro a w b12 E S; refine ⟨S.stab.sub (by first | (simp; done) | (simp +contextual; done) | (simp [*]; done)), ?_⟩
              refine zCi rfl rfl (zBl E S rfl rfl (by decide) rfl rfl rfl ?_); clear E S a; intro a w b14 E S; refine ⟨S.stab.sub (by first | (simp; done) | (simp +contextual; done) | (simp [*]; done)), ?_⟩
              refine zCi rfl rfl (zAy E S rfl rfl rfl rfl (by simp [Value.oneCell']) rfl (by repeat (first | exact pk1 | apply zAa)) (by simp) ?_); clear E S a; intro a w E S; simp only [List.take_succ_cons, List.take_zero, List.drop_succ_cons, List.drop_zero, List.cons_append, List.nil_append, List.append_nil, List.length_cons, List.length_nil, Nat.zero_add, Nat.add_zero] at S; refine ⟨S.stab.sub (by first | (simp; done) | (simp +contextual; done) | (simp [*]; done)), ?_⟩
              refine zm E rfl (fun w h => zAe E rfl rfl) ?_; clear E a; intro a E
              refine zCm rfl rfl (zAy E S rfl rfl rfl rfl (by simp [Value.oneCell']) rfl (by repeat (first | exact pk1 | apply zAa)) (by simp) ?_); clear E S a; intro a w E S; simp only [List.take_succ_cons, List.take_zero, List.drop_succ_cons, List.drop_zero, List.cons_append, List.nil_append, List.append_nil, List.length_cons, List.length_nil, Nat.zero_add, Nat.add_zero] at S
              refine zCe E rfl rfl rfl (by decide) (fun w => zAe E rfl rfl) ?_; clear E a; intro a E
              refine zBw ?_
              refine zBo ?_
              exact ⟨b12, b14, X5, q1, n1', q2, n2', q3, n3', hX5, (S.front1 (A := [(b9, _)]) (by repeat (first | exact pk1 | apply zAa))).tail.perm (Bs := [X5, [(b12, _)], [(b14, _)], D2, [(b4, _)], [(b3, _)], O]) (zAi (by repeat (first | exact pk1 | apply zAa)) (zAi (by repeat (first | exact pk1 | apply zAa)) (zAi (by repeat (first | exact pk1 | apply zAa)) (zAi (by repeat (first | exact pk1 | apply zAa)) (zAi (by repeat (first | exact pk1 | apply zAa)) (zAi (by repeat (first | exact pk1 | apply zAa)) (zAi (by repeat (first | exact pk1 | apply zAa)) (zAn _)))))))), E.keep (zAb rfl (zAb rfl (zAb rfl (zAb rfl (zAb rfl (zAb rfl (zAb rfl (zAb rfl (zAb rfl zAq)))))))))⟩
            · skip
              refine zCi rfl rfl (zBl E S rfl rfl (by decide) rfl rfl rfl ?_); clear E S a; intro a w b14 E S; refine ⟨S.stab.sub (by first | (simp; done) | (simp +contextual; done) | (simp [*]; done)), ?_⟩
              refine zCi rfl rfl (zBl E S rfl rfl (by decide) rfl rfl rfl ?_); clear E S a; intro a w b12 E S; refine ⟨S.stab.sub (by first | (simp; done) | (simp +contextual; done) | (simp [*]; done)), ?_⟩
              refine zCi rfl rfl (zAy E S rfl rfl rfl rfl (by simp [Value.oneCell']) rfl (by repeat (first | exact pk1 | apply zAa)) (by simp) ?_); clear E S a; intro a w E S; simp only [List.take_succ_cons, List.take_zero, List.drop_succ_cons, List.drop_zero, List.cons_append, List.nil_append, List.append_nil, List.length_cons, List.length_nil, Nat.zero_add, Nat.add_zero] at S; refine ⟨S.stab.sub (by first | (simp; done) | (simp +contextual; done) | (simp [*]; done)), ?_⟩
              refine zm E rfl (fun w h => zAe E rfl rfl) ?_; clear E a; intro a E
              refine zCm rfl rfl (zAy E S rfl rfl rfl rfl (by simp [Value.oneCell']) rfl (by repeat (first | exact pk1 | apply zAa)) (by simp) ?_); clear E S a; intro a w E S; simp only [List.take_succ_cons, List.take_zero, List.drop_succ_cons, List.drop_zero, List.cons_append, List.nil_append, List.append_nil, List.length_cons, List.length_nil, Nat.zero_add, Nat.add_zero] at S
              refine zCe E rfl rfl rfl (by decide) (fun w => zAe E rfl rfl) ?_; clear E a; intro a E
              refine zBw ?_
              refine zBo ?_
              exact ⟨b12, b14, X5, q1, n1', q2, n2', q3, n3', hX5, (S.front1 (A := [(b9, _)]) (by repeat (first | exact pk1 | apply zAa))).tail.perm (Bs := [X5, [(b12, _)], [(b14, _)], D2, [(b4, _)], [(b3, _)], O]) (zAi (by repeat (first | exact pk1 | apply zAa)) (zAi (by repeat (first | exact pk1 | apply zAa)) (zAi (by repeat (first | exact pk1 | apply zAa)) (zAi (by repeat (first | exact pk1 | apply zAa)) (zAi (by repeat (first | exact pk1 | apply zAa)) (zAi (by repeat (first | exact pk1 | apply zAa)) (zAi (by repeat (first | exact pk1 | apply zAa)) (zAn _)))))))), E.keep (zAb rfl (zAb rfl (zAb rfl (zAb rfl (zAb rfl (zAb rfl (zAb rfl (zAb rfl (zAb rfl zAq)))))))))⟩
          · skip
            refine zCi rfl rfl (zBl E S rfl rfl (by decide) rfl rfl rfl ?_); clear E S a; intro a w b12 E S; refine ⟨S.stab.sub (by first | (simp; done) | (simp +contextual; done) | (simp [*]; done)), ?_⟩
            refine ⟨?_, ?_⟩
            · skip
              refine zCg E rfl rfl rfl (by decide) rfl Tryz.func19 rfl (by kernel_rfl) rfl (zEi D2 a5 c2' (pb.take j) hR5 hc5 (by rw [List.length_take]; omega) s (by repeat (first | exact mm1 | assumption | apply List.Mem.tail)) (by repeat (first | exact hG | apply Tab.tail)) _ S.hp) ?_
              rintro v56 w ⟨X5, p5, k5, d5, he, hX5, hT⟩; clear E a; intro a E
              rw [hdc] at he hX5; simp only [zFk, zCu, Rec.cells] at he; subst he; have S := S.all hT
              obtain ⟨q1, n1', rfl⟩ := hX5.rd.pr.slice
              obtain ⟨q2, n2', rfl⟩ := hX5.rd.kr.slice
              obtain ⟨q3, n3', rfl⟩ := hX5.rd.dr.slice
              refine ⟨S.stab.sub (by first | (simp; done) | (simp +contextual; done) | (simp [*]; done)), ?_⟩
              refine zm E rfl (fun w h => zAd E rfl rfl) ?_; clear E a; intro a E
              iterate 3 (refine zm E rfl (fun w h => zBd E rfl rfl rfl) ?_; clear E a; intro a E)
              refine zCe E rfl rfl rfl (by decide) (fun w => zBd E rfl rfl rfl) ?_; clear E a; intro a E
              refine zCi rfl rfl (zBl E S rfl rfl (by decide) rfl rfl rfl ?_); clear E S a; intro a w b14 E S; refine ⟨S.stab.sub (by first | (simp; done) | (simp +contextual; done) | (simp [*]; done)), ?_⟩
              refine zCi rfl rfl (zAy E S rfl rfl rfl rfl (by simp [Value.oneCell']) rfl (by repeat (first | exact pk1 | apply zAa)) (by simp) ?_); clear E S a; intro a w E S; simp only [List.take_succ_cons, List.take_zero, List.drop_succ_cons, List.drop_zero, List.cons_append, List.nil_append, List.append_nil, List.length_cons, List.length_nil, Nat.zero_add, Nat.add_zero] at S; refine ⟨S.stab.sub (by first | (simp; done) | (simp +contextual; done) | (simp [*]; done)), ?_⟩
              refine zm E rfl (fun w h => zAe E rfl rfl) ?_; clear E a; intro a E
              refine zCm rfl rfl (zAy E S rfl rfl rfl rfl (by simp [Value.oneCell']) rfl (by repeat (first | exact pk1 | apply zAa)) (by simp) ?_); clear E S a; intro a w E S; simp only [List.take_succ_cons, List.take_zero, List.drop_succ_cons, List.drop_zero, List.cons_append, List.nil_append, List.append_nil, List.length_cons, List.length_nil, Nat.zero_add, Nat.add_zero] at S
              refine zCe E rfl rfl rfl (by decide) (fun w => zAe E rfl rfl) ?_; clear E a; intro a E
              refine zBw ?_
              refine zBo ?_
              exact ⟨b12, b14, X5, q1, n1', q2, n2', q3, n3', hX5, (S.front1 (A := [(b9, _)]) (by repeat (first | exact pk1 | apply zAa))).tail.perm (Bs := [X5, [(b12, _)], [(b14, _)], D2, [(b4, _)], [(b3, _)], O]) (zAi (by repeat (first | exact pk1 | apply zAa)) (zAi (by repeat (first | exact pk1 | apply zAa)) (zAi (by repeat (first | exact pk1 | apply zAa)) (zAi (by repeat (first | exact pk1 | apply zAa)) (zAi (by repeat (first | exact pk1 | apply zAa)) (zAi (by repeat (first | exact pk1 | apply zAa)) (zAi (by repeat (first | exact pk1 | apply zAa)) (zAn _)))))))), E.keep (zAb rfl (zAb rfl (zAb rfl (zAb rfl (zAb rfl (zAb rfl (zAb rfl (zAb rfl (zAb rfl zAq)))))))))⟩
            · skip
              refine zCi rfl rfl (zBl E S rfl rfl (by decide) rfl rfl rfl ?_); clear E S a; intro a w b14 E S; refine ⟨S.stab.sub (by first | (simp; done) | (simp +contextual; done) | (simp [*]; done)), ?_⟩
              refine zCg E rfl rfl rfl (by decide) rfl Tryz.func19 rfl (by kernel_rfl) rfl (zEi D2 a5 c2' (pb.take j) hR5 hc5 (by rw [List.length_take]; omega) s (by repeat (first | exact mm1 | assumption | apply List.Mem.tail)) (by repeat (first | exact hG | apply Tab.tail)) _ S.hp) ?_
              rintro v56 w ⟨X5, p5, k5, d5, he, hX5, hT⟩; clear E a; intro a E
              rw [hdc] at he hX5; simp only [zFk, zCu, Rec.cells] at he; subst he; have S := S.all hT
              obtain ⟨q1, n1', rfl⟩ := hX5.rd.pr.slice
              obtain ⟨q2, n2', rfl⟩ := hX5.rd.kr.slice
              obtain ⟨q3, n3', rfl⟩ := hX5.rd.dr.slice
              refine ⟨S.stab.sub (by first | (simp; done) | (simp +contextual; done) | (simp [*]; done)), ?_⟩
              refine zm E rfl (fun w h => zAd E rfl rfl) ?_; clear E a; intro a E
              iterate 3 (refine zm E rfl (fun w h => zBd E rfl rfl rfl) ?_; clear E a; intro a E)
              refine zCe E rfl rfl rfl (by decide) (fun w => zBd E rfl rfl rfl) ?_; clear E a; intro a E
              refine zCi rfl rfl (zAy E S rfl rfl rfl rfl (by simp [Value.oneCell']) rfl (by repeat (first | exact pk1 | apply zAa)) (by simp) ?_); clear E S a; intro a w E S; simp only [List.take_succ_cons, List.take_zero, List.drop_succ_cons, List.drop_zero, List.cons_append, List.nil_append, List.append_nil, List.length_cons, List.length_nil, Nat.zero_add, Nat.add_zero] at S; refine ⟨S.stab.sub (by first | (simp; done) | (simp +contextual; done) | (simp [*]; done)), ?_⟩
              refine zm E rfl (fun w h => zAe E rfl rfl) ?_; clear E a; intro a E
              refine zCm rfl rfl (zAy E S rfl rfl rfl rfl (by simp [Value.oneCell']) rfl (by repeat (first | exact pk1 | apply zAa)) (by simp) ?_); clear E S a; intro a w E S; simp only [List.take_succ_cons, List.take_zero, List.drop_succ_cons, List.drop_zero, List.cons_append, List.nil_append, List.append_nil, List.length_cons, List.length_nil, Nat.zero_add, Nat.add_zero] at S
              refine zCe E rfl rfl rfl (by decide) (fun w => zAe E rfl rfl) ?_; clear E a; intro a E
              refine zBw ?_
              refine zBo ?_
              exact ⟨b12, b14, X5, q1, n1', q2, n2', q3, n3', hX5, (S.front1 (A := [(b9, _)]) (by repeat (first | exact pk1 | apply zAa))).tail.perm (Bs := [X5, [(b12, _)], [(b14, _)], D2, [(b4, _)], [(b3, _)], O]) (zAi (by repeat (first | exact pk1 | apply zAa)) (zAi (by repeat (first | exact pk1 | apply zAa)) (zAi (by repeat (first | exact pk1 | apply zAa)) (zAi (by repeat (first | exact pk1 | apply zAa)) (zAi (by repeat (first | exact pk1 | apply zAa)) (zAi (by repeat (first | exact pk1 | apply zAa)) (zAi (by repeat (first | exact pk1 | apply zAa)) (zAn _)))))))), E.keep (zAb rfl (zAb rfl (zAb rfl (zAb rfl (zAb rfl (zAb rfl (zAb rfl (zAb rfl (zAb rfl zAq)))))))))⟩
          · skip
            refine zCi rfl rfl (zBl E S rfl rfl (by decide) rfl rfl rfl ?_); clear E S a; intro a w b14 E S; refine ⟨S.stab.sub (by first | (simp; done) | (simp +contextual; done) | (simp [*]; done)), ?_⟩
            refine ⟨?_, ?_⟩
            · skip
              refine zCg E rfl rfl rfl (by decide) rfl Tryz.func19 rfl (by kernel_rfl) rfl (zEi D2 a5 c2' (pb.take j) hR5 hc5 (by rw [List.length_take]; omega) s (by repeat (first | exact mm1 | assumption | apply List.Mem.tail)) (by repeat (first | exact hG | apply Tab.tail)) _ S.hp) ?_
              rintro v56 w ⟨X5, p5, k5, d5, he, hX5, hT⟩; clear E a; intro a E
              rw [hdc] at he hX5; simp only [zFk, zCu, Rec.cells] at he; subst he; have S := S.all hT
              obtain ⟨q1, n1', rfl⟩ := hX5.rd.pr.slice
              obtain ⟨q2, n2', rfl⟩ := hX5.rd.kr.slice
              obtain ⟨q3, n3', rfl⟩ := hX5.rd.dr.slice
              refine ⟨S.stab.sub (by first | (simp; done) | (simp +contextual; done) | (simp [*]; done)), ?_⟩
              refine zm E rfl (fun w h => zAd E rfl rfl) ?_; clear E a; intro a E
              iterate 3 (refine zm E rfl (fun w h => zBd E rfl rfl rfl) ?_; clear E a; intro a E)
              refine zCe E rfl rfl rfl (by decide) (fun w => zBd E rfl rfl rfl) ?_; clear E a; intro a E
              refine zCi rfl rfl (zBl E S rfl rfl (by decide) rfl rfl rfl ?_); clear E S a; intro a w b12 E S; refine ⟨S.stab.sub (by first | (simp; done) | (simp +contextual; done) | (simp [*]; done)), ?_⟩
              refine zCi rfl rfl (zAy E S rfl rfl rfl rfl (by simp [Value.oneCell']) rfl (by repeat (first | exact pk1 | apply zAa)) (by simp) ?_); clear E S a; intro a w E S; simp only [List.take_succ_cons, List.take_zero, List.drop_succ_cons, List.drop_zero, List.cons_append, List.nil_append, List.append_nil, List.length_cons, List.length_nil, Nat.zero_add, Nat.add_zero] at S; refine ⟨S.stab.sub (by first | (simp; done) | (simp +contextual; done) | (simp [*]; done)), ?_⟩
              refine zm E rfl (fun w h => zAe E rfl rfl) ?_; clear E a; intro a E
              refine zCm rfl rfl (zAy E S rfl rfl rfl rfl (by simp [Value.oneCell']) rfl (by repeat (first | exact pk1 | apply zAa)) (by simp) ?_); clear E S a; intro a w E S; simp only [List.take_succ_cons, List.take_zero, List.drop_succ_cons, List.drop_zero, List.cons_append, List.nil_append, List.append_nil, List.length_cons, List.length_nil, Nat.zero_add, Nat.add_zero] at S
              refine zCe E rfl rfl rfl (by decide) (fun w => zAe E rfl rfl) ?_; clear E a; intro a E
              refine zBw ?_
              refine zBo ?_
              exact ⟨b12, b14, X5, q1, n1', q2, n2', q3, n3', hX5, (S.front1 (A := [(b9, _)]) (by repeat (first | exact pk1 | apply zAa))).tail.perm (Bs := [X5, [(b12, _)], [(b14, _)], D2, [(b4, _)], [(b3, _)], O]) (zAi (by repeat (first | exact pk1 | apply zAa)) (zAi (by repeat (first | exact pk1 | apply zAa)) (zAi (by repeat (first | exact pk1 | apply zAa)) (zAi (by repeat (first | exact pk1 | apply zAa)) (zAi (by repeat (first | exact pk1 | apply zAa)) (zAi (by repeat (first | exact pk1 | apply zAa)) (zAi (by repeat (first | exact pk1 | apply zAa)) (zAn _)))))))), E.keep (zAb rfl (zAb rfl (zAb rfl (zAb rfl (zAb rfl (zAb rfl (zAb rfl (zAb rfl (zAb rfl zAq)))))))))⟩
            · skip
              refine zCi rfl rfl (zBl E S rfl rfl (by decide) rfl rfl rfl ?_); clear E S a; intro a w b12 E S; refine ⟨S.stab.sub (by first | (simp; done) | (simp +contextual; done) | (simp [*]; done)), ?_⟩
              refine zCg E rfl rfl rfl (by decide) rfl Tryz.func19 rfl (by kernel_rfl) rfl (zEi D2 a5 c2' (pb.take j) hR5 hc5 (by rw [List.length_take]; omega) s (by repeat (first | exact mm1 | assumption | apply List.Mem.tail)) (by repeat (first | exact hG | apply Tab.tail)) _ S.hp) ?_
              rintro v56 w ⟨X5, p5, k5, d5, he, hX5, hT⟩; clear E a; intro a E
              rw [hdc] at he hX5; simp only [zFk, zCu, Rec.cells] at he; subst he; have S := S.all hT
              obtain ⟨q1, n1', rfl⟩ := hX5.rd.pr.slice
              obtain ⟨q2, n2', rfl⟩ := hX5.rd.kr.slice
              obtain ⟨q3, n3', rfl⟩ := hX5.rd.dr.slice
              refine ⟨S.stab.sub (by first | (simp; done) | (simp +contextual; done) | (simp [*]; done)), ?_⟩
              refine zm E rfl (fun w h => zAd E rfl rfl) ?_; clear E a; intro a E
              iterate 3 (refine zm E rfl (fun w h => zBd E rfl rfl rfl) ?_; clear E a; intro a E)
              refine zCe E rfl rfl rfl (by decide) (fun w => zBd E rfl rfl rfl) ?_; clear E a; intro a E
              refine zCi rfl rfl (zAy E S rfl rfl rfl rfl (by simp [Value.oneCell']) rfl (by repeat (first | exact pk1 | apply zAa)) (by simp) ?_); clear E S a; intro a w E S; simp only [List.take_succ_cons, List.take_zero, List.drop_succ_cons, List.drop_zero, List.cons_append, List.nil_append, List.append_nil, List.length_cons, List.length_nil, Nat.zero_add, Nat.add_zero] at S; refine ⟨S.stab.sub (by first | (simp; done) | (simp +contextual; done) | (simp [*]; done)), ?_⟩
              refine zm E rfl (fun w h => zAe E rfl rfl) ?_; clear E a; intro a E
              refine zCm rfl rfl (zAy E S rfl rfl rfl rfl (by simp [Value.oneCell']) rfl (by repeat (first | exact pk1 | apply zAa)) (by simp) ?_); clear E S a; intro a w E S; simp only [List.take_succ_cons, List.take_zero, List.drop_succ_cons, List.drop_zero, List.cons_append, List.nil_append, List.append_nil, List.length_cons, List.length_nil, Nat.zero_add, Nat.add_zero] at S
              refine zCe E rfl rfl rfl (by decide) (fun w => zAe E rfl rfl) ?_; clear E a; intro a E
              refine zBw ?_
              refine zBo ?_
              exact ⟨b12, b14, X5, q1, n1', q2, n2', q3, n3', hX5, (S.front1 (A := [(b9, _)]) (by repeat (first | exact pk1 | apply zAa))).tail.perm (Bs := [X5, [(b12, _)], [(b14, _)], D2, [(b4, _)], [(b3, _)], O]) (zAi (by repeat (first | exact pk1 | apply zAa)) (zAi (by repeat (first | exact pk1 | apply zAa)) (zAi (by repeat (first | exact pk1 | apply zAa)) (zAi (by repeat (first | exact pk1 | apply zAa)) (zAi (by repeat (first | exact pk1 | apply zAa)) (zAi (by repeat (first | exact pk1 | apply zAa)) (zAi (by repeat (first | exact pk1 | apply zAa)) (zAn _)))))))), E.keep (zAb rfl (zAb rfl (zAb rfl (zAb rfl (zAb rfl (zAb rfl (zAb rfl (zAb rfl (zAb rfl zAq)))))))))⟩
        · clear E S a; intro a w J; obtain ⟨b12, b14, X5, q1, n1', q2, n2', q3, n3', hX5, S, E⟩ := J
          refine zAf hK ?_; clear hK; clear K
          refine wp_seq_k ?_; intro K hK
          refine zAc ?_
          refine zp E (zBm (vs := [_, _, _, _, _, _, _, _, _, _, _, _, _]) E rfl rfl rfl (S.get (by repeat (first | exact pk1 | apply zAa))) rfl rfl) ?_; clear E a; intro a E
          refine zp E (zCo (cells := [_, _, _, _, _, _, _, _, _, _, _, _, _]) E rfl rfl rfl) ?_; clear E a; intro a E
          refine zAo E rfl rfl (by decide) rfl Tryz.func13 rfl (by kernel_rfl) rfl (same_ret hX5.rd (zeroR_rd O 0) (zero_sml 0) _ (by repeat (first | exact mm1 | assumption | apply List.Mem.tail)) (by repeat (first | exact mm1 | assumption | apply List.Mem.tail)) _ S.hp) ?_
          rintro v63 w ⟨z5, rfl, hz5, hT⟩; clear E a; intro a E
          obtain rfl := hz5.2 rfl; have S := S.all hT
          refine zp E (zAe E rfl rfl) ?_; clear E a; intro a E
          refine wpList_nil ?_
          refine zAf hK ?_; clear hK; clear K
          refine wp_seq_k ?_; intro K hK
          refine zAc ?_
          refine zp E (zAd E rfl rfl) ?_; clear E a; intro a E
          refine zp E (zBm (vs := [_, _, _, _]) E rfl rfl rfl (S.get (by repeat (first | exact pk1 | apply zAa))) rfl rfl) ?_; clear E a; intro a E
          refine zAo E rfl rfl (by decide) rfl Tryz.func19 rfl (by kernel_rfl) rfl (zEi D2 a2 c2' pb hB2.rd hc2 (by omega) s (by repeat (first | exact mm1 | assumption | apply List.Mem.tail)) (by repeat (first | exact hG | apply Tab.tail)) _ S.hp) ?_
          rintro v67 w ⟨X6, p6, k6, d6, he, hX6, hT⟩; clear E a; intro a E
          rw [hdec] at he hX6; simp only [Rec.cells] at he hX6; subst he; have S := S.all hT
          obtain ⟨t1, m1', rfl⟩ := hX6.rd.pr.slice
          obtain ⟨t2, m2', rfl⟩ := hX6.rd.kr.slice
          obtain ⟨t3, m3', rfl⟩ := hX6.rd.dr.slice
          refine zp E (zAd E rfl rfl) ?_; clear E a; intro a E
          iterate 4 (refine zp E (zBd E rfl rfl rfl) ?_; clear E a; intro a E)
          refine zAm rfl (zBl E S rfl rfl (by decide) rfl rfl rfl ?_); clear E S a; intro a w b17 E S
          refine zAm rfl (zBl E S rfl rfl (by decide) rfl rfl rfl ?_); clear E S a; intro a w b19 E S
          refine zAm rfl (zAy E S rfl rfl rfl rfl (by simp [Value.oneCell']) rfl (by repeat (first | exact pk1 | apply zAa)) (by simp) ?_); clear E S a; intro a w E S; simp only [List.take_succ_cons, List.take_zero, List.drop_succ_cons, List.drop_zero, List.cons_append, List.nil_append, List.append_nil, List.length_cons, List.length_nil, Nat.zero_add, Nat.add_zero] at S
          refine zp E (zAe E rfl rfl) ?_; clear E a; intro a E
          refine zAm rfl (zAy E S rfl rfl rfl rfl (by simp [Value.oneCell']) rfl (by repeat (first | exact pk1 | apply zAa)) (by simp) ?_); clear E S a; intro a w E S; simp only [List.take_succ_cons, List.take_zero, List.drop_succ_cons, List.drop_zero, List.cons_append, List.nil_append, List.append_nil, List.length_cons, List.length_nil, Nat.zero_add, Nat.add_zero] at S
          refine zp E (zAe E rfl rfl) ?_; clear E a; intro a E
          refine wpList_nil ?_
          refine zAf hK ?_; clear hK; clear K
          refine wp_seq_k ?_; intro K hK
          replace E := E.keep (e' := [(3, _), (6, _), (7, _), (8, _), (13, _), (14, _), (15, _), (16, _), (17, _), (18, _), (20, _)]) (zAb rfl (zAb rfl (zAb rfl (zAb rfl (zAb rfl (zAb rfl (zAb rfl (zAb rfl (zAb rfl (zAb rfl (zAb rfl (zAq))))))))))))
          refine zAc ?_
          iterate 2 (refine zp E (zBm (vs := [_, _, _, _, _, _, _, _, _, _, _, _, _]) E rfl rfl rfl (S.get (by repeat (first | exact pk1 | apply zAa))) rfl rfl) ?_; clear E a; intro a E)
          refine zAo E rfl rfl (by decide) rfl Tryz.func13 rfl (by kernel_rfl) rfl (same_ret hX6.rd hX hs _ (by repeat (first | exact mm1 | assumption | apply List.Mem.tail)) (by repeat (first | exact mm1 | assumption | apply List.Mem.tail)) _ S.hp) ?_
          rintro v74 w ⟨z6, rfl, hz6, hT⟩; clear E a; intro a E
          obtain rfl := hz6.2 rfl; have S := S.all hT
          refine zp E (zAe E rfl rfl) ?_; clear E a; intro a E
          refine wpList_nil ?_
          refine zAf hK ?_; clear hK; clear K
          refine wp_seq_k ?_; intro K hK
          refine zAc ?_
          iterate 2 (refine zp E (zAd E rfl rfl) ?_; clear E a; intro a E)
          refine zCj E (t := 76) rfl (rfl) (fun hb76 => ?_)
          refine zy E hb76 (zAd E rfl rfl) ?_; clear E a; intro a E
          refine zy E hb76 (by first | exact zCf E rfl rfl rfl | exact zAt E rfl rfl rfl rfl | exact zBb E rfl rfl rfl rfl | exact zAu E rfl rfl rfl) ?_; clear E a; intro a E
          refine zp E (zAj E rfl rfl hb76 rfl) ?_; clear E a; intro a E
          refine zp E (zAd E rfl rfl) ?_; clear E a; intro a E
          refine zCj E (t := 80) rfl (rfl) (fun hb80 => ?_)
          refine zy E hb80 (zAd E rfl rfl) ?_; clear E a; intro a E
          refine zy E hb80 (by first | exact zCf E rfl rfl rfl | exact zAt E rfl rfl rfl rfl | exact zBb E rfl rfl rfl rfl | exact zAu E rfl rfl rfl) ?_; clear E a; intro a E
          refine zp E (zAj E rfl rfl hb80 rfl) ?_; clear E a; intro a E
          refine zp E (zAd E rfl rfl) ?_; clear E a; intro a E
          refine zCj E (t := 84) rfl (rfl) (fun hb84 => ?_)
          refine zy E hb84 (zBm (vs := [_, _, _, _]) E rfl rfl rfl (S.get (by repeat (first | exact pk1 | apply zAa))) rfl rfl) ?_; clear E a; intro a E
          refine zy E hb84 (zCo (cells := [_, _, _, _]) E rfl rfl rfl) ?_; clear E a; intro a E
          refine zy E hb84 (by first | exact zIv E rfl rfl rfl rfl (by kernel_rfl) (by kernel_rfl) rfl rfl rfl | exact zHw E rfl rfl rfl rfl (by kernel_rfl) (by kernel_rfl) rfl) ?_; clear E a; intro a E
          refine zp E (zAj E rfl rfl hb84 rfl) ?_; clear E a; intro a E
          refine zp E (zAd E rfl rfl) ?_; clear E a; intro a E
          refine zCj E (t := 89) rfl (rfl) (fun hb89 => ?_)
          refine zy E hb89 (zAd E rfl rfl) ?_; clear E a; intro a E
          refine zp E (zAj E rfl rfl hb89 rfl) ?_; clear E a; intro a E
          refine zp E (zAd E rfl rfl) ?_; clear E a; intro a E
          refine zCj E (t := 92) rfl (rfl) (fun hb92 => ?_)
          refine zy E hb92 (zAd E rfl rfl) ?_; clear E a; intro a E
          refine zp E (zAj E rfl rfl hb92 rfl) ?_; clear E a; intro a E
          refine zp E (zAd E rfl rfl) ?_; clear E a; intro a E
          refine zCj E (t := 95) rfl (rfl) (fun hb95 => ?_)
          iterate 2 (refine zy E hb95 (zAd E rfl rfl) ?_; clear E a; intro a E)
          refine zy E hb95 (by first | exact zBz E rfl rfl rfl | exact zAz E rfl rfl rfl | exact zAr E rfl rfl rfl) ?_; clear E a; intro a E
          refine zy E hb95 (by first | exact zCf E rfl rfl rfl | exact zAt E rfl rfl rfl rfl | exact zBb E rfl rfl rfl rfl | exact zAu E rfl rfl rfl) ?_; clear E a; intro a E
          refine zp E (zAj E rfl rfl hb95 rfl) ?_; clear E a; intro a E
          refine zp E (zAd E rfl rfl) ?_; clear E a; intro a E
          refine zCj E (t := 101) rfl ((by simp)) (fun hb101 => ?_)
          refine zy E hb101 (zAd E rfl rfl) ?_; clear E a; intro a E
          refine zy E hb101 (by first | exact zCf E rfl rfl rfl | exact zAt E rfl rfl rfl rfl | exact zBb E rfl rfl rfl rfl | exact zAu E rfl rfl rfl) ?_; clear E a; intro a E
          refine zp E (zAj E rfl rfl hb101 rfl) ?_; clear E a; intro a E
          refine zp E (zAe E rfl rfl) ?_; clear E a; intro a E
          refine wpList_nil ?_
          refine zAf hK ?_; clear hK; clear K
          refine wp_ret ?_
          refine ret1 E rfl rfl ?_
          exact ⟨_, rfl, rfl, by repeat (first | exact S.tr | replace S := S.tail)⟩
end Go.Proofs.YtbogecljkaimdaaGreatDoor
namespace Go.Sl
structure PV where
  v : Value
  bs : List UInt8
def PV.lay (x : PV) : List Value := [x.v]
theorem PV.lay_len (x : PV) : x.lay.length = 1 := rfl
def PVs (X : zAs) (l : List PV) : Prop := ∀ x ∈ l, Rd X 1 x.v x.bs.length (byt x.bs) ∧ x.bs.length ≤ 2085
theorem PVs.sub {C D : zAs} {l : List PV} (h : PVs C l) (hs : ∀ x ∈ C, x ∈ D) : PVs D l := fun x hx => ⟨(h x hx).1.sub hs, (h x hx).2⟩
theorem PVs.set {X : zAs} {l : List PV} (h : PVs X l) (i : Nat) {y : PV} (hy : y ∈ l) : PVs X (l.set i y) := fun x hx => by
  rcases List.mem_or_eq_of_mem_set hx with q | q
  · exact h x q
  · rw [q]; exact h y hy
end Go.Sl
namespace Go.Proofs.YtbogecljkaimdaaGreatDoor
open Go.Sl
set_option maxRecDepth 10000
end Go.Proofs.YtbogecljkaimdaaGreatDoor
namespace Go.Sl
open Go.ChangeShapes Go.WideShapes Go.ChangeAt Go.RowKit Go.ChangeMaps
def old (w : World) : zAs := w.heap.toList.zipIdx.map fun x => (x.2, x.1)
theorem mem_old {w : World} {b : Nat} {o : Obj} (h : w.heap[b]? = some o) : (b, o) ∈ old w := by
  refine List.mem_map.2 ⟨(o, b), ?_, rfl⟩
  rw [List.mem_zipIdx_iff_getElem?]
  simpa using h
theorem old_own (w : World) : Own w (old w) := by
  refine ⟨?_, fun x hx => ?_⟩
  · have : (old w).map (·.1) = List.range' 0 w.heap.toList.length := by simp [old, Function.comp_def]
    rw [this]; exact List.nodup_range'
  · obtain ⟨y, hy, rfl⟩ := List.mem_map.1 hx
    rw [List.mem_zipIdx_iff_getElem?] at hy
    simpa using hy
theorem hp_old (w : World) : Hp w [old w] := by simpa [Hp] using old_own w
theorem below_old {w w' : World} {Bs : List zAs} (h : Trs w w' [old w] (old w :: Bs)) : Below w.heap.size w w' :=
  ⟨h.os, h.tape, h.output, h.size, fun k hk => by
    have e : w.heap[k]? = some w.heap[k] := Array.getElem?_eq_getElem hk
    rw [e]
    have h1 := h.own [] (by simpa using old_own w)
    exact h1.2 (k, w.heap[k]) (by simp [mem_old e])⟩
def Dec {H : Type} (enc : TypeId × Value → H) (P : Program) (w : World) (e : TypeId) (s : Nat) {α : Type} (lay : α → List Value) (good : α → Prop) : Prop :=
  ∀ n cs x, DataW.trod enc P w 0 (fun _ => true) true n e cs = some x → cs.length = s → (x.1.weights P e).all (· ≤ reachBytes) = true → ∃ a, cs = lay a ∧ good a
section
variable {H : Type} {enc : TypeId × Value → H} {P : Program} {w : World} {t e : TypeId} {s : Nat} {α : Type} {lay : α → List Value} {good : α → Prop}
theorem Dec.imp {good' : α → Prop} (h : Dec enc P w e s lay good) (k : ∀ a, good a → good' a) : Dec enc P w e s lay good' := fun n cs x h1 h2 h3 => by
  obtain ⟨a, h4, h5⟩ := h n cs x h1 h2 h3
  exact ⟨a, h4, k a h5⟩
theorem Dec.map {β : Type} {lay' : β → List Value} {good' : β → Prop} (h : Dec enc P w e s lay good) (k : ∀ a, good a → ∃ b, lay a = lay' b ∧ good' b) : Dec enc P w e s lay' good' := fun n cs x h1 h2 h3 => by
  obtain ⟨a, h4, h5⟩ := h n cs x h1 h2 h3
  obtain ⟨b, h6, h7⟩ := k a h5
  exact ⟨b, h4.trans h6, h7⟩
theorem dec_int {k : IntKind} (ht : P.underlying t = some (.int k)) : Dec enc P w t 1 (fun z => [.int k z]) (fun z => (Lit.int k z).wf = true) := fun n cs x h _ _ => by
  obtain ⟨z, h1, _, h2⟩ := DataW.trod_int ht h
  exact ⟨z, h1, h2⟩
theorem dec_i64 (ht : P.underlying t = some (.int .i64)) : Dec enc P w t 1 (fun z => [.int .i64 z]) (fun z => -9223372036854775808 ≤ z ∧ z ≤ 9223372036854775807) :=
  (dec_int ht).imp fun z hz => by simpa [Lit.wf, IntKind.min, IntKind.max, IntKind.signed, IntKind.bits] using hz
theorem zLd (ht : P.underlying t = some (.int .u64)) : Dec enc P w t 1 (fun z : Nat => [.int .u64 z]) (fun z => z < 18446744073709551616) :=
  (dec_int ht).map fun z hz => by
    have hz : 0 ≤ z ∧ z ≤ 18446744073709551615 := by simpa [Lit.wf, IntKind.min, IntKind.max, IntKind.signed, IntKind.bits] using hz
    exact ⟨z.toNat, by rw [Int.toNat_of_nonneg hz.1], by omega⟩
theorem dec_u8 (ht : P.underlying t = some (.int .u8)) : Dec enc P w t 1 (fun b : UInt8 => [.int .u8 b.toNat]) (fun _ => True) :=
  (dec_int ht).map fun z hz => by
    have hz : 0 ≤ z ∧ z ≤ 255 := by simpa [Lit.wf, IntKind.min, IntKind.max, IntKind.signed, IntKind.bits] using hz
    refine ⟨UInt8.ofNat z.toNat, ?_, trivial⟩
    have : (UInt8.ofNat z.toNat).toNat = z.toNat := by simp; omega
    rw [this, Int.toNat_of_nonneg hz.1]
theorem zGk : ∀ {ds : List (DataW H)} {d : DataW H}, d ∈ ds → ∀ n ∈ d.weights P e, n ∈ DataW.weightsAll P e ds
  | d0 :: ds, d, hd, n, hn => by
    simp only [DataW.weightsAll, List.mem_append]
    rcases List.mem_cons.1 hd with rfl | hd
    · exact .inl hn
    · exact .inr (zGk hd n hn)
  | [], _, hd, _, _ => by cases hd
theorem list_of {n : Nat} {p : Nat → α → Prop} (h : ∀ i, i < n → ∃ a, p i a) : ∃ asx : List α, asx.length = n ∧ ∀ i a, asx[i]? = some a → p i a := by
  induction n with
  | zero => exact ⟨[], rfl, by simp⟩
  | succ n ih =>
    obtain ⟨asx, h1, h2⟩ := ih (fun i hi => h i (by omega))
    obtain ⟨a, ha⟩ := h n (by omega)
    refine ⟨asx ++ [a], by simp [h1], fun i b hb => ?_⟩
    by_cases hi : i < n
    · rw [List.getElem?_append_left (by omega)] at hb; exact h2 i b hb
    · rw [List.getElem?_append_right (by omega)] at hb
      have : i = n := by
        have := (List.getElem?_eq_some_iff.1 hb).1
        simp at this; omega
      subst this
      simp [h1] at hb
      exact hb ▸ ha
theorem flat_get {asx : List α} (hl : ∀ a ∈ asx, (lay a).length = s) {l : Array Value} {off : Nat} : ∀ (k : Nat), (∀ i a, asx[i]? = some a → ∀ j v, (lay a)[j]? = some v → l[off + (k + i) * s + j]? = some v) →
    ∀ i u, (asx.flatMap lay)[i]? = some u → l[off + k * s + i]? = some u := by
  induction asx with
  | nil => intro k _ i u h; simp at h
  | cons a r ih =>
    intro k h i u hu
    rw [List.flatMap_cons] at hu
    have ha := hl a (List.mem_cons_self ..)
    by_cases hi : i < s
    · rw [List.getElem?_append_left (by omega)] at hu
      exact h 0 a rfl i u hu
    · rw [List.getElem?_append_right (by omega), ha] at hu
      have := ih (fun b hb => hl b (List.mem_cons_of_mem _ hb)) (k + 1) (fun i b hb j v hv => by
        have := h (i + 1) b (by simpa using hb) j v hv
        rwa [show k + 1 + i = k + (i + 1) by omega]) (i - s) u hu
      rw [Nat.succ_mul] at this
      rwa [show off + (k * s + s) + (i - s) = off + k * s + i by omega] at this
theorem flat_length {asx : List α} (hl : ∀ a ∈ asx, (lay a).length = s) : (asx.flatMap lay).length = asx.length * s := by
  induction asx with
  | nil => simp
  | cons a r ih => rw [List.flatMap_cons, List.length_append, ih (fun b hb => hl b (List.mem_cons_of_mem _ hb)), hl a (List.mem_cons_self ..), List.length_cons, Nat.succ_mul, Nat.add_comm]
def OldS (w : World) (s sz : Nat) (lay : α → List Value) (good : α → Prop) (x : Value × List α) : Prop :=
  ∃ ad c, x.1 = .slice ad x.2.length c ∧ x.2.length ≤ c ∧ c * sz ≤ 140737488351232 ∧ Rd (old w) s x.1 x.2.length (x.2.flatMap lay) ∧ ∀ a ∈ x.2, good a
theorem dec_fields {fs : Array Field} (ht : P.underlying t = some (.struct fs)) {n : Nat} {cs : List Value} {x : DataW H × List MemPlace} (h : DataW.trod enc P w 0 (fun _ => true) true n t cs = some x) (hw : (x.1.weights P t).all (· ≤ reachBytes) = true)
    {i : Nat} {f : Field} (hf : fs[i]? = some f) (hd : Dec enc P w f.type s lay good) (hs : ((cs.drop f.offset).take (P.cellsOf f.type)).length = s) : ∃ a, (cs.drop f.offset).take (P.cellsOf f.type) = lay a ∧ good a := by
  obtain ⟨xs, m, rfl, rfl, hl, hxs, hx⟩ := DataW.trod_struct ht h
  have hi : i < fs.size := (Array.getElem?_eq_some_iff.1 hf).1
  have h1 := hx i f hf
  rw [List.getElem?_eq_getElem (by omega)] at h1
  refine hd _ _ _ h1 hs (List.all_eq_true.2 fun k hk => ?_)
  simp only [DataW.weights, ht] at hw
  exact List.all_eq_true.1 hw k (DataW.weights_mem_each (j := i) (by simpa using ⟨f, hf, rfl⟩) (by simp [List.getElem?_eq_getElem (show i < xs.length by omega)]) k hk)
theorem zDn {fs : Array Field} (i off : Nat) {ft : TypeId} (ht : P.underlying t = some (.struct fs)) {n : Nat} {cs : List Value} {x : DataW H × List MemPlace} (h : DataW.trod enc P w 0 (fun _ => true) true n t cs = some x) (hw : (x.1.weights P t).all (· ≤ reachBytes) = true)
    (hf : (fs[i]?).map (fun f => (f.type, f.offset)) = some (ft, off)) (hc : P.cellsOf ft = s) (hd : Dec enc P w ft s lay good) (hs : off + s ≤ cs.length) : ∃ a, (cs.drop off).take s = lay a ∧ good a := by
  rw [Option.map_eq_some_iff] at hf
  obtain ⟨f, h1, h2⟩ := hf
  cases h2
  have := dec_fields ht h hw h1 hd (by rw [hc, List.length_take, List.length_drop]; omega)
  rwa [hc] at this
theorem Dec.arg (hd : Dec enc P w t 1 lay good) {v : Value} {d : DataW H} {p : List MemPlace} (h : DataW.Trod enc P w 0 (fun _ => true) true t v d p) (h1 : v.cells.toList = [v]) {ts : List TypeId} {ds : List (DataW H)}
    (hw : (DataW.weightsEach P ts ds).all (· ≤ reachBytes) = true) {j : Nat} (ht : ts[j]? = some t) (hdj : ds[j]? = some d) : ∃ a, [v] = lay a ∧ good a := by
  obtain ⟨n, hn⟩ := h
  rw [h1] at hn
  exact hd n _ _ hn rfl (List.all_eq_true.2 fun k hk => List.all_eq_true.1 hw k (DataW.weights_mem_each ht hdj k hk))
theorem Dec.argN (hd : Dec enc P w t s lay good) {cs : Array Value} {d : DataW H} {p : List MemPlace} (h : DataW.Trod enc P w 0 (fun _ => true) true t (.agg cs) d p) (h1 : cs.size = s) {ts : List TypeId} {ds : List (DataW H)}
    (hw : (DataW.weightsEach P ts ds).all (· ≤ reachBytes) = true) {j : Nat} (ht : ts[j]? = some t) (hdj : ds[j]? = some d) : ∃ a, cs = (lay a).toArray ∧ good a := by
  obtain ⟨n, hn⟩ := h
  obtain ⟨a, h2, h3⟩ := hd n _ _ hn (by rw [Array.length_toList]; exact h1) (List.all_eq_true.2 fun k hk => List.all_eq_true.1 hw k (DataW.weights_mem_each ht hdj k hk))
  exact ⟨a, by rw [← h2]; rfl, h3⟩
theorem one_int {b : Nat} {k : IntKind} (ht : P.underlying t = some (.int k)) {v : Value} (h : Value.okWide P w .any b t v) : v.cells.toList = [v] := by
  obtain ⟨s, rfl⟩ := okWide_int ht h
  rfl
theorem flat_byt (bs : List UInt8) : (bs.flatMap fun b => [Value.int .u8 b.toNat]) = byt bs := by
  induction bs with
  | nil => rfl
  | cons b r ih => rw [List.flatMap_cons, ih]; rfl
end
end Go.Sl
namespace Go.Proofs.YtbogecljkaimdaaGreatDoor
open Go.Sl Go.ChangeShapes Go.WideShapes Go.RowKit
theorem tab_of_var {P : Program} {W : World} {nm : String} {g m : Nat} {t e : TypeId} {cs : Array Value} {fuel : Nat} {p : List MemPlace} (l : List Int) (hg : P.globalNamed nm = some g) (ht : P.underlying t = some (.array m e)) (he : P.underlying e = some (.int .u32)) (ce : P.cellsOf e = 1) (ct : P.cellsOf t = l.length) (hm : m = l.length)
    (hv : W.var? P nm = some cs) (hd : DataW.trod (fun _ : TypeId × Value => ()) P W 0 (fun _ => true) false fuel t cs.toList = some (DataW.agg (l.map fun n => .lit (.int .u32 n)), p)) : Tab [old W] g l := by
  subst hm
  obtain ⟨xs, k, _, ex, hlen, hl, hel⟩ := DataW.trod_array ht hd
  rw [ct] at hlen
  have e3 : (xs.map (·.1)) = l.map fun n => (DataW.lit (.int .u32 n) : DataW Unit) := (DataW.agg.inj (Prod.mk.inj ex).1).symm
  have hcs : cs.toList = u32s l := by
    apply List.ext_getElem?
    intro i
    rcases Nat.lt_or_ge i l.length with hi | hi
    · have hE := hel i hi
      rw [ce, Nat.mul_one, List.getElem?_eq_getElem (by omega)] at hE
      obtain ⟨z, e1, e2, _⟩ := DataW.trod_int he hE
      have e4 : (xs.map (·.1))[i]? = (l.map fun n => (DataW.lit (.int .u32 n) : DataW Unit))[i]? := by rw [e3]
      rw [List.getElem?_map, List.getElem?_map, List.getElem?_eq_getElem (by omega : i < xs.length), List.getElem?_eq_getElem hi, e2] at e4
      simp only [Option.map_some, Option.some.injEq, DataW.lit.injEq, Lit.int.injEq, true_and] at e4
      have h0 : ((cs.toList.drop i).take 1)[0]? = some (.int .u32 z) := by rw [e1]; rfl
      have h1 : cs.toList[i]? = some (.int .u32 z) := by simpa using h0
      rw [h1, e4]
      simp [u32s, hi]
    · rw [List.getElem?_eq_none (by omega), List.getElem?_eq_none (by simp [u32s]; omega)]
  simp only [World.var?, hg, Option.bind_some] at hv
  split at hv
  · rename_i c T fr hh
    cases hv
    exact ⟨_, List.Mem.head _, T, fr, mem_old (by rw [← hcs]; simpa using hh)⟩
  · cases hv
end Go.Proofs.YtbogecljkaimdaaGreatDoor
namespace Go.Proofs.YtbogecljkaimdaaGreatDoor
open Go.Sl Go.ChangeShapes Go.WideShapes Go.ChangeAt Go.RowKit
section
variable {H : Type} {enc : TypeId × Value → H} {P : Program} {w : World} {t e : TypeId} {s : Nat} {α : Type} {lay : α → List Value} {good : α → Prop} {size : α → Nat}
theorem bulk_one (d : DataW H) : 1 ≤ Rows.uptoBulk d := by
  cases d with
  | lit l => cases l <;> simp [Rows.uptoBulk]
  | nil => simp [Rows.uptoBulk]
  | ptr d => simp [Rows.uptoBulk]
  | slice elems spare => simp [Rows.uptoBulk]
  | agg parts => simp [Rows.uptoBulk]
  | iface t d => simp [Rows.uptoBulk]
  | map entries => simp [Rows.uptoBulk]
  | held h => simp [Rows.uptoBulk]
theorem zHk {d : DataW H} : ∀ {l : List (DataW H)}, d ∈ l → Rows.uptoBulk d ≤ Rows.uptoBulkAll l
  | x :: r, h => by
    simp only [Rows.uptoBulkAll]
    rcases List.mem_cons.1 h with rfl | h
    · omega
    · have := zHk h; omega
  | [], h => by cases h
def DecB (enc : TypeId × Value → H) (P : Program) (w : World) (e : TypeId) (s : Nat) (lay : α → List Value) (good : α → Prop) (size : α → Nat) : Prop :=
  ∀ n cs x, DataW.trod enc P w 0 (fun _ => true) true n e cs = some x → cs.length = s → (x.1.weights P e).all (· ≤ reachBytes) = true → ∃ a, cs = lay a ∧ good a ∧ size a ≤ Rows.uptoBulk x.1
theorem dec_one (hd : Dec enc P w e s lay good) : DecB enc P w e s lay good (fun _ => 1) := fun n cs x h1 h2 h3 => by
  obtain ⟨a, h4, h5⟩ := hd n cs x h1 h2 h3
  exact ⟨a, h4, h5, bulk_one _⟩
theorem sum_bulk : ∀ {al : List α} {ds : List (DataW H)}, al.length = ds.length → (∀ (i : Nat) (a : α) (d : DataW H), al[i]? = some a → ds[i]? = some d → size a ≤ Rows.uptoBulk d) → (al.map size).sum ≤ Rows.uptoBulkAll ds
  | [], [], _, _ => by simp
  | a :: al, d :: ds, hl, h => by
    have h1 := h 0 a d rfl rfl
    have h2 := sum_bulk (al := al) (ds := ds) (by simpa using hl) (fun i a d ha hd => h (i + 1) a d (by simpa using ha) (by simpa using hd))
    simp only [List.map_cons, List.sum_cons, Rows.uptoBulkAll]; omega
  | [], _ :: _, hl, _ => by simp at hl
  | _ :: _, [], hl, _ => by simp at hl
theorem size_mem {al : List α} {a : α} (h : a ∈ al) : size a ≤ (al.map size).sum := by
  induction al with
  | nil => cases h
  | cons b r ih =>
    rw [List.map_cons, List.sum_cons]
    rcases List.mem_cons.1 h with rfl | h
    · omega
    · have := ih h; omega
theorem size_len {al : List α} (h : ∀ a, 1 ≤ size a) : al.length ≤ (al.map size).sum := by
  induction al with
  | nil => simp
  | cons b r ih => have := h b; rw [List.map_cons, List.sum_cons, List.length_cons]; omega
theorem zHq (ht : P.underlying t = some (.slice e)) (hs : P.cellsOf e = s) (h0 : 0 < s) {sz : Nat} (hz : P.bytesOf e = sz) (hd : DecB enc P w e s lay good size) (one : ∀ a, good a → ∀ u ∈ lay a, u.oneCell' = true) :
    DecB enc P w t 1 (fun x : Value × List α => [x.1]) (OldS w s sz lay good) (fun x => (x.2.map size).sum + 1) := fun n cs x h _ hw => by
  rcases Deep.open_slice ht h with ⟨rfl, rfl⟩ | ⟨a, len, cap, m, n, D, Pl, rfl, _, hl, hm, hmm, rfl, hx⟩
  · exact ⟨(.slice none 0 0, []), rfl, ⟨none, 0, rfl, Nat.le_refl _, by simp, ⟨by simp, by simp, Nat.zero_le _, .inl ⟨rfl, none, 0, rfl⟩⟩, by simp⟩, by simp [Rows.uptoBulk]⟩
  · simp only [if_true] at hmm
    subst hmm
    simp only [DataW.weights, ht, List.length_map, List.length_range, List.all_cons, Bool.and_eq_true, decide_eq_true_eq, List.all_append] at hw
    obtain ⟨hw1, hw2, _⟩ := hw
    have hstep : ∀ i, i < len → ∃ b : α, w.cells? 0 (a.add (i * s)) s = some (lay b) ∧ good b ∧ size b ≤ Rows.uptoBulk (D i) := fun i hi => by
      obtain ⟨cs', h1, h2⟩ := hx i (by omega)
      rw [hs] at h1
      have hlen : cs'.length = s := (World.cells?_some h1).2.1
      obtain ⟨b, rfl, hb, hsz⟩ := hd _ _ _ h2 hlen (List.all_eq_true.2 fun n hn => List.all_eq_true.1 hw2 n (zGk (List.mem_map.2 ⟨i, by simpa using hi, rfl⟩) n hn))
      exact ⟨b, h1, hb, hsz⟩
    obtain ⟨al, hal, has⟩ := list_of hstep
    have hgood : ∀ b ∈ al, good b := fun b hb => by
      obtain ⟨i, hi⟩ := List.getElem?_of_mem hb
      exact (has i b hi).2.1
    have hlay : ∀ b ∈ al, (lay b).length = s := fun b hb => by
      obtain ⟨i, hi⟩ := List.getElem?_of_mem hb
      exact (World.cells?_some (has i b hi).1).2.1
    have hlen := flat_length hlay
    refine ⟨(.slice (some a) len m, al), rfl, ⟨some a, m, by rw [hal], by simp only [hal]; exact hl, ?_, ?_, hgood⟩, ?_⟩
    · rw [hz, show len + (m - len) = m by omega] at hw1
      exact hw1
    · simp only [hal]
      refine ⟨by rw [hlen, hal], fun u hu => ?_, by omega, ?_⟩
      · obtain ⟨b, hb, hu⟩ := List.mem_flatMap.1 hu
        exact one b (hgood b hb) u hu
      · by_cases hl0 : len = 0
        · exact .inl ⟨hl0, some a, m, by rw [hl0]⟩
        · obtain ⟨b0, hb0, -⟩ := hstep 0 (by omega)
          have hc0 := (World.cells?_some hb0).2.2 0 h0
          have hlb : (lay b0).length = s := (World.cells?_some hb0).2.1
          rw [List.getElem?_eq_getElem (by omega)] at hc0
          obtain ⟨b, off, spot⟩ := a
          simp only [World.cell?, Addr.add, Nat.zero_mul, Nat.add_zero] at hc0
          split at hc0
          · rename_i l T fr hh
            have hh' : w.heap[b]? = some (.cells l T fr) := hh
            cases spot with
            | some q => simp at hc0
            | none =>
              refine .inr ⟨b, off, m, l, T, fr, rfl, mem_old hh', ?_⟩
              have := flat_get (lay := lay) (asx := al) (s := s) (l := l) (off := off) hlay 0 (fun i c hc j v hv => by
                obtain ⟨h1, _⟩ := has i c hc
                have hls : (lay c).length = s := (World.cells?_some h1).2.1
                have hj : j < s := by
                  have := (List.getElem?_eq_some_iff.1 hv).1
                  omega
                have h3 := (World.cells?_some h1).2.2 j hj
                rw [Addr.add_lit, Addr.add_lit, zGl hh', hv] at h3
                rw [Nat.zero_add]
                exact h3)
              simpa using this
          · cases hc0
    · have := sum_bulk (size := size) (al := al) (ds := (List.range len).map D) (by simp [hal]) (fun i b d hb hd => by
        rw [List.getElem?_map] at hd
        have hi := (List.getElem?_eq_some_iff.1 hb).1
        rw [List.getElem?_range (by omega)] at hd
        cases hd
        exact (has i b hb).2.2)
      simp only [Rows.uptoBulk]; omega
theorem DecB.arg (hd : DecB enc P w t 1 lay good size) {v : Value} {d : DataW H} {p : List MemPlace} (h : DataW.Trod enc P w 0 (fun _ => true) true t v d p) (h1 : v.cells.toList = [v]) {ts : List TypeId} {ds : List (DataW H)}
    (hw : (DataW.weightsEach P ts ds).all (· ≤ reachBytes) = true) (hk : Rows.uptoSmall H ds = true) {j : Nat} (ht : ts[j]? = some t) (hdj : ds[j]? = some d) : ∃ a, [v] = lay a ∧ good a ∧ size a ≤ 1048576 := by
  obtain ⟨n, hn⟩ := h
  rw [h1] at hn
  obtain ⟨a, h2, h3, h4⟩ := hd n _ _ hn rfl (List.all_eq_true.2 fun k hk => List.all_eq_true.1 hw k (DataW.weights_mem_each ht hdj k hk))
  have hb : Rows.uptoBulkAll ds ≤ 1048576 := of_decide_eq_true hk
  have := zHk (List.mem_of_getElem? hdj)
  have h5 : size a ≤ Rows.uptoBulk d := h4
  exact ⟨a, h2, h3, by omega⟩
end
end Go.Proofs.YtbogecljkaimdaaGreatDoor
namespace Go.Proofs.YtbogecljkaimdaaGreatDoor
open Go.Sl Go.ChangeShapes Go.WideShapes Go.ChangeAt Go.RowKit
section
variable {H : Type} {enc : TypeId × Value → H} {P : Program} {w : World} {t e : TypeId} {s : Nat} {α : Type} {lay : α → List Value} {good : α → Prop} {size : α → Nat}
theorem DecB.argN (hd : DecB enc P w t s lay good size) {cs : Array Value} {d : DataW H} {p : List MemPlace} (h : DataW.Trod enc P w 0 (fun _ => true) true t (.agg cs) d p) (h1 : cs.size = s) {ts : List TypeId} {ds : List (DataW H)}
    (hw : (DataW.weightsEach P ts ds).all (· ≤ reachBytes) = true) (hk : Rows.uptoSmall H ds = true) {j : Nat} (ht : ts[j]? = some t) (hdj : ds[j]? = some d) : ∃ a, cs = (lay a).toArray ∧ good a ∧ size a ≤ 1048576 := by
  obtain ⟨n, hn⟩ := h
  obtain ⟨a, h2, h3, h4⟩ := hd n _ _ hn (by rw [Array.length_toList]; exact h1) (List.all_eq_true.2 fun k hk => List.all_eq_true.1 hw k (DataW.weights_mem_each ht hdj k hk))
  have hb : Rows.uptoBulkAll ds ≤ 1048576 := of_decide_eq_true hk
  have := zHk (List.mem_of_getElem? hdj)
  have h5 : size a ≤ Rows.uptoBulk d := h4
  exact ⟨a, by rw [← h2]; rfl, h3, by omega⟩
theorem DecB.imp {good' : α → Prop} {size' : α → Nat} (h : DecB enc P w e s lay good size) (k : ∀ a, good a → good' a) (k2 : ∀ a, size' a ≤ size a) : DecB enc P w e s lay good' size' := fun n cs x h1 h2 h3 => by
  obtain ⟨a, h4, h5, h6⟩ := h n cs x h1 h2 h3
  exact ⟨a, h4, k a h5, Nat.le_trans (k2 a) h6⟩
theorem zFr (ht : P.underlying t = some .string) : DecB enc P w t 1 (fun b => [str b]) (fun _ => True) (fun b => b.length) := fun n cs x h _ _ => by
  obtain ⟨z, h1, h2, _⟩ := DataW.trod_string ht h
  refine ⟨z.data.toList, by rw [h1], trivial, ?_⟩
  rw [h2]
  simp [Rows.uptoBulk]
theorem zEj {fs : Array Field} (i off : Nat) {ft : TypeId} (ht : P.underlying t = some (.struct fs)) {n : Nat} {cs : List Value} {x : DataW H × List MemPlace} (h : DataW.trod enc P w 0 (fun _ => true) true n t cs = some x) (hw : (x.1.weights P t).all (· ≤ reachBytes) = true)
    (hf : (fs[i]?).map (fun f => (f.type, f.offset)) = some (ft, off)) (hc : P.cellsOf ft = s) (hd : DecB enc P w ft s lay good size) (hs : off + s ≤ cs.length) : ∃ a, (cs.drop off).take s = lay a ∧ good a ∧ size a + 1 ≤ Rows.uptoBulk x.1 := by
  rw [Option.map_eq_some_iff] at hf
  obtain ⟨f, h1, h2⟩ := hf
  cases h2
  obtain ⟨xs, m, rfl, rfl, hl, hxs, hx⟩ := DataW.trod_struct ht h
  have hi : i < fs.size := (Array.getElem?_eq_some_iff.1 h1).1
  have h3 := hx i f h1
  rw [List.getElem?_eq_getElem (by omega)] at h3
  have hsl : ((cs.drop f.offset).take (P.cellsOf f.type)).length = s := by rw [hc, List.length_take, List.length_drop]; omega
  obtain ⟨a, h4, h5, h6⟩ := hd _ _ _ h3 hsl (List.all_eq_true.2 fun k hk => by
    simp only [DataW.weights, ht] at hw
    exact List.all_eq_true.1 hw k (DataW.weights_mem_each (j := i) (by simpa using ⟨f, h1, rfl⟩) (by simp [List.getElem?_eq_getElem (show i < xs.length by omega)]) k hk))
  rw [hc] at h4
  refine ⟨a, h4, h5, ?_⟩
  have hp := zHk (H := H) (d := (xs[i]'(by omega)).1) (l := xs.map (·.1)) (List.mem_map.2 ⟨_, List.getElem_mem _, rfl⟩)
  simp only [Rows.uptoBulk]
  omega
theorem witness_row_zip {C : Checked} {os : Os} {f : FuncId} {fn : Func} {s : OpenSpec} {conds : List PathCond} {apart : Bool} {laid : List (String × DataW Unit)} (modest : Bool) (w0 : World) (args : Array Value) (hos : w0.os = os)
    (hsh : (w0.forCall (fun _ _ => 0) ⟨#[], args, []⟩).Shaped C.prog)
    (hok : Input.okWideB C.prog (w0.forCall (fun _ _ => 0) ⟨#[], args, []⟩) f ⟨#[], args, []⟩ = true)
    (hrow : s.preRow enc C.prog fn conds apart laid (w0.forCall (fun _ _ => 0) ⟨#[], args, []⟩).memory args) :
    ∃ (w : World) (tape : Tape) (i : Input), w.os = os ∧ (w.forCall tape i).Shaped C.prog ∧ i.vars = [] ∧ Input.okWide C.prog (w.forCall tape i) .any w.heap.size f i ∧
      s.preRow enc C.prog fn conds apart laid (w.forCall tape i).memory i.args ∧ ({ modest := modest } : Assume).holds C.prog (lone (Frame.enter C.prog f i.args .normal) [] (w.forCall tape i)) :=
  ⟨w0, fun _ _ => 0, ⟨#[], args, []⟩, hos, hsh, (Input.okWide_of_okWideB (base := 0) hok).1, (Input.okWide_of_okWideB hok).2, hrow, by
    simp only [Assume.holds]
    exact ⟨by simp, by simp, fun _ => Modest.zero, by simp, by simp⟩⟩
end
theorem ones_sum {α : Type} (l : List α) : (l.map fun _ => 1).sum = l.length := by
  induction l with
  | nil => rfl
  | cons a l ih => rw [List.map_cons, List.sum_cons, ih, List.length_cons, Nat.add_comm]
def recSz (r : Rec) : Nat := max r.name.length (max r.snap.length (max (r.props.map fun p => max p.name.length p.value.length + 1).sum (max r.keep.length r.data.length)))
theorem recSz_sml {r : Rec} (h : recSz r ≤ 1048576) : Sml r := by
  unfold recSz at h
  have h1 : (r.props.map fun p => max p.name.length p.value.length + 1).sum ≤ 1048576 := by omega
  have h2 := size_len (al := r.props) (size := fun p => max p.name.length p.value.length + 1) (fun _ => by omega)
  refine ⟨by omega, by omega, by omega, fun p hp => ?_, by omega, by omega⟩
  have h3 := size_mem (size := fun p : Prp => max p.name.length p.value.length + 1) hp
  omega
section
variable {H : Type} {enc : TypeId × Value → H} {w : World}
theorem decB_prop : DecB enc Tryz.prog w 70 2 Prp.lay (fun _ => True) (fun p => max p.name.length p.value.length + 1) := fun n cs x h hlen hw => by
  match cs, hlen with
  | [c0, c1], _ =>
  have ks : Tryz.prog.cellsOf 9 = 1 := by kernel_rfl
  have ht := Tryz.underlying70
  obtain ⟨a0, e0, -, s0⟩ := zEj 0 0 ht h hw rfl ks (zFr (enc := enc) Tryz.underlying9) (by simp)
  obtain ⟨a1, e1, -, s1⟩ := zEj 1 1 ht h hw rfl ks (zFr (enc := enc) Tryz.underlying9) (by simp)
  simp only [List.drop_succ_cons, List.drop_zero, List.take_succ_cons, List.take_zero, List.cons.injEq, and_true] at e0 e1
  subst e0 e1
  refine ⟨⟨a0, a1⟩, rfl, trivial, ?_⟩
  show max a0.length a1.length + 1 ≤ _
  omega
theorem decB_rec : DecB enc Tryz.prog w 26 13 RV.lay (fun x => RecR (old w) x.r x.pv x.kv x.dv) (fun x => recSz x.r + 1) := fun n cs x h hlen hw => by
  match cs, hlen with
  | [c0, c1, c2, c3, c4, c5, c6, c7, c8, c9, c10, c11, c12], _ =>
  have ki : Tryz.prog.cellsOf 3 = 1 := by kernel_rfl
  have ks : Tryz.prog.cellsOf 9 = 1 := by kernel_rfl
  have kp : Tryz.prog.cellsOf 22 = 1 := by kernel_rfl
  have kk : Tryz.prog.cellsOf 23 = 1 := by kernel_rfl
  have kb : Tryz.prog.cellsOf 24 = 1 := by kernel_rfl
  have ht := Tryz.underlying26
  obtain ⟨a0, e0, h0⟩ := zDn 0 0 ht h hw rfl ki (dec_i64 (enc := enc) Tryz.underlying3) (by simp)
  obtain ⟨a1, e1, -, s1⟩ := zEj 1 1 ht h hw rfl ks (zFr (enc := enc) Tryz.underlying9) (by simp)
  obtain ⟨a2, e2, h2⟩ := zDn 2 2 ht h hw rfl ki (dec_i64 (enc := enc) Tryz.underlying3) (by simp)
  obtain ⟨a3, e3, h3⟩ := zDn 3 3 ht h hw rfl ki (dec_i64 (enc := enc) Tryz.underlying3) (by simp)
  obtain ⟨a4, e4, h4⟩ := zDn 4 4 ht h hw rfl ki (dec_i64 (enc := enc) Tryz.underlying3) (by simp)
  obtain ⟨a5, e5, h5⟩ := zDn 5 5 ht h hw rfl ki (dec_i64 (enc := enc) Tryz.underlying3) (by simp)
  obtain ⟨a6, e6, -, s6⟩ := zEj 6 6 ht h hw rfl ks (zFr (enc := enc) Tryz.underlying9) (by simp)
  obtain ⟨⟨v7, l7⟩, e7, g7, s7⟩ := zEj 7 7 ht h hw rfl kp (zHq (enc := enc) (s := 2) (sz := 32) Tryz.underlying22 (by kernel_rfl) (by decide) (by kernel_rfl) decB_prop (fun p _ u hu => by simp only [Prp.lay, List.mem_cons, List.not_mem_nil, or_false] at hu; rcases hu with rfl | rfl <;> rfl)) (by simp)
  obtain ⟨a8, e8, h8⟩ := zDn 8 8 ht h hw rfl ki (dec_i64 (enc := enc) Tryz.underlying3) (by simp)
  obtain ⟨a9, e9, h9⟩ := zDn 9 9 ht h hw rfl ki (dec_i64 (enc := enc) Tryz.underlying3) (by simp)
  obtain ⟨a10, e10, h10⟩ := zDn 10 10 ht h hw rfl ki (dec_i64 (enc := enc) Tryz.underlying3) (by simp)
  obtain ⟨⟨v11, l11⟩, e11, g11, s11⟩ := zEj 11 11 ht h hw rfl kk (zHq (enc := enc) (s := 1) (sz := 8) Tryz.underlying23 (by kernel_rfl) (by decide) (by kernel_rfl) (dec_one (dec_i64 Tryz.underlying3)) (fun _ _ u hu => by rw [List.mem_singleton.1 hu]; rfl)) (by simp)
  obtain ⟨⟨v12, l12⟩, e12, g12, s12⟩ := zEj 12 12 ht h hw rfl kb (zHq (enc := enc) (s := 1) (sz := 1) Tryz.underlying24 (by kernel_rfl) (by decide) (by kernel_rfl) (dec_one (dec_u8 Tryz.underlying5)) (fun _ _ u hu => by rw [List.mem_singleton.1 hu]; rfl)) (by simp)
  simp only [List.drop_succ_cons, List.drop_zero, List.take_succ_cons, List.take_zero, List.cons.injEq, and_true] at e0 e1 e2 e3 e4 e5 e6 e7 e8 e9 e10 e11 e12
  subst e0 e1 e2 e3 e4 e5 e6 e7 e8 e9 e10 e11 e12
  obtain ⟨_, _, -, -, -, r7, -⟩ := g7
  obtain ⟨_, _, -, -, -, r11, -⟩ := g11
  obtain ⟨_, _, -, -, -, r12, -⟩ := g12
  simp only at r7 r11 r12 s7 s11 s12
  have f11 : ∀ l : List Int, (l.flatMap fun z => [Value.int .i64 z]) = ints l := fun l => by
    induction l with
    | nil => rfl
    | cons a l ih => rw [List.flatMap_cons, ih]; rfl
  rw [f11] at r11
  rw [flat_byt] at r12
  have o11 : (l11.map fun _ => 1).sum = l11.length := ones_sum _
  have o12 : (l12.map fun _ => 1).sum = l12.length := ones_sum _
  refine ⟨⟨⟨a0, a1, a2, a3, a4, a5, a6, l7, a8, a9, a10, l11, l12⟩, c7, c11, c12⟩, rfl, ⟨r7, r11, r12⟩, ?_⟩
  simp only [recSz]
  omega
theorem dec_sum : Dec enc Tryz.prog w 29 4 (fun s : Fs => [.int .u64 s.a, .int .u64 s.b, .int .u64 s.c, .int .u64 s.d]) Fs.Ok := fun n cs x h hlen hw => by
  match cs, hlen with
  | [c0, c1, c2, c3], _ =>
  have ki : Tryz.prog.cellsOf 27 = 1 := by kernel_rfl
  have ht := Tryz.underlying29
  obtain ⟨a0, e0, h0⟩ := zDn 0 0 ht h hw rfl ki (zLd (enc := enc) Tryz.underlying27) (by simp)
  obtain ⟨a1, e1, h1⟩ := zDn 1 1 ht h hw rfl ki (zLd (enc := enc) Tryz.underlying27) (by simp)
  obtain ⟨a2, e2, h2⟩ := zDn 2 2 ht h hw rfl ki (zLd (enc := enc) Tryz.underlying27) (by simp)
  obtain ⟨a3, e3, h3⟩ := zDn 3 3 ht h hw rfl ki (zLd (enc := enc) Tryz.underlying27) (by simp)
  simp only [List.drop_succ_cons, List.drop_zero, List.take_succ_cons, List.take_zero, List.cons.injEq, and_true] at e0 e1 e2 e3
  subst e0 e1 e2 e3
  exact ⟨⟨a0, a1, a2, a3⟩, rfl, ⟨h0, h1, h2, h3⟩⟩
end
theorem laid4s {W : World} (h : laidMetH Tryz.prog [("unicode/utf8.acceptRanges", Rows.laid_unicode_utf8_acceptRanges), ("undercroft/sum.rounds", Rows.laid_undercroft_sum_rounds), ("unicode/utf8.first", Rows.laid_unicode_utf8_first)] W) : Tab [old W] 2 shaK := by
  rw [MakeChecks.laidMetH_plain _ _ _ (by kernel_rfl)] at h
  obtain ⟨ps, ⟨gx, tx, csx, fx, px, qx, hgx, htx, hvx, hdx, ⟨g2, t2, cs2, f2, p2, q2, hg2, ht2, hv2, hd2, _, _⟩, _⟩, _, _⟩ := h
  have a2 : Tryz.prog.globalNamed "undercroft/sum.rounds" = some 2 := by kernel_rfl
  obtain rfl := Option.some.inj (a2.symm.trans hg2)
  obtain rfl := Option.some.inj ((show (Tryz.prog.globals[(2 : Nat)]?).map (·.type) = some 127 by kernel_rfl).symm.trans ht2)
  exact tab_of_var shaK a2 Tryz.underlying127 Tryz.underlying121 (by kernel_rfl) (by kernel_rfl) (by kernel_rfl) hv2 hd2
theorem cut_upto (W : World) (hL : laidMetH Tryz.prog Rows.recordCutUptoRow.laid W) (X : RV) (g : RecR (old W) X.r X.pv X.kv X.dv) (s : recSz X.r + 1 ≤ 1048576) (Y : Fs) (gy : Y.Ok) (_ : 1 ≤ 1048576)
    (k : Int) (hk : -9223372036854775808 ≤ k ∧ k ≤ 9223372036854775807) (_ : 1 ≤ 1048576) :
    Ret Tryz.prog 5 #[.agg X.lay.toArray, .agg [.int .u64 Y.a, .int .u64 Y.b, .int .u64 Y.c, .int .u64 Y.d].toArray, .int .i64 k] W fun u w' => u = .bool true ∧ Trs W w' [old W] [old W] :=
  cut_walk (old W) (laid4s hL) X.r X.pv X.kv X.dv g (recSz_sml (by omega)) Y gy k hk W (hp_old W)
end Go.Proofs.YtbogecljkaimdaaGreatDoor
namespace Go.Sl
open Go.ChangeShapes Go.WideShapes Go.ChangeAt Go.RowKit
section
variable {H : Type} {enc : TypeId × Value → H} {P : Program}
theorem zKd (hl : laidOutB P = true) {W W' : World} (hb : Below W.heap.size W W') {sp : Nat → Bool} : ∀ (ts : List TypeId) (vs : List Value) (ds : List (DataW H)) (ps : List MemPlace),
    (∀ t ∈ ts, P.readableRec t = true ∧ t < P.types.size) → DataW.TrodAll enc P W 0 (fun _ => true) true ts vs ds ps → (∀ x ∈ ps, x.block < W.heap.size) → (∀ x ∈ ps, sp x.block = true) → DataW.TrodAll enc P W' 0 sp true ts vs ds ps
  | [], vs, ds, ps, _, h, _, _ => by
    obtain ⟨rfl, rfl, rfl⟩ := trodAll_nil h
    exact trodAll_mk0
  | t :: ts, vs, ds, ps, ht, h, hlt, hsp => by
    obtain ⟨v0, vs0, d0, ds0, p0, q0, rfl, rfl, rfl, h0, r0⟩ := trodAll_cons h
    refine trodAll_cons_mk ?_ (zKd hl hb ts vs0 ds0 q0 (fun u hu => ht u (List.mem_cons_of_mem _ hu)) r0 (fun x hx => hlt x (List.mem_append_right _ hx)) (fun x hx => hsp x (List.mem_append_right _ hx)))
    exact WideElems.Trod_stays hl (ht t (List.mem_cons_self ..)).1 (ht t (List.mem_cons_self ..)).2 h0 (fun x hx => hb.same (hlt x (List.mem_append_left _ hx))) (fun x hx => hsp x (List.mem_append_left _ hx))
theorem post_below {f : Func} {s : ChangeSpec} {apart fresh handsOn again : Bool} {W W' : World} {args : Array Value} {ds gs : List (DataW H)} {before : List MemPlace} {tb : TypeId}
    (hl : laidOutB P = true) (hW : DataW.Whole enc P f.params.toList s.vars apart W args.toList ds gs before) (hvars : s.vars = [])
    (hts : ∀ t ∈ f.params.toList, P.readableRec t = true ∧ t < P.types.size) (hrt : f.resultTypes = #[tb]) (htb : P.underlying tb = some .bool)
    (hs : (s.fn H (ds ++ gs)) = { results := [.lit (.bool true)], args := ds }) (hb : Below W.heap.size W W') :
    s.post enc P f apart fresh handsOn again W args (.bool true) W' := by
  have hlt : ∀ p ∈ before, p.block < W.heap.size := fun p hp => hW.lt p hp
  obtain ⟨p, q, hA, hV, rfl, hz, hn⟩ := id hW
  rw [hvars] at hV
  obtain ⟨rfl, rfl⟩ := trodVars_none hV
  simp only [List.append_nil] at *
  have hargs : ∀ sp : Nat → Bool, (∀ x ∈ p, sp x.block = true) → DataW.TrodAll enc P W' 0 sp true f.params.toList args.toList (s.fn H ds).args p := fun sp hsp => by
    rw [hs]; exact zKd hl hb _ _ _ _ hts hA hlt hsp
  have hres : ∀ (b : Nat) (sp : Nat → Bool) (hd : Bool), DataW.TrodAll enc P W' b sp hd f.resultTypes.toList ((Value.bool true).resultList f.resultTypes.size) (s.fn H ds).results [] := fun b sp hd => by
    rw [hs, hrt]; exact trodAll_mk1 (shut_bool htb true)
  have hvs : ∀ sp : Nat → Bool, DataW.TrodVars enc P W' sp s.vars (s.fn H ds).vars [] := fun sp => by
    rw [hvars, hs]; exact rfl
  refine ⟨ds, [], p, [], p, [], hW, by simpa using hres _ _ _, by simpa using hargs _ (fun x hx => by simpa using hlt x hx), by simpa using hvs _, World.keptBut_mono (fun x hx => ⟨hx, ?_⟩) (hb.frame (· ∈ p)), fun _ => ?_⟩
  · exact Or.inr (Or.inl hx)
  · have hok : ∀ (j : Nat) (t : TypeId) (r : Value), f.resultTypes[j]? = some t → ((Value.bool true).resultList f.resultTypes.size)[j]? = some r → Value.okWide P W' .any 0 t r :=
      ok_one hrt rfl (okWide_bool_mk htb true)
    have h1 := trodAll_append (hargs (fun _ => true) (fun _ _ => rfl)) (hres 0 (fun _ => true) true)
    refine ⟨hok, _, [], [] ++ p, ⟨[] ++ p, [], h1, by have := hvs (fun _ => true); rw [hs] at this; exact this, by simp, ?_, ?_⟩, fun x hx _ => by simpa using hx⟩
    · intro b off hx
      have hin : MemPlace.cell b off ∈ p := by simpa using hx
      rw [hb.frozen (hlt _ hin)]
      exact hz b off hin
    · intro ha
      simpa using hn ha
end
end Go.Sl
