/-
  Texts put together (16).
-/
import Derived.Test.YtbogecljkaimdaaGreatDoorZRecordReads15
namespace Go.Sl
theorem sl_take {D : zAw} {ad : Option Addr} {c n : Nat} {b : List UInt8} (h : Rd D 1 (.slice ad b.length c) b.length (byt b)) (hc : b.length ≤ c) (hn : n ≤ b.length) :
    ∃ ad2, sliced ad 0 n c 1 = .slice ad2 (b.take n).length c ∧ Rd D 1 (.slice ad2 (b.take n).length c) (b.take n).length (byt (b.take n)) ∧ (b.take n).length ≤ c := by
  have hp := h.piece rfl (lo := 0) (hi := n) (mx := c) (Nat.zero_le _) hn (by omega)
  have hl : (b.take n).length = n := by rw [List.length_take]; omega
  simp only [Nat.mul_one, List.drop_zero, Nat.sub_zero, zFj] at hp
  have e : sliced ad 0 n c 1 = .slice (if c = 0 then ad else ad.map (·.add (0 * 1))) (b.take n).length c := by rw [hl]; rfl
  exact ⟨_, e, by rw [← e, hl]; exact hp, by omega⟩
end Go.Sl
namespace Go.Proofs.YtbogecljkaimdaaGreatDoor
open Go.Sl
set_option maxRecDepth 10000
def rec1 : Rec := { zDt 6 with many := 5 }
theorem rec1_ck : ckB rec1 = true := by rw [ck6 (.inl rfl), may6]; rfl
theorem rec1_rd (X : zAw) : RecR X rec1 nilv nilv nilv := ⟨Rd.nil _ _, Rd.nil _ _, Rd.nil _ _⟩
theorem rec1_sml : Sml rec1 := ⟨zDd, zDd, zDd, zHf, zDd, zDd⟩
theorem rec0_ck : ckE (zDt 6) = 200 := by
  have : ckB (zDt 6) = false := by rw [ck6 (.inl rfl), may6]; rfl
  simp [ckE, this]
theorem zeroR_rd (X : zAw) (k : Int) : RecR X (zDt k) nilv nilv nilv := ⟨Rd.nil _ _, Rd.nil _ _, Rd.nil _ _⟩
theorem zero_sml (k : Int) : Sml (zDt k) := ⟨zDd, zDd, zDd, zHf, zDd, zDd⟩
set_option maxHeartbeats 1000000 in
theorem awake_ret {As : List zAw} (hG : Tab As 2 shaK) (w0 : World) (H : Hp w0 As) :
    Ret Tryz.prog 9 #[] w0 fun u w' => u = .bool true ∧ Trs w0 w' As As := by
  have S := St.begin H
  have hGA : ∃ G ∈ As, ∃ T fr, ((2 : Nat), Obj.cells (u32s shaK).toArray T fr) ∈ G := hG
  obtain ⟨X, hXm, -⟩ := hGA
  have henc := encR_yes rec1_ck zGj
  have hdec := dec_enc rec1_ck zGj []
  rw [List.append_nil] at hdec
  obtain ⟨pb, hpb⟩ : ∃ pb, pb = zDl rec1.kind (zFo rec1.kind rec1) zGj := ⟨_, rfl⟩
  obtain ⟨own, hown⟩ : ∃ own, own = ownS rec1.kind (zFo rec1.kind rec1) zGj := ⟨_, rfl⟩
  have hpl : pb.length = 41 := by rw [hpb, zGt]; rfl
  have hp9 : pb.take 9 = [6, 4, 0, 0, 0, 5, 0, 0, 0] := by
    have e1 : (zFi rec1.kind (zFo rec1.kind rec1)) = [6, 4, 0, 0, 0, 5, 0, 0, 0] := by rfl
    rw [hpb, zDl, e1]; rfl
  rw [← hpb, ← hown] at henc hdec
  have hd4 : decR (pb.take 4) zGj = zIm 10 := dec_1 (by rw [List.length_take]; omega)
  rw [hpl] at hdec
  refine enter0 86 Tryz.func9 rfl rfl ?_; intro a E
  refine wp_seq_k ?_; intro K hK
  refine zAb ?_
  refine zp E (zAd E rfl rfl) ?_; clear E a; intro a E
  refine wpList_nil ?_
  refine zAf hK ?_; clear hK; clear K
  refine wp_seq_k ?_; intro K hK
  refine zAb ?_
  refine zp E (zCg (cells := [_, _, _, _, _, _, _, _, _, _, _, _, _]) E rfl rfl rfl) ?_; clear E a; intro a E
  refine zp E (zCg (cells := [_, _, _, _]) E rfl rfl rfl) ?_; clear E a; intro a E
  refine zAp E rfl rfl (by decide) rfl Tryz.func12 rfl (by kernel_rfl) rfl (encode_ret (r := rec1) (rec1_rd X) rec1_sml zGj (by repeat (first | exact hXm | apply List.Mem.tail)) (by repeat (first | exact hG | apply Tab.tail)) _ S.hp) ?_
  rintro v18 w h; clear E a; intro a E
  replace h := encP_Q h; rw [henc] at h; obtain ⟨v1, C1, rfl, hB1, hT⟩ := h; have S := S.all hT; simp only at hB1
  obtain ⟨ad1, c1, rfl⟩ := hB1.slice
  have hc1 := hB1.cap_le
  refine zp E (zAe E rfl rfl) ?_; clear E a; intro a E
  iterate 3 (refine zp E (zBt E rfl rfl rfl) ?_; clear E a; intro a E)
  refine zAn rfl (zBv E S rfl rfl (by decide) rfl rfl rfl ?_); clear E S a; intro a w b2 E S
  refine zp E (zAd E rfl rfl) ?_; clear E a; intro a E
  refine zAn rfl (zBe E S rfl rfl rfl rfl (by simp [Value.oneCell']) rfl (by repeat (first | exact pk1 | apply zAc)) (by simp) ?_); clear E S a; intro a w E S; simp only [List.take_succ_cons, List.take_zero, List.drop_succ_cons, List.drop_zero, List.cons_append, List.nil_append, List.append_nil, List.length_cons, List.length_nil, Nat.zero_add, Nat.add_zero] at S
  refine zp E (zAd E rfl rfl) ?_; clear E a; intro a E
  refine wpList_nil ?_
  refine zAf hK ?_; clear hK; clear K
  refine wp_seq_k ?_; intro K hK
  obtain ⟨a4, he4, hR4, hc4⟩ := sl_take (n := 4) hB1.rd hc1 (by omega)
  obtain ⟨a9, he9, hR9, hc9⟩ := sl_take (n := 9) hB1.rd hc1 (by omega)
  have h4l : (pb.take 4).length = 4 := by rw [List.length_take]; omega
  have h9l : (pb.take 9).length = 9 := by rw [List.length_take]; omega
  refine zAb ?_
  refine zp E (zAe E rfl rfl) ?_; clear E a; intro a E
  refine zp E (zAd E rfl rfl) ?_; clear E a; intro a E
  refine wpList_nil ?_
  refine zAf hK ?_; clear hK; clear K
  iterate 2 (refine wp_seq_k ?_; intro K hK)
  refine zAb ?_
  refine zp E (zAe E rfl rfl) ?_; clear E a; intro a E
  refine zp E (by first | exact zBz E rfl rfl rfl | exact zBa E rfl rfl rfl | exact zAr E rfl rfl rfl) ?_; clear E a; intro a E
  refine zp E (zDq E rfl rfl rfl) ?_; clear E a; intro a E
  refine wpList_nil ?_
  refine zAf hK ?_; clear hK; clear K
  refine zCf E rfl ((by rw [hpl]; rfl)) ?_
  refine zAb ?_
  refine zp E (zAe E rfl rfl) ?_; clear E a; intro a E
  refine zp E (zFp (hi := 4) (s := 1) E rfl rfl rfl rfl rfl rfl (by omega)) ?_; clear E a; intro a E
  rw [he4] at E
  have S := S.front1 (A := C1) (by repeat (first | exact pk1 | apply zAc))
  refine zp E (zAd E rfl rfl) ?_; clear E a; intro a E
  refine wpList_nil ?_
  refine zAf hK ?_; clear hK; clear K
  refine wp_seq_k ?_; intro K hK
  refine zAb ?_
  refine zp E (zAe E rfl rfl) ?_; clear E a; intro a E
  refine zp E (zCg (cells := [_, _, _, _]) E rfl rfl rfl) ?_; clear E a; intro a E
  refine zAp E rfl rfl (by decide) rfl Tryz.func19 rfl (by kernel_rfl) rfl (zIt C1 a4 c1 (pb.take 4) hR4 hc4 (by omega) zGj _ (by repeat (first | exact hG | apply Tab.tail)) _ S.hp) ?_
  rintro v31 w ⟨X4, p4, k4, d4, rfl, hX4, hT⟩; clear E a; intro a E
  rw [hd4] at E; have S := S.all hT; simp only [zIm, zDt, Rec.cells] at E
  rw [hd4] at hX4
  obtain ⟨q1, n1', rfl⟩ := hX4.rd.pr.slice
  obtain ⟨q2, n2', rfl⟩ := hX4.rd.kr.slice
  obtain ⟨q3, n3', rfl⟩ := hX4.rd.dr.slice
  refine zp E (zAe E rfl rfl) ?_; clear E a; intro a E
  iterate 4 (refine zp E (zBt E rfl rfl rfl) ?_; clear E a; intro a E)
  refine zAn rfl (zBv E S rfl rfl (by decide) rfl rfl rfl ?_); clear E S a; intro a w b5 E S
  refine zAn rfl (zBv E S rfl rfl (by decide) rfl rfl rfl ?_); clear E S a; intro a w b7 E S
  refine zAn rfl (zBe E S rfl rfl rfl rfl (by simp [Value.oneCell']) rfl (by repeat (first | exact pk1 | apply zAc)) (by simp) ?_); clear E S a; intro a w E S; simp only [List.take_succ_cons, List.take_zero, List.drop_succ_cons, List.drop_zero, List.cons_append, List.nil_append, List.append_nil, List.length_cons, List.length_nil, Nat.zero_add, Nat.add_zero] at S
  refine zp E (zAd E rfl rfl) ?_; clear E a; intro a E
  refine zAn rfl (zBe E S rfl rfl rfl rfl (by simp [Value.oneCell']) rfl (by repeat (first | exact pk1 | apply zAc)) (by simp) ?_); clear E S a; intro a w E S; simp only [List.take_succ_cons, List.take_zero, List.drop_succ_cons, List.drop_zero, List.cons_append, List.nil_append, List.append_nil, List.length_cons, List.length_nil, Nat.zero_add, Nat.add_zero] at S
  refine zp E (zAd E rfl rfl) ?_; clear E a; intro a E
  refine wpList_nil ?_
  refine zAf hK ?_; clear hK; clear K
  refine wp_seq_k ?_; intro K hK
  replace E := E.keep (e' := [(0, _), (1, _), (2, _), (3, _), (8, _)]) (zAa rfl (zAa rfl (zAa rfl (zAa rfl (zAa rfl (zAm))))))
  refine zAb ?_
  refine zp E (zAe E rfl rfl) ?_; clear E a; intro a E
  refine zp E (zCg (cells := [_, _, _, _]) E rfl rfl rfl) ?_; clear E a; intro a E
  have S := S.front1 (A := C1) (by repeat (first | exact pk1 | apply zAc))
  refine zAp E rfl rfl (by decide) rfl Tryz.func19 rfl (by kernel_rfl) rfl (zIt C1 ad1 c1 pb hB1.rd hc1 (by omega) zGj _ (by repeat (first | exact hG | apply Tab.tail)) _ S.hp) ?_
  rintro v39 w ⟨X5, p5, k5, d5, rfl, hX5, hT⟩; clear E a; intro a E
  rw [hdec] at E; have S := S.all hT; simp only [rec1, zDt, Rec.cells] at E
  rw [hdec] at hX5
  obtain ⟨q4, n4', rfl⟩ := hX5.rd.pr.slice
  obtain ⟨q5, n5', rfl⟩ := hX5.rd.kr.slice
  obtain ⟨q6, n6', rfl⟩ := hX5.rd.dr.slice
  refine zp E (zAe E rfl rfl) ?_; clear E a; intro a E
  iterate 4 (refine zp E (zBt E rfl rfl rfl) ?_; clear E a; intro a E)
  refine zAn rfl (zBv E S rfl rfl (by decide) rfl rfl rfl ?_); clear E S a; intro a w b9 E S
  refine zAn rfl (zBv E S rfl rfl (by decide) rfl rfl rfl ?_); clear E S a; intro a w b11 E S
  refine zAn rfl (zBe E S rfl rfl rfl rfl (by simp [Value.oneCell']) rfl (by repeat (first | exact pk1 | apply zAc)) (by simp) ?_); clear E S a; intro a w E S; simp only [List.take_succ_cons, List.take_zero, List.drop_succ_cons, List.drop_zero, List.cons_append, List.nil_append, List.append_nil, List.length_cons, List.length_nil, Nat.zero_add, Nat.add_zero] at S
  refine zp E (zAd E rfl rfl) ?_; clear E a; intro a E
  refine zAn rfl (zBe E S rfl rfl rfl rfl (by simp [Value.oneCell']) rfl (by repeat (first | exact pk1 | apply zAc)) (by simp) ?_); clear E S a; intro a w E S; simp only [List.take_succ_cons, List.take_zero, List.drop_succ_cons, List.drop_zero, List.cons_append, List.nil_append, List.append_nil, List.length_cons, List.length_nil, Nat.zero_add, Nat.add_zero] at S
  refine zp E (zAd E rfl rfl) ?_; clear E a; intro a E
  refine wpList_nil ?_
  refine zAf hK ?_; clear hK; clear K
  refine wp_seq_k ?_; intro K hK
  refine zAb ?_
  refine zp E (zCg (cells := [_, _, _, _, _, _, _, _, _, _, _, _, _]) E rfl rfl rfl) ?_; clear E a; intro a E
  refine zAp E rfl rfl (by decide) rfl Tryz.func11 rfl (by kernel_rfl) rfl (zKa (r := zDt 6) (zeroR_rd X 6) (zero_sml 6) (by repeat (first | exact hXm | apply List.Mem.tail)) _ S.hp) ?_
  rintro v45 w ⟨rfl, hT⟩; clear E a; intro a E
  rw [rec0_ck] at E; have S := S.all hT
  refine zp E (zAd E rfl rfl) ?_; clear E a; intro a E
  refine wpList_nil ?_
  refine zAf hK ?_; clear hK; clear K
  refine wp_seq_k ?_; intro K hK
  refine zAb ?_
  refine zp E (zAe E rfl rfl) ?_; clear E a; intro a E
  refine zp E (by first | exact zBz E rfl rfl rfl | exact zBa E rfl rfl rfl | exact zAr E rfl rfl rfl) ?_; clear E a; intro a E
  refine zp E (by first | exact zCe E rfl rfl rfl | exact zAt E rfl rfl rfl rfl | exact zBd E rfl rfl rfl rfl | exact zAv E rfl rfl rfl) ?_; clear E a; intro a E
  refine zp E (zAe E rfl rfl) ?_; clear E a; intro a E
  refine zCv E (t := 49) rfl ((by rw [hpl]; rfl)) (fun hb49 => ?_)
  refine zy E hb49 (zAe E rfl rfl) ?_; clear E a; intro a E
  refine zy E hb49 (zFp (hi := 9) (s := 1) E rfl rfl rfl rfl rfl rfl (by omega)) ?_; clear E a; intro a E
  rw [he9] at E
  refine zy E hb49 (zBx E rfl rfl rfl rfl rfl hR9 (S.stab.at (by repeat (first | exact mm1 | assumption | apply List.Mem.tail)))) ?_; clear E a; intro a E
  refine zy E hb49 (by first | exact zCe E rfl rfl rfl | exact zAt E rfl rfl rfl rfl | exact zBd E rfl rfl rfl rfl | exact zAv E rfl rfl rfl) ?_; clear E a; intro a E
  refine zp E (zAl E rfl rfl hb49 rfl) ?_; clear E a; intro a E
  refine zp E (zAe E rfl rfl) ?_; clear E a; intro a E
  refine zCv E (t := 55) rfl ((decide_eq_true hp9)) (fun hb55 => ?_)
  refine zy E hb55 (zAe E rfl rfl) ?_; clear E a; intro a E
  refine zy E hb55 (by first | exact zCe E rfl rfl rfl | exact zAt E rfl rfl rfl rfl | exact zBd E rfl rfl rfl rfl | exact zAv E rfl rfl rfl) ?_; clear E a; intro a E
  refine zp E (zAl E rfl rfl hb55 rfl) ?_; clear E a; intro a E
  refine zp E (zAe E rfl rfl) ?_; clear E a; intro a E
  refine zCv E (t := 59) rfl (rfl) (fun hb59 => ?_)
  refine zy E hb59 (zAe E rfl rfl) ?_; clear E a; intro a E
  refine zy E hb59 (by first | exact zCe E rfl rfl rfl | exact zAt E rfl rfl rfl rfl | exact zBd E rfl rfl rfl rfl | exact zAv E rfl rfl rfl) ?_; clear E a; intro a E
  refine zp E (zAl E rfl rfl hb59 rfl) ?_; clear E a; intro a E
  refine zp E (zAd E rfl rfl) ?_; clear E a; intro a E
  refine wpList_nil ?_
  refine zAf hK ?_; clear hK; clear K
  refine wp_seq_k ?_; intro K hK
  replace E := E.keep (e' := [(0, _), (2, _), (9, _), (10, _), (11, _), (12, _), (13, _), (14, _)]) (zAa rfl (zAa rfl (zAa rfl (zAa rfl (zAa rfl (zAa rfl (zAa rfl (zAa rfl (zAm)))))))))
  refine zAb ?_
  iterate 2 (refine zp E (zAe E rfl rfl) ?_; clear E a; intro a E)
  refine zCv E (t := 64) rfl (rfl) (fun hb64 => ?_)
  refine zy E hb64 (by first | exact zAg (q := 10) E rfl rfl rfl | exact zAh (q := 10) E rfl rfl rfl) ?_; clear E a; intro a E
  refine zy E hb64 (by first | exact zAo E rfl rfl rfl (S.get (by repeat (first | exact pk1 | apply zAc))) rfl | exact zAk E rfl rfl rfl (by assumption)) ?_; clear E a; intro a E
  refine zy E hb64 (by first | exact zCe E rfl rfl rfl | exact zAt E rfl rfl rfl rfl | exact zBd E rfl rfl rfl rfl | exact zAv E rfl rfl rfl) ?_; clear E a; intro a E
  refine zp E (zAl E rfl rfl hb64 rfl) ?_; clear E a; intro a E
  refine zp E (zAe E rfl rfl) ?_; clear E a; intro a E
  refine zCv E (t := 69) rfl (rfl) (fun hb69 => ?_)
  refine zy E hb69 (zAe E rfl rfl) ?_; clear E a; intro a E
  refine zy E hb69 (by first | exact zCe E rfl rfl rfl | exact zAt E rfl rfl rfl rfl | exact zBd E rfl rfl rfl rfl | exact zAv E rfl rfl rfl) ?_; clear E a; intro a E
  refine zp E (zAl E rfl rfl hb69 rfl) ?_; clear E a; intro a E
  refine zp E (zAe E rfl rfl) ?_; clear E a; intro a E
  refine zCv E (t := 73) rfl (rfl) (fun hb73 => ?_)
  iterate 2 (refine zy E hb73 (zBp (vs := [_, _, _, _]) E rfl rfl rfl (S.get (by repeat (first | exact pk1 | apply zAc))) rfl rfl) ?_; clear E a; intro a E)
  refine zy E hb73 (by first | exact zJu E rfl rfl rfl rfl (by kernel_rfl) (by kernel_rfl) rfl rfl rfl | exact zIy E rfl rfl rfl rfl (by kernel_rfl) (by kernel_rfl) rfl) ?_; clear E a; intro a E
  refine zp E (zAl E rfl rfl hb73 rfl) ?_; clear E a; intro a E
  refine zp E (zAe E rfl rfl) ?_; clear E a; intro a E
  refine zCv E (t := 78) rfl ((by simp)) (fun hb78 => ?_)
  refine zy E hb78 (zAe E rfl rfl) ?_; clear E a; intro a E
  refine zy E hb78 (by first | exact zCe E rfl rfl rfl | exact zAt E rfl rfl rfl rfl | exact zBd E rfl rfl rfl rfl | exact zAv E rfl rfl rfl) ?_; clear E a; intro a E
  refine zp E (zAl E rfl rfl hb78 rfl) ?_; clear E a; intro a E
  refine zp E (zAe E rfl rfl) ?_; clear E a; intro a E
  refine zCv E (t := 82) rfl (rfl) (fun hb82 => ?_)
  refine zy E hb82 (zAe E rfl rfl) ?_; clear E a; intro a E
  refine zy E hb82 (by first | exact zCe E rfl rfl rfl | exact zAt E rfl rfl rfl rfl | exact zBd E rfl rfl rfl rfl | exact zAv E rfl rfl rfl) ?_; clear E a; intro a E
  refine zp E (zAl E rfl rfl hb82 rfl) ?_; clear E a; intro a E
  refine zp E (zAd E rfl rfl) ?_; clear E a; intro a E
  refine wpList_nil ?_
  refine zAf hK ?_; clear hK; clear K
  refine wp_ret ?_
  refine ret1 E rfl rfl ?_
  exact ⟨_, rfl, rfl, by repeat (first | exact S.tr | replace S := S.tail)⟩
end Go.Proofs.YtbogecljkaimdaaGreatDoor
namespace Go.Proofs.YtbogecljkaimdaaGreatDoor
open Go.Sl
set_option maxRecDepth 10000
theorem spoil_ret {D : zAw} {r : Rec} {pv kv dv : Value} (hD : zJd D r pv kv dv) (hs : Sml r) (As : List zAw) (w0 : World) (H : Hp w0 (D :: As)) :
    Ret Tryz.prog 14 #[.agg (r.cells pv kv dv).toArray] w0 fun _ w' => ∃ D', Trs w0 w' (D :: As) (D' :: As) := by
  obtain ⟨D1, D2, D3, rfl, hB1, hB2, hB3⟩ := hD
  have h1 := hs.props
  have h2 := hs.keep
  have h3 := hs.data
  have S := (St.begin H).split.perm2.split.perm (Bs := D1 :: D2 :: D3 :: As) (by
    exact (zAc (zAc (zJl _ _))).symm.symm)
  obtain ⟨ad1, c1, rfl⟩ := hB1.slice
  obtain ⟨ad2, c2, rfl⟩ := hB2.slice
  obtain ⟨ad3, c3, rfl⟩ := hB3.slice
  refine zCw 39 Tryz.func14 rfl rfl (by decide) ?_; intro a E
  refine wp_seq_k ?_; intro K hK
  refine zAb ?_
  refine zAn rfl (zCq E S rfl rfl (by decide) rfl rfl ?_); clear E S a; intro a w b1 E S
  refine wpList_nil ?_
  refine zAf hK ?_; clear hK; clear K
  iterate 2 (refine wp_seq_k ?_; intro K hK)
  refine zAb ?_
  refine zp E (zAd E rfl rfl) ?_; clear E a; intro a E
  refine wpList_nil ?_
  refine zAf hK ?_; clear hK; clear K
  refine wp_block ?_
  refine wp_loop_ghost (fun (m : Nat) (a : Act) (w' : World) => ∃ (i : Nat) (C1 : zAw) (xs : List Value), m = r.props.length - i ∧ i ≤ r.props.length ∧ Buf C1 70 2 (.slice ad1 r.props.length c1) r.props.length xs ∧ St w0 ((D1 ++ (D2 ++ D3)) :: As) w' (C1 :: [(b1, cel (r.cells (.slice ad1 r.props.length c1) (.slice ad2 r.keep.length c2) (.slice ad3 r.data.length c3)) 26)] :: D2 :: D3 :: As) ∧ Fr a 39 [(1, ptr b1), (2, .int .i64 i)]) (r.props.length) ?_ ?_
  · exact ⟨0, D1, _, by omega, by omega, hB1, S.perm2, E.keep (zAa rfl (zAa rfl zAm))⟩
  clear E; clear a; (try clear S); rintro m a w ⟨i, C1, xs, rfl, hi, hC1, S, E⟩
  iterate 2 (refine wp_seq_k ?_; intro K hK)
  refine zAb ?_
  refine zp E (zAe E rfl rfl) ?_; clear E a; intro a E
  refine zp E (by first | exact zAg (q := 7) E rfl rfl rfl | exact zAh (q := 7) E rfl rfl rfl) ?_; clear E a; intro a E
  refine zp E (by first | exact zAo E rfl rfl rfl (S.get (by repeat (first | exact pk1 | apply zAc))) rfl | exact zAk E rfl rfl rfl (by assumption)) ?_; clear E a; intro a E
  refine zp E (by first | exact zBz E rfl rfl rfl | exact zBa E rfl rfl rfl | exact zAr E rfl rfl rfl) ?_; clear E a; intro a E
  refine zp E (zCj E rfl rfl rfl) ?_; clear E a; intro a E
  refine wpList_nil ?_
  refine zAf hK ?_; clear hK; clear K
  refine zBg E rfl (fun hb => ?_) (fun hb => ?_)
  · replace hb := Nrm.nrm hb
    refine wp_skip ?_
    refine zAf hK ?_; clear hK; clear K
    refine wp_seq_k ?_; intro K hK
    refine wp_block ?_
    have hil : i < r.props.length := by omega
    have hxl := hC1.1
    obtain ⟨g, rfl⟩ := hC1.addr (by omega)
    refine zAb ?_
    refine zp E (by first | exact zAg (q := 7) E rfl rfl rfl | exact zAh (q := 7) E rfl rfl rfl) ?_; clear E a; intro a E
    refine zp E (by first | exact zAo E rfl rfl rfl (S.get (by repeat (first | exact pk1 | apply zAc))) rfl | exact zAk E rfl rfl rfl (by assumption)) ?_; clear E a; intro a E
    refine zp E (zAe E rfl rfl) ?_; clear E a; intro a E
    refine zp E (zBu (s := 2) (i := i) E rfl rfl rfl rfl rfl rfl (by omega)) ?_; clear E a; intro a E
    refine zp E (by first | exact zAg (q := 0) E rfl rfl rfl | exact zAh (q := 0) E rfl rfl rfl) ?_; clear E a; intro a E
    refine zAn rfl (zJh E S rfl rfl rfl rfl rfl rfl hC1 (by repeat (first | exact pk1 | apply zAc)) (i := i * 2) (by omega) (by omega) ?_); clear E S a; intro a w Cs5 E hBs5 S
    refine wpList_nil ?_
    refine zBf ?_
    refine zAf hK ?_; clear hK; clear K
    refine zAb ?_
    refine zp E (zAe E rfl rfl) ?_; clear E a; intro a E
    refine zp E (zBs E rfl rfl rfl (by first | exact zCh (y := 1) (by omega) | exact w_in (by omega) | exact zBr (by omega) | exact rfl)) ?_; clear E a; intro a E
    refine zp E (zAd E rfl rfl) ?_; clear E a; intro a E
    refine wpList_nil ?_
    refine zBo ?_
    exact ⟨_, by omega, i + 1, Cs5, _, rfl, by omega, hBs5, S, E.keep (zAa rfl (zAa rfl zAm))⟩
  · replace hb := Nrm.nrm hb
    refine wp_exit ?_
    refine zBc ?_; clear hK; clear K
    refine zBc ?_
    refine zCk ?_
    refine zAf hK ?_; clear hK; clear K
    iterate 2 (refine wp_seq_k ?_; intro K hK)
    refine zAb ?_
    refine zp E (zAd E rfl rfl) ?_; clear E a; intro a E
    refine wpList_nil ?_
    refine zAf hK ?_; clear hK; clear K
    refine wp_block ?_
    refine wp_loop_ghost (fun (m : Nat) (a : Act) (w' : World) => ∃ (i : Nat) (C2 : zAw) (xs : List Value), m = r.keep.length - i ∧ i ≤ r.keep.length ∧ Buf C2 3 1 (.slice ad2 r.keep.length c2) r.keep.length xs ∧ St w0 ((D1 ++ (D2 ++ D3)) :: As) w' (C2 :: [(b1, cel (r.cells (.slice ad1 r.props.length c1) (.slice ad2 r.keep.length c2) (.slice ad3 r.data.length c3)) 26)] :: C1 :: D3 :: As) ∧ Fr a 39 [(1, ptr b1), (3, .int .i64 i)]) (r.keep.length) ?_ ?_
    · exact ⟨0, D2, _, by omega, by omega, hB2, S.front3 (A := D2) (B := [(b1, _)]) (C := C1) (by repeat (first | exact pk1 | apply zAc)) (by repeat (first | exact pk1 | apply zAc)) (by repeat (first | exact pk1 | apply zAc)), E.keep (zAa rfl (zAa rfl zAm))⟩
    clear E; clear a; (try clear S); rintro m a w ⟨j, C2, ys, rfl, hj, hC2, S, E⟩
    iterate 2 (refine wp_seq_k ?_; intro K hK)
    refine zAb ?_
    refine zp E (zAe E rfl rfl) ?_; clear E a; intro a E
    refine zp E (by first | exact zAg (q := 11) E rfl rfl rfl | exact zAh (q := 11) E rfl rfl rfl) ?_; clear E a; intro a E
    refine zp E (by first | exact zAo E rfl rfl rfl (S.get (by repeat (first | exact pk1 | apply zAc))) rfl | exact zAk E rfl rfl rfl (by assumption)) ?_; clear E a; intro a E
    refine zp E (by first | exact zBz E rfl rfl rfl | exact zBa E rfl rfl rfl | exact zAr E rfl rfl rfl) ?_; clear E a; intro a E
    refine zp E (zCj E rfl rfl rfl) ?_; clear E a; intro a E
    refine wpList_nil ?_
    refine zAf hK ?_; clear hK; clear K
    refine zBg E rfl (fun hb => ?_) (fun hb => ?_)
    · replace hb := Nrm.nrm hb
      refine wp_skip ?_
      refine zAf hK ?_; clear hK; clear K
      refine wp_seq_k ?_; intro K hK
      refine wp_block ?_
      have hjl : j < r.keep.length := by omega
      have hyl := hC2.1
      obtain ⟨g2, rfl⟩ := hC2.addr (by omega)
      refine zAb ?_
      refine zp E (by first | exact zAg (q := 11) E rfl rfl rfl | exact zAh (q := 11) E rfl rfl rfl) ?_; clear E a; intro a E
      refine zp E (by first | exact zAo E rfl rfl rfl (S.get (by repeat (first | exact pk1 | apply zAc))) rfl | exact zAk E rfl rfl rfl (by assumption)) ?_; clear E a; intro a E
      refine zp E (zAe E rfl rfl) ?_; clear E a; intro a E
      refine zp E (by first | exact zBm E rfl rfl rfl rfl rfl rfl (by omega) | exact zBu E rfl rfl rfl rfl rfl rfl (by omega) | exact zBj E rfl rfl rfl rfl rfl rfl (by omega)) ?_; clear E a; intro a E
      refine zAn rfl (zJh E S rfl rfl rfl rfl rfl rfl hC2 (by repeat (first | exact pk1 | apply zAc)) (i := j) (by omega) (by omega) ?_); clear E S a; intro a w Cs4 E hBs4 S
      refine wpList_nil ?_
      refine zBf ?_
      refine zAf hK ?_; clear hK; clear K
      refine zAb ?_
      refine zp E (zAe E rfl rfl) ?_; clear E a; intro a E
      refine zp E (zBs E rfl rfl rfl (by first | exact zCh (y := 1) (by omega) | exact w_in (by omega) | exact zBr (by omega) | exact rfl)) ?_; clear E a; intro a E
      refine zp E (zAd E rfl rfl) ?_; clear E a; intro a E
      refine wpList_nil ?_
      refine zBo ?_
      exact ⟨_, by omega, j + 1, Cs4, _, rfl, by omega, hBs4, S, E.keep (zAa rfl (zAa rfl zAm))⟩
    · replace hb := Nrm.nrm hb
      refine wp_exit ?_
      refine zBc ?_; clear hK; clear K
      refine zBc ?_
      refine zCk ?_
      refine zAf hK ?_; clear hK; clear K
      refine wp_seq_k ?_; intro K hK
      refine zAb ?_
      refine zp E (zAd E rfl rfl) ?_; clear E a; intro a E
      refine wpList_nil ?_
      refine zAf hK ?_; clear hK; clear K
      refine wp_block ?_
      refine wp_loop_ghost (fun (m : Nat) (a : Act) (w' : World) => ∃ (i : Nat) (C3 : zAw) (xs : List Value), m = r.data.length - i ∧ i ≤ r.data.length ∧ Buf C3 5 1 (.slice ad3 r.data.length c3) r.data.length xs ∧ St w0 ((D1 ++ (D2 ++ D3)) :: As) w' (C3 :: [(b1, cel (r.cells (.slice ad1 r.props.length c1) (.slice ad2 r.keep.length c2) (.slice ad3 r.data.length c3)) 26)] :: C1 :: C2 :: As) ∧ Fr a 39 [(1, ptr b1), (4, .int .i64 i)]) (r.data.length) ?_ ?_
      · exact ⟨0, D3, _, by omega, by omega, hB3, S.front4 (A := D3) (B := [(b1, _)]) (C := C1) (D := C2) (by repeat (first | exact pk1 | apply zAc)) (by repeat (first | exact pk1 | apply zAc)) (by repeat (first | exact pk1 | apply zAc)) (by repeat (first | exact pk1 | apply zAc)), E.keep (zAa rfl (zAa rfl zAm))⟩
      clear E; clear a; (try clear S); rintro m a w ⟨q, C3, zs, rfl, hq, hC3, S, E⟩
      iterate 2 (refine wp_seq_k ?_; intro K hK)
      refine zAb ?_
      refine zp E (zAe E rfl rfl) ?_; clear E a; intro a E
      refine zp E (by first | exact zAg (q := 12) E rfl rfl rfl | exact zAh (q := 12) E rfl rfl rfl) ?_; clear E a; intro a E
      refine zp E (by first | exact zAo E rfl rfl rfl (S.get (by repeat (first | exact pk1 | apply zAc))) rfl | exact zAk E rfl rfl rfl (by assumption)) ?_; clear E a; intro a E
      refine zp E (by first | exact zBz E rfl rfl rfl | exact zBa E rfl rfl rfl | exact zAr E rfl rfl rfl) ?_; clear E a; intro a E
      refine zp E (zCj E rfl rfl rfl) ?_; clear E a; intro a E
      refine wpList_nil ?_
      refine zAf hK ?_; clear hK; clear K
      refine zBg E rfl (fun hb => ?_) (fun hb => ?_)
      · replace hb := Nrm.nrm hb
        refine wp_skip ?_
        refine zAf hK ?_; clear hK; clear K
        refine wp_seq_k ?_; intro K hK
        refine wp_block ?_
        have hql : q < r.data.length := by omega
        have hzl := hC3.1
        obtain ⟨g3, rfl⟩ := hC3.addr (by omega)
        refine zAb ?_
        refine zp E (by first | exact zAg (q := 12) E rfl rfl rfl | exact zAh (q := 12) E rfl rfl rfl) ?_; clear E a; intro a E
        refine zp E (by first | exact zAo E rfl rfl rfl (S.get (by repeat (first | exact pk1 | apply zAc))) rfl | exact zAk E rfl rfl rfl (by assumption)) ?_; clear E a; intro a E
        refine zp E (zAe E rfl rfl) ?_; clear E a; intro a E
        refine zp E (by first | exact zBm E rfl rfl rfl rfl rfl rfl (by omega) | exact zBu E rfl rfl rfl rfl rfl rfl (by omega) | exact zBj E rfl rfl rfl rfl rfl rfl (by omega)) ?_; clear E a; intro a E
        refine zAn rfl (zJh E S rfl rfl rfl rfl rfl rfl hC3 (by repeat (first | exact pk1 | apply zAc)) (i := q) (by omega) (by omega) ?_); clear E S a; intro a w Cs4 E hBs4 S
        refine wpList_nil ?_
        refine zBf ?_
        refine zAf hK ?_; clear hK; clear K
        refine zAb ?_
        refine zp E (zAe E rfl rfl) ?_; clear E a; intro a E
        refine zp E (zBs E rfl rfl rfl (by first | exact zCh (y := 1) (by omega) | exact w_in (by omega) | exact zBr (by omega) | exact rfl)) ?_; clear E a; intro a E
        refine zp E (zAd E rfl rfl) ?_; clear E a; intro a E
        refine wpList_nil ?_
        refine zBo ?_
        exact ⟨_, by omega, q + 1, Cs4, _, rfl, by omega, hBs4, S, E.keep (zAa rfl (zAa rfl zAm))⟩
      · replace hb := Nrm.nrm hb
        refine wp_exit ?_
        refine zBc ?_; clear hK; clear K
        refine zBc ?_
        refine zCk ?_
        refine end0 E rfl ?_
        exact ⟨_, rfl, C3, (St.drops [_, _, _] S).tr⟩
end Go.Proofs.YtbogecljkaimdaaGreatDoor
namespace Go.Proofs.YtbogecljkaimdaaGreatDoor
open Go.Sl
set_option maxRecDepth 10000
theorem decode2_ret (D : zAw) (ad : Option Addr) (c : Nat) (b : List UInt8) (hD : Rd D 1 (.slice ad b.length c) b.length (byt b)) (hcap : b.length ≤ c) (hbl : b.length ≤ 4000000) (s : Fs) {As : List zAw} (mD : D ∈ As) (hG : Tab As 2 shaK) (w0 : World) (H : Hp w0 As) :
    Ret Tryz.prog 19 #[.slice ad b.length c, s.agg] w0 (decP (decR b s) As w0) := by
  obtain ⟨pre, hpre⟩ := zLc mD
  refine (zIt D ad c b hD hcap hbl s pre (hG.sub fun Q hQ => hpre.mem_iff.1 hQ) w0 (St.begin H |>.perm hpre).hp).mono fun u w' ⟨X, pv, kv, dv, he, hX, hT⟩ => ⟨X, pv, kv, dv, he, hX, ?_⟩
  exact (((St.begin H).perm hpre).all hT |>.perm (hpre.symm.cons X)).tr
structure Lay4 (As : List zAw) : Prop where
  r : Tab As 2 shaK
  f : Tab As 0 sha0.l
  g : Tab As 1 shaK
end Go.Proofs.YtbogecljkaimdaaGreatDoor
namespace Go.Proofs.YtbogecljkaimdaaGreatDoor
open Go.Sl
set_option maxRecDepth 10000
set_option maxHeartbeats 1000000 in
theorem zKn (D : zAw) (ad : Option Addr) (c : Nat) (b : List UInt8) (hD : Rd D 1 (.slice ad b.length c) b.length (byt b)) (hcap : b.length ≤ c) (hbl : b.length ≤ 4000000) (s : Fs) (hok : s.Ok) {As : List zAw} (mD : D ∈ As) (hL : Lay4 As) (w0 : World) (H : Hp w0 As) :
    Ret Tryz.prog 17 #[.slice ad b.length c, s.agg] w0 fun u w' => u = .bool true ∧ Trs w0 w' As As := by
  have S := St.begin H
  have hG := hL.r
  have hG0 := hL.f
  have hG1 := hL.g
  have hsm := dec_sml b s
  obtain ⟨x, hx⟩ : ∃ x, x = decR b s := ⟨_, rfl⟩
  rw [← hx] at hsm
  obtain ⟨e, r, n, o⟩ := x
  simp only at hsm
  refine zCm 74 Tryz.func17 rfl rfl (by decide) ?_; intro a E
  refine wp_seq_k ?_; intro K hK
  refine zAb ?_
  refine zAn rfl (zCq E S rfl rfl (by decide) rfl rfl ?_); clear E S a; intro a w b3 E S
  refine zp E (zAd E rfl rfl) ?_; clear E a; intro a E
  refine wpList_nil ?_
  refine zAf hK ?_; clear hK; clear K
  refine wp_seq_k ?_; intro K hK
  have S := S.addNil
  refine zAb ?_
  refine zp E (zAd E rfl rfl) ?_; clear E a; intro a E
  refine wpList_nil ?_
  refine zAf hK ?_; clear hK; clear K
  refine wp_seq_k ?_; intro K hK
  refine zAb ?_
  iterate 2 (refine zp E (zAe E rfl rfl) ?_; clear E a; intro a E)
  refine zAn rfl (zCn (by' := 1) E S rfl rfl (by decide) rfl rfl (Buf.nil 5 1) (by repeat (first | exact pk1 | apply zAc)) (hD.src (S.stab.at (by repeat (first | exact mm1 | assumption | apply List.Mem.tail))) rfl) rfl rfl rfl rfl rfl rfl (by simp only [maxLen]; omega) (by omega) ?_); clear E S a; intro a w v19 C19 E S hB19
  rw [Nat.zero_add, List.nil_append] at hB19
  obtain ⟨a5, c5, rfl⟩ := hB19.slice
  have hc5 := hB19.cap_le
  refine zp E (zAd E rfl rfl) ?_; clear E a; intro a E
  refine wpList_nil ?_
  refine zAf hK ?_; clear hK; clear K
  refine wp_seq_k ?_; intro K hK
  refine zAb ?_
  refine zp E (zAe E rfl rfl) ?_; clear E a; intro a E
  refine zp E (zBp (vs := [_, _, _, _]) E rfl rfl rfl (S.get (by repeat (first | exact pk1 | apply zAc))) rfl rfl) ?_; clear E a; intro a E
  refine zAp E rfl rfl (by decide) rfl Tryz.func19 rfl (by kernel_rfl) rfl (decode2_ret C19 a5 c5 b hB19.rd hc5 hbl s (by repeat (first | exact mm1 | assumption | apply List.Mem.tail)) (by repeat (first | exact hG | apply Tab.tail)) _ S.hp) ?_
  rintro v23 w ⟨X, p1, k1, d1, he, hX, hT⟩; clear E a; intro a E
  rw [← hx] at he hX; simp only [Rec.cells] at he hX; subst he; have S := S.all hT
  have hXR := hX.rd
  obtain ⟨q1, n1', e1⟩ := hXR.pr.slice
  obtain ⟨q2, n2', e2⟩ := hXR.kr.slice
  obtain ⟨q3, n3', e3⟩ := hXR.dr.slice
  subst e1 e2 e3
  refine zp E (zAe E rfl rfl) ?_; clear E a; intro a E
  iterate 4 (refine zp E (zBt E rfl rfl rfl) ?_; clear E a; intro a E)
  refine zAn rfl (zBv E S rfl rfl (by decide) rfl rfl rfl ?_); clear E S a; intro a w b6 E S
  refine zAn rfl (zBv E S rfl rfl (by decide) rfl rfl rfl ?_); clear E S a; intro a w b8 E S
  refine zAn rfl (zBe E S rfl rfl rfl rfl (by simp [Value.oneCell']) rfl (by repeat (first | exact pk1 | apply zAc)) (by simp) ?_); clear E S a; intro a w E S; simp only [List.take_succ_cons, List.take_zero, List.drop_succ_cons, List.drop_zero, List.cons_append, List.nil_append, List.append_nil, List.length_cons, List.length_nil, Nat.zero_add, Nat.add_zero] at S
  refine zp E (zAd E rfl rfl) ?_; clear E a; intro a E
  refine zAn rfl (zBe E S rfl rfl rfl rfl (by simp [Value.oneCell']) rfl (by repeat (first | exact pk1 | apply zAc)) (by simp) ?_); clear E S a; intro a w E S; simp only [List.take_succ_cons, List.take_zero, List.drop_succ_cons, List.drop_zero, List.cons_append, List.nil_append, List.append_nil, List.length_cons, List.length_nil, Nat.zero_add, Nat.add_zero] at S
  refine zp E (zAd E rfl rfl) ?_; clear E a; intro a E
  refine wpList_nil ?_
  refine zAf hK ?_; clear hK; clear K
  refine wp_seq_k ?_; intro K hK
  refine zAb ?_
  refine zp E (zAe E rfl rfl) ?_; clear E a; intro a E
  refine zp E (zBx E rfl rfl rfl rfl rfl hB19.rd (S.stab.at (by repeat (first | exact mm1 | assumption | apply List.Mem.tail)))) ?_; clear E a; intro a E
  refine zp E (zAe E rfl rfl) ?_; clear E a; intro a E
  refine zp E (zBx E rfl rfl rfl rfl rfl hD (S.stab.at (by repeat (first | exact mm1 | assumption | apply List.Mem.tail)))) ?_; clear E a; intro a E
  refine zp E (by first | exact zCe E rfl rfl rfl | exact zAt E rfl rfl rfl rfl | exact zBd E rfl rfl rfl rfl | exact zAv E rfl rfl rfl) ?_; clear E a; intro a E
  refine zp E (zAd E rfl rfl) ?_; clear E a; intro a E
  refine wpList_nil ?_
  refine zAf hK ?_; clear hK; clear K
  iterate 2 (refine wp_seq_k ?_; intro K hK)
  replace E := E.keep (e' := [(0, _), (3, _), (4, _), (5, _), (6, _), (7, _), (8, _), (9, _), (10, _)]) (zAa rfl (zAa rfl (zAa rfl (zAa rfl (zAa rfl (zAa rfl (zAa rfl (zAa rfl (zAa rfl (zAm))))))))))
  rw [decide_eq_true (rfl : b = b)] at E
  refine zAb ?_
  refine zp E (zAd E rfl rfl) ?_; clear E a; intro a E
  refine wpList_nil ?_
  refine zAf hK ?_; clear hK; clear K
  refine wp_block ?_
  refine wp_loop_ghost (fun (m : Nat) (a : Act) (w' : World) => ∃ (i : Nat) (C : zAw) (xs : List Value), m = b.length - i ∧ i ≤ b.length ∧ Buf C 5 1 (.slice a5 b.length c5) b.length xs ∧ St w0 As w' (C :: X :: [(b6, cel (r.cells (.slice q1 r.props.length n1') (.slice q2 r.keep.length n2') (.slice q3 r.data.length n3')) 26)] :: [(b8, cel (fsC o) 29)] :: [(b3, cel (fsC s) 29)] :: As) ∧ Fr a 74 [(0, .slice ad b.length c), (3, ptr b3), (4, .bool false), (5, .slice a5 b.length c5), (6, ptr b6), (7, .int .i64 n), (8, ptr b8), (9, .int .i64 e), (10, .bool true), (11, .int .i64 i)]) (b.length) ?_ ?_
  · exact ⟨0, C19, _, by omega, by omega, hB19, S.front5 (A := C19) (B := X) (C := [(b6, _)]) (D := [(b8, _)]) (F := [(b3, _)]) (by repeat (first | exact pk1 | apply zAc)) (by repeat (first | exact pk1 | apply zAc)) (by repeat (first | exact pk1 | apply zAc)) (by repeat (first | exact pk1 | apply zAc)) (by repeat (first | exact pk1 | apply zAc)), E.keep (zAa rfl (zAa rfl (zAa rfl (zAa rfl (zAa rfl (zAa rfl (zAa rfl (zAa rfl (zAa rfl (zAa rfl zAm))))))))))⟩
  clear E; clear a; (try clear S); rintro m a w ⟨i, C, xs, rfl, hi, hC, S, E⟩
  iterate 2 (refine wp_seq_k ?_; intro K hK)
  refine zAb ?_
  iterate 2 (refine zp E (zAe E rfl rfl) ?_; clear E a; intro a E)
  refine zp E (by first | exact zBz E rfl rfl rfl | exact zBa E rfl rfl rfl | exact zAr E rfl rfl rfl) ?_; clear E a; intro a E
  refine zp E (zCj E rfl rfl rfl) ?_; clear E a; intro a E
  refine wpList_nil ?_
  refine zAf hK ?_; clear hK; clear K
  refine zBg E rfl (fun hb => ?_) (fun hb => ?_)
  · replace hb := Nrm.nrm hb
    refine wp_skip ?_
    refine zAf hK ?_; clear hK; clear K
    refine wp_seq_k ?_; intro K hK
    refine wp_block ?_
    have hil : i < b.length := by omega
    have hxl := hC.1
    obtain ⟨g, rfl⟩ := hC.addr (by omega)
    refine zAb ?_
    iterate 2 (refine zp E (zAe E rfl rfl) ?_; clear E a; intro a E)
    refine zp E (by first | exact zBm E rfl rfl rfl rfl rfl rfl (by omega) | exact zBu E rfl rfl rfl rfl rfl rfl (by omega) | exact zBj E rfl rfl rfl rfl rfl rfl (by omega)) ?_; clear E a; intro a E
    refine zAn rfl (zJh E S rfl rfl rfl rfl rfl rfl hC (by repeat (first | exact pk1 | apply zAc)) (i := i) (by omega) (by omega) ?_); clear E S a; intro a w Cs3 E hBs3 S
    refine wpList_nil ?_
    refine zBf ?_
    refine zAf hK ?_; clear hK; clear K
    refine zAb ?_
    refine zp E (zAe E rfl rfl) ?_; clear E a; intro a E
    refine zp E (zBs E rfl rfl rfl (by first | exact zCh (y := 1) (by omega) | exact w_in (by omega) | exact zBr (by omega) | exact rfl)) ?_; clear E a; intro a E
    refine zp E (zAd E rfl rfl) ?_; clear E a; intro a E
    refine wpList_nil ?_
    refine zBo ?_
    exact ⟨_, by omega, i + 1, Cs3, _, rfl, by omega, hBs3, S, E.keep (zAa rfl (zAa rfl (zAa rfl (zAa rfl (zAa rfl (zAa rfl (zAa rfl (zAa rfl (zAa rfl (zAa rfl zAm))))))))))⟩
  · replace hb := Nrm.nrm hb
    refine wp_exit ?_
    refine zBc ?_; clear hK; clear K
    refine zBc ?_
    refine zCk ?_
    refine zAf hK ?_; clear hK; clear K
    refine wp_seq_k ?_; intro K hK
    refine zAb ?_
    refine zp E (zAe E rfl rfl) ?_; clear E a; intro a E
    refine zp E (zBp (vs := [_, _, _, _]) E rfl rfl rfl (S.get (by repeat (first | exact pk1 | apply zAc))) rfl rfl) ?_; clear E a; intro a E
    refine zAp E rfl rfl (by decide) rfl Tryz.func38 rfl (by kernel_rfl) rfl (udecode_ret D ad c b hD hcap hbl s hok (by repeat (first | exact mm1 | assumption | apply List.Mem.tail)) (by repeat (first | exact hG0 | apply Tab.tail)) (by repeat (first | exact hG1 | apply Tab.tail)) _ S.hp) ?_
    rintro v45 w ⟨Y, p2, k2, d2, he, hY, hT⟩; clear E a; intro a E
    rw [← hx] at he hY; simp only [Rec.cells] at he hY; subst he; have S := S.all hT
    have hYR := hY.rd
    obtain ⟨t1, m1', e1⟩ := hYR.pr.slice
    obtain ⟨t2, m2', e2⟩ := hYR.kr.slice
    obtain ⟨t3, m3', e3⟩ := hYR.dr.slice
    subst e1 e2 e3
    refine zp E (zAe E rfl rfl) ?_; clear E a; intro a E
    iterate 4 (refine zp E (zBt E rfl rfl rfl) ?_; clear E a; intro a E)
    refine zAn rfl (zBv E S rfl rfl (by decide) rfl rfl rfl ?_); clear E S a; intro a w b12 E S
    refine zAn rfl (zBv E S rfl rfl (by decide) rfl rfl rfl ?_); clear E S a; intro a w b14 E S
    refine zAn rfl (zBe E S rfl rfl rfl rfl (by simp [Value.oneCell']) rfl (by repeat (first | exact pk1 | apply zAc)) (by simp) ?_); clear E S a; intro a w E S; simp only [List.take_succ_cons, List.take_zero, List.drop_succ_cons, List.drop_zero, List.cons_append, List.nil_append, List.append_nil, List.length_cons, List.length_nil, Nat.zero_add, Nat.add_zero] at S
    refine zp E (zAd E rfl rfl) ?_; clear E a; intro a E
    refine zAn rfl (zBe E S rfl rfl rfl rfl (by simp [Value.oneCell']) rfl (by repeat (first | exact pk1 | apply zAc)) (by simp) ?_); clear E S a; intro a w E S; simp only [List.take_succ_cons, List.take_zero, List.drop_succ_cons, List.drop_zero, List.cons_append, List.nil_append, List.append_nil, List.length_cons, List.length_nil, Nat.zero_add, Nat.add_zero] at S
    refine zp E (zAd E rfl rfl) ?_; clear E a; intro a E
    refine wpList_nil ?_
    refine zAf hK ?_; clear hK; clear K
    refine wp_seq_k ?_; intro K hK
    replace E := E.keep (e' := [(4, _), (6, _), (7, _), (8, _), (9, _), (10, _), (12, _), (13, _), (14, _), (15, _)]) (zAa rfl (zAa rfl (zAa rfl (zAa rfl (zAa rfl (zAa rfl (zAa rfl (zAa rfl (zAa rfl (zAa rfl (zAm)))))))))))
    refine zAb ?_
    iterate 2 (refine zp E (zBp (vs := [_, _, _, _, _, _, _, _, _, _, _, _, _]) E rfl rfl rfl (S.get (by repeat (first | exact pk1 | apply zAc))) rfl rfl) ?_; clear E a; intro a E)
    refine zAp E rfl rfl (by decide) rfl Tryz.func13 rfl (by kernel_rfl) rfl (same_ret hXR hYR hsm _ (by repeat (first | exact mm1 | assumption | apply List.Mem.tail)) (by repeat (first | exact mm1 | assumption | apply List.Mem.tail)) _ S.hp) ?_
    rintro v52 w ⟨z, rfl, hz, hT⟩; clear E a; intro a E
    obtain rfl := hz.2 rfl; have S := S.all hT; have S := S.front1 (A := X) (by repeat (first | exact pk1 | apply zAc))
    refine zp E (zAd E rfl rfl) ?_; clear E a; intro a E
    refine wpList_nil ?_
    refine zAf hK ?_; clear hK; clear K
    refine wp_seq_k ?_; intro K hK
    refine zAb ?_
    refine zp E (zBp (vs := [_, _, _, _, _, _, _, _, _, _, _, _, _]) E rfl rfl rfl (S.get (by repeat (first | exact pk1 | apply zAc))) rfl rfl) ?_; clear E a; intro a E
    refine zAp E rfl rfl (by decide) rfl Tryz.func14 rfl (by kernel_rfl) rfl (spoil_ret hX hsm _ _ S.hp) ?_
    rintro v54 w ⟨D', hT⟩; clear E a; intro a E
    have S := S.all hT
    refine wpList_nil ?_
    refine zAf hK ?_; clear hK; clear K
    refine wp_seq_k ?_; intro K hK
    refine zAb ?_
    iterate 2 (refine zp E (zAe E rfl rfl) ?_; clear E a; intro a E)
    refine zCv E (t := 56) rfl (rfl) (fun hb56 => ?_)
    refine zy E hb56 (zAe E rfl rfl) ?_; clear E a; intro a E
    refine zp E (zAl E rfl rfl hb56 rfl) ?_; clear E a; intro a E
    refine zp E (zAe E rfl rfl) ?_; clear E a; intro a E
    refine zCv E (t := 59) rfl (rfl) (fun hb59 => ?_)
    iterate 2 (refine zy E hb59 (zAe E rfl rfl) ?_; clear E a; intro a E)
    refine zy E hb59 (by first | exact zCe E rfl rfl rfl | exact zAt E rfl rfl rfl rfl | exact zBd E rfl rfl rfl rfl | exact zAv E rfl rfl rfl) ?_; clear E a; intro a E
    refine zp E (zAl E rfl rfl hb59 rfl) ?_; clear E a; intro a E
    refine zp E (zAe E rfl rfl) ?_; clear E a; intro a E
    refine zCv E (t := 64) rfl ((by simp)) (fun hb64 => ?_)
    iterate 2 (refine zy E hb64 (zBp (vs := [_, _, _, _]) E rfl rfl rfl (S.get (by repeat (first | exact pk1 | apply zAc))) rfl rfl) ?_; clear E a; intro a E)
    refine zy E hb64 (by first | exact zJu E rfl rfl rfl rfl (by kernel_rfl) (by kernel_rfl) rfl rfl rfl | exact zIy E rfl rfl rfl rfl (by kernel_rfl) (by kernel_rfl) rfl) ?_; clear E a; intro a E
    refine zp E (zAl E rfl rfl hb64 rfl) ?_; clear E a; intro a E
    refine zp E (zAe E rfl rfl) ?_; clear E a; intro a E
    refine zCv E (t := 69) rfl ((by simp)) (fun hb69 => ?_)
    iterate 2 (refine zy E hb69 (zAe E rfl rfl) ?_; clear E a; intro a E)
    refine zy E hb69 (by first | exact zCe E rfl rfl rfl | exact zAt E rfl rfl rfl rfl | exact zBd E rfl rfl rfl rfl | exact zAv E rfl rfl rfl) ?_; clear E a; intro a E
    refine zp E (zAl E rfl rfl hb69 rfl) ?_; clear E a; intro a E
    refine zp E (zAd E rfl rfl) ?_; clear E a; intro a E
    refine wpList_nil ?_
    refine zAf hK ?_; clear hK; clear K
    refine wp_ret ?_
    refine ret1 E rfl rfl ?_
    exact ⟨_, rfl, by simp, by repeat (first | exact S.tr | replace S := S.tail)⟩
theorem w_rem9 {z : Int} (h0 : 0 ≤ z) : z.tmod 9 = z % 9 := Int.tmod_eq_emod_of_nonneg h0
set_option maxHeartbeats 1000000 in
theorem readsL_walk (O : zAw) (hL : Lay4 [O]) (ad : Option Addr) (c : Nat) (b : List UInt8) (hD : Rd O 1 (.slice ad b.length c) b.length (byt b)) (hcap : b.length ≤ c) (hbl : b.length ≤ 1048576) (s : Fs) (hok : s.Ok) (k : Int) (hk : -9223372036854775808 ≤ k ∧ k ≤ 9223372036854775807) (w0 : World) (H : Hp w0 [O]) :
    Ret Tryz.prog 4 #[.slice ad b.length c, s.agg, .int .i64 k] w0 fun u w' => u = .bool true ∧ Trs w0 w' [O] [O] := by
  have S := St.begin H
  have hG := hL.r
  have hG0 := hL.f
  have hG1 := hL.g
  have hLt : ∀ {A : zAw} {As : List zAw}, Lay4 As → Lay4 (A :: As) := fun h => ⟨h.r.tail, h.f.tail, h.g.tail⟩
  refine zFq 50 Tryz.func4 rfl rfl (by decide) ?_; intro a E
  refine wp_seq_k ?_; intro K hK
  refine zAb ?_
  refine zAn rfl (zCq E S rfl rfl (by decide) rfl rfl ?_); clear E S a; intro a w b4 E S
  refine zp E (zAd E rfl rfl) ?_; clear E a; intro a E
  refine wpList_nil ?_
  refine zAf hK ?_; clear hK; clear K
  refine wp_seq_k ?_; intro K hK
  refine zAb ?_
  refine zAp E rfl rfl (by decide) rfl Tryz.func9 rfl (by kernel_rfl) rfl (awake_ret (by repeat (first | exact hG | apply Tab.tail)) _ S.hp) ?_
  rintro v14 w ⟨rfl, hT⟩; clear E a; intro a E
  have S := S.all hT
  refine zp E (zAd E rfl rfl) ?_; clear E a; intro a E
  refine wpList_nil ?_
  refine zAf hK ?_; clear hK; clear K
  refine wp_seq_k ?_; intro K hK
  refine zAb ?_
  refine zp E (zAe E rfl rfl) ?_; clear E a; intro a E
  refine zp E (zBp (vs := [_, _, _, _]) E rfl rfl rfl (S.get (by repeat (first | exact pk1 | apply zAc))) rfl rfl) ?_; clear E a; intro a E
  refine zAp E rfl rfl (by decide) rfl Tryz.func17 rfl (by kernel_rfl) rfl (zKn O ad c b hD hcap (by omega) s hok (by repeat (first | exact mm1 | assumption | apply List.Mem.tail)) (by repeat (first | exact hL | apply hLt)) _ S.hp) ?_
  rintro v17 w ⟨rfl, hT⟩; clear E a; intro a E
  have S := S.all hT
  refine zp E (zAd E rfl rfl) ?_; clear E a; intro a E
  refine wpList_nil ?_
  refine zAf hK ?_; clear hK; clear K
  refine wp_seq_k ?_; intro K hK
  refine zAb ?_
  refine zp E (zAe E rfl rfl) ?_; clear E a; intro a E
  refine zp E (zAd E rfl rfl) ?_; clear E a; intro a E
  refine wpList_nil ?_
  refine zAf hK ?_; clear hK; clear K
  iterate 2 (refine wp_seq_k ?_; intro K hK)
  refine zAb ?_
  refine zp E (zAe E rfl rfl) ?_; clear E a; intro a E
  refine zp E (zCj E rfl rfl rfl) ?_; clear E a; intro a E
  refine wpList_nil ?_
  refine zAf hK ?_; clear hK; clear K
  refine zDx (fun (a : Act) (w' : World) => ∃ z : Int, 0 ≤ z ∧ z ≤ 9223372036854775807 ∧ St w0 [O] w' [[(b4, cel (fsC s) 29)], O] ∧ Fr a 50 [(0, .slice ad b.length c), (4, ptr b4), (6, .bool false), (7, .bool true), (8, .bool true), (9, .int .i64 z)]) ?_ ?_
  · skip
    refine zBg E rfl (fun hb => ?_) (fun hb => ?_)
    · replace hb := Nrm.nrm hb
      refine zAb ?_
      refine zp E (zAe E rfl rfl) ?_; clear E a; intro a E
      refine zp E (zBs E rfl rfl rfl (w_in (by omega))) ?_; clear E a; intro a E
      refine zp E (rn_neg E rfl rfl (by first | exact wn_in (by omega) | exact rfl)) ?_; clear E a; intro a E
      refine zp E (zAd E rfl rfl) ?_; clear E a; intro a E
      refine wpList_nil ?_
      refine zAu ?_
      exact ⟨-(k + 1), by omega, by omega, S, E.keep (zAa rfl (zAa rfl (zAa rfl (zAa rfl (zAa rfl (zAa rfl zAm))))))⟩
    · replace hb := Nrm.nrm hb
      refine wp_skip ?_
      refine zAu ?_
      exact ⟨k, by omega, by omega, S, E.keep (zAa rfl (zAa rfl (zAa rfl (zAa rfl (zAa rfl (zAa rfl zAm))))))⟩
  · clear S E a; intro a w J; obtain ⟨z, hz0, hz1, S, E⟩ := J
    refine zAf hK ?_; clear hK; clear K
    refine wp_seq_k ?_; intro K hK
    refine zAb ?_
    refine zp E (zAe E rfl rfl) ?_; clear E a; intro a E
    refine zp E (rn_rem E rfl rfl rfl (by first | decide | omega) (w_rem9 hz0)) ?_; clear E a; intro a E
    refine zp E (zAe E rfl rfl) ?_; clear E a; intro a E
    refine zp E (zBp (vs := [_, _, _, _]) E rfl rfl rfl (S.get (by repeat (first | exact pk1 | apply zAc))) rfl rfl) ?_; clear E a; intro a E
    refine zAp E rfl rfl (by decide) rfl Tryz.func18 rfl (by kernel_rfl) rfl (zHj (z % 9) (by omega) (by omega) hD (by omega) s hok (by repeat (first | exact mm1 | assumption | apply List.Mem.tail)) (by repeat (first | exact hG0 | apply Tab.tail)) (by repeat (first | exact hG1 | apply Tab.tail)) _ S.hp) ?_
    rintro v29 w ⟨v2, C2, he, hB2, hT⟩; clear E a; intro a E
    have hpl := zGt (z % 9) b s
    obtain ⟨pb, hpb⟩ : ∃ pb, pb = zDl (z % 9) b s := ⟨_, rfl⟩
    obtain ⟨own, hown⟩ : ∃ own, own = ownS (z % 9) b s := ⟨_, rfl⟩
    rw [← hown] at he
    rw [← hpb] at hB2 hpl
    subst he
    have S := S.all hT
    obtain ⟨a2, c2, rfl⟩ := hB2.slice
    have hc2 := hB2.cap_le
    refine zp E (zAe E rfl rfl) ?_; clear E a; intro a E
    iterate 2 (refine zp E (zBt E rfl rfl rfl) ?_; clear E a; intro a E)
    refine zAn rfl (zBv E S rfl rfl (by decide) rfl rfl rfl ?_); clear E S a; intro a w b11 E S
    refine zp E (zAd E rfl rfl) ?_; clear E a; intro a E
    refine zAn rfl (zBe E S rfl rfl rfl rfl (by simp [Value.oneCell']) rfl (by repeat (first | exact pk1 | apply zAc)) (by simp) ?_); clear E S a; intro a w E S; simp only [List.take_succ_cons, List.take_zero, List.drop_succ_cons, List.drop_zero, List.cons_append, List.nil_append, List.append_nil, List.length_cons, List.length_nil, Nat.zero_add, Nat.add_zero] at S
    refine wpList_nil ?_
    refine zAf hK ?_; clear hK; clear K
    refine wp_seq_k ?_; intro K hK
    refine zAb ?_
    refine zp E (zAe E rfl rfl) ?_; clear E a; intro a E
    refine zp E (zBp (vs := [_, _, _, _]) E rfl rfl rfl (S.get (by repeat (first | exact pk1 | apply zAc))) rfl rfl) ?_; clear E a; intro a E
    refine zAp E rfl rfl (by decide) rfl Tryz.func17 rfl (by kernel_rfl) rfl (zKn C2 a2 c2 pb hB2.rd hc2 (by omega) s hok (by repeat (first | exact mm1 | assumption | apply List.Mem.tail)) (by repeat (first | exact hL | apply hLt)) _ S.hp) ?_
    rintro v34 w ⟨rfl, hT⟩; clear E a; intro a E
    have S := S.all hT
    refine zp E (zAd E rfl rfl) ?_; clear E a; intro a E
    refine wpList_nil ?_
    refine zAf hK ?_; clear hK; clear K
    refine wp_seq_k ?_; intro K hK
    refine zDg S (.ofL [(0, 0), (3, 0), (1, 1), (2, 1), (4, 3), (5, 2)]) [[(b4, cel (fsC s) 29)]] (fun h => h.sub (by first | (simp; done) | (simp +contextual; done) | (simp [*]; done))) (by kernel_rfl) (by kernel_rfl) ?_
    clear S; intro w S
    refine zm E rfl (fun w h => zAe E rfl rfl) ?_; clear E a; intro a E
    refine zm E rfl (fun w h => zBp (vs := [_, _, _, _]) E rfl rfl rfl (h.one (by repeat (first | exact mm1 | assumption | apply List.Mem.tail))) rfl rfl) ?_; clear E a; intro a E
    refine zDm rfl rfl (zDf (cells := [_]) E S rfl rfl (by decide) rfl rfl rfl rfl rfl (by decide) rfl ?_); clear E S a; intro a w b36 E S; refine ⟨S.stab.sub (by first | (simp; done) | (simp +contextual; done) | (simp [*]; done)), ?_⟩
    refine zDm rfl rfl (zCn (by' := 1) E S rfl rfl (by decide) rfl rfl hB2 (by repeat (first | exact pk1 | apply zAc)) ((zEr (g := b36) (T := 5) (xs := [.int .u8 7]) (s := 1) (m := 1) rfl (by simp [Value.oneCell']) (by omega) 1).src (S.stab.at (by repeat (first | exact mm1 | assumption | apply List.Mem.tail))) rfl) rfl rfl rfl rfl rfl rfl (by simp only [maxLen]; omega) (by omega) ?_); clear E S a; intro a w v37 C37 E S hB37; refine ⟨S.stab.sub (by first | (simp; done) | (simp +contextual; done) | (simp [*]; done)), ?_⟩
    have hB3 : BB C37 v37 (pb ++ [7]) := zLe hB37
    obtain ⟨a3, c3, rfl⟩ := hB3.slice
    have hc3 := hB3.cap_le
    refine zGf E rfl rfl rfl (by decide) rfl Tryz.func17 rfl (by kernel_rfl) rfl (zKn C37 a3 c3 (pb ++ [7]) hB3.rd hc3 (by rw [List.length_append]; simp; omega) s hok (by repeat (first | exact mm1 | assumption | apply List.Mem.tail)) (by repeat (first | exact hL | apply hLt)) _ S.hp) ?_
    rintro v39 w ⟨rfl, hT⟩; clear E a; intro a E
    have S := S.all hT
    refine zDa E rfl rfl rfl (by decide) (fun w => zAd E rfl rfl) ?_; clear E a; intro a E
    refine zBy ?_
    refine zAf hK ?_; clear hK; clear K
    refine wp_seq_k ?_; intro K hK
    replace E := E.keep (e' := [(6, _), (7, _), (8, _), (12, _), (13, _)]) (zAa rfl (zAa rfl (zAa rfl (zAa rfl (zAa rfl (zAm))))))
    refine zAb ?_
    iterate 2 (refine zp E (zAe E rfl rfl) ?_; clear E a; intro a E)
    refine zCv E (t := 41) rfl (rfl) (fun hb41 => ?_)
    refine zy E hb41 (zAe E rfl rfl) ?_; clear E a; intro a E
    refine zp E (zAl E rfl rfl hb41 rfl) ?_; clear E a; intro a E
    refine zp E (zAe E rfl rfl) ?_; clear E a; intro a E
    refine zCv E (t := 44) rfl (rfl) (fun hb44 => ?_)
    refine zy E hb44 (zAe E rfl rfl) ?_; clear E a; intro a E
    refine zp E (zAl E rfl rfl hb44 rfl) ?_; clear E a; intro a E
    refine zp E (zAe E rfl rfl) ?_; clear E a; intro a E
    refine zCv E (t := 47) rfl (rfl) (fun hb47 => ?_)
    refine zy E hb47 (zAe E rfl rfl) ?_; clear E a; intro a E
    refine zp E (zAl E rfl rfl hb47 rfl) ?_; clear E a; intro a E
    refine zp E (zAd E rfl rfl) ?_; clear E a; intro a E
    refine wpList_nil ?_
    refine zAf hK ?_; clear hK; clear K
    refine wp_ret ?_
    refine ret1 E rfl rfl ?_
    exact ⟨_, rfl, rfl, by repeat (first | exact S.tr | replace S := S.tail)⟩
end Go.Proofs.YtbogecljkaimdaaGreatDoor
namespace Go.Sl
structure PV where
  v : Value
  bs : List UInt8
def PV.lay (x : PV) : List Value := [x.v]
theorem PV.lay_len (x : PV) : x.lay.length = 1 := rfl
def PVs (X : zAw) (l : List PV) : Prop := ∀ x ∈ l, Rd X 1 x.v x.bs.length (byt x.bs) ∧ x.bs.length ≤ 2085
theorem PVs.sub {C D : zAw} {l : List PV} (h : PVs C l) (hs : ∀ x ∈ C, x ∈ D) : PVs D l := fun x hx => ⟨(h x hx).1.sub hs, (h x hx).2⟩
theorem PVs.set {X : zAw} {l : List PV} (h : PVs X l) (i : Nat) {y : PV} (hy : y ∈ l) : PVs X (l.set i y) := fun x hx => by
  rcases List.mem_or_eq_of_mem_set hx with q | q
  · exact h x q
  · rw [q]; exact h y hy
end Go.Sl
namespace Go.Proofs.YtbogecljkaimdaaGreatDoor
open Go.Sl
set_option maxRecDepth 10000
end Go.Proofs.YtbogecljkaimdaaGreatDoor
namespace Go.Sl
open Go.ChangeShapes Go.WideShapes Go.ChangeAt Go.RowKit Go.ChangeMaps
def old (w : World) : zAw := w.heap.toList.zipIdx.map fun x => (x.2, x.1)
theorem mem_old {w : World} {b : Nat} {o : Obj} (h : w.heap[b]? = some o) : (b, o) ∈ old w := by
  refine List.mem_map.2 ⟨(o, b), ?_, rfl⟩
  rw [List.mem_zipIdx_iff_getElem?]
  simpa using h
theorem old_own (w : World) : Own w (old w) := by
  refine ⟨?_, fun x hx => ?_⟩
  · have : (old w).map (·.1) = List.range' 0 w.heap.toList.length := by simp [old, Function.comp_def]
    rw [this]; exact List.nodup_range'
  · obtain ⟨y, hy, rfl⟩ := List.mem_map.1 hx
    rw [List.mem_zipIdx_iff_getElem?] at hy
    simpa using hy
theorem hp_old (w : World) : Hp w [old w] := by simpa [Hp] using old_own w
theorem below_old {w w' : World} {Bs : List zAw} (h : Trs w w' [old w] (old w :: Bs)) : Below w.heap.size w w' :=
  ⟨h.os, h.tape, h.output, h.size, fun k hk => by
    have e : w.heap[k]? = some w.heap[k] := Array.getElem?_eq_getElem hk
    rw [e]
    have h1 := h.own [] (by simpa using old_own w)
    exact h1.2 (k, w.heap[k]) (by simp [mem_old e])⟩
def Dec {H : Type} (enc : TypeId × Value → H) (P : Program) (w : World) (e : TypeId) (s : Nat) {α : Type} (lay : α → List Value) (good : α → Prop) : Prop :=
  ∀ n cs x, DataW.trod enc P w 0 (fun _ => true) true n e cs = some x → cs.length = s → (x.1.weights P e).all (· ≤ reachBytes) = true → ∃ a, cs = lay a ∧ good a
section
variable {H : Type} {enc : TypeId × Value → H} {P : Program} {w : World} {t e : TypeId} {s : Nat} {α : Type} {lay : α → List Value} {good : α → Prop}
theorem Dec.imp {good' : α → Prop} (h : Dec enc P w e s lay good) (k : ∀ a, good a → good' a) : Dec enc P w e s lay good' := fun n cs x h1 h2 h3 => by
  obtain ⟨a, h4, h5⟩ := h n cs x h1 h2 h3
  exact ⟨a, h4, k a h5⟩
theorem Dec.map {β : Type} {lay' : β → List Value} {good' : β → Prop} (h : Dec enc P w e s lay good) (k : ∀ a, good a → ∃ b, lay a = lay' b ∧ good' b) : Dec enc P w e s lay' good' := fun n cs x h1 h2 h3 => by
  obtain ⟨a, h4, h5⟩ := h n cs x h1 h2 h3
  obtain ⟨b, h6, h7⟩ := k a h5
  exact ⟨b, h4.trans h6, h7⟩
theorem dec_int {k : IntKind} (ht : P.underlying t = some (.int k)) : Dec enc P w t 1 (fun z => [.int k z]) (fun z => (Lit.int k z).wf = true) := fun n cs x h _ _ => by
  obtain ⟨z, h1, _, h2⟩ := DataW.trod_int ht h
  exact ⟨z, h1, h2⟩
theorem dec_i64 (ht : P.underlying t = some (.int .i64)) : Dec enc P w t 1 (fun z => [.int .i64 z]) (fun z => -9223372036854775808 ≤ z ∧ z ≤ 9223372036854775807) :=
  (dec_int ht).imp fun z hz => by simpa [Lit.wf, IntKind.min, IntKind.max, IntKind.signed, IntKind.bits] using hz
theorem dec_u64 (ht : P.underlying t = some (.int .u64)) : Dec enc P w t 1 (fun z : Nat => [.int .u64 z]) (fun z => z < 18446744073709551616) :=
  (dec_int ht).map fun z hz => by
    have hz : 0 ≤ z ∧ z ≤ 18446744073709551615 := by simpa [Lit.wf, IntKind.min, IntKind.max, IntKind.signed, IntKind.bits] using hz
    exact ⟨z.toNat, by rw [Int.toNat_of_nonneg hz.1], by omega⟩
theorem dec_u8 (ht : P.underlying t = some (.int .u8)) : Dec enc P w t 1 (fun b : UInt8 => [.int .u8 b.toNat]) (fun _ => True) :=
  (dec_int ht).map fun z hz => by
    have hz : 0 ≤ z ∧ z ≤ 255 := by simpa [Lit.wf, IntKind.min, IntKind.max, IntKind.signed, IntKind.bits] using hz
    refine ⟨UInt8.ofNat z.toNat, ?_, trivial⟩
    have : (UInt8.ofNat z.toNat).toNat = z.toNat := by simp; omega
    rw [this, Int.toNat_of_nonneg hz.1]
theorem zHu : ∀ {ds : List (DataW H)} {d : DataW H}, d ∈ ds → ∀ n ∈ d.weights P e, n ∈ DataW.weightsAll P e ds
  | d0 :: ds, d, hd, n, hn => by
    simp only [DataW.weightsAll, List.mem_append]
    rcases List.mem_cons.1 hd with rfl | hd
    · exact .inl hn
    · exact .inr (zHu hd n hn)
  | [], _, hd, _, _ => by cases hd
theorem list_of {n : Nat} {p : Nat → α → Prop} (h : ∀ i, i < n → ∃ a, p i a) : ∃ asx : List α, asx.length = n ∧ ∀ i a, asx[i]? = some a → p i a := by
  induction n with
  | zero => exact ⟨[], rfl, by simp⟩
  | succ n ih =>
    obtain ⟨asx, h1, h2⟩ := ih (fun i hi => h i (by omega))
    obtain ⟨a, ha⟩ := h n (by omega)
    refine ⟨asx ++ [a], by simp [h1], fun i b hb => ?_⟩
    by_cases hi : i < n
    · rw [List.getElem?_append_left (by omega)] at hb; exact h2 i b hb
    · rw [List.getElem?_append_right (by omega)] at hb
      have : i = n := by
        have := (List.getElem?_eq_some_iff.1 hb).1
        simp at this; omega
      subst this
      simp [h1] at hb
      exact hb ▸ ha
theorem flat_get {asx : List α} (hl : ∀ a ∈ asx, (lay a).length = s) {l : Array Value} {off : Nat} : ∀ (k : Nat), (∀ i a, asx[i]? = some a → ∀ j v, (lay a)[j]? = some v → l[off + (k + i) * s + j]? = some v) →
    ∀ i u, (asx.flatMap lay)[i]? = some u → l[off + k * s + i]? = some u := by
  induction asx with
  | nil => intro k _ i u h; simp at h
  | cons a r ih =>
    intro k h i u hu
    rw [List.flatMap_cons] at hu
    have ha := hl a (List.mem_cons_self ..)
    by_cases hi : i < s
    · rw [List.getElem?_append_left (by omega)] at hu
      exact h 0 a rfl i u hu
    · rw [List.getElem?_append_right (by omega), ha] at hu
      have := ih (fun b hb => hl b (List.mem_cons_of_mem _ hb)) (k + 1) (fun i b hb j v hv => by
        have := h (i + 1) b (by simpa using hb) j v hv
        rwa [show k + 1 + i = k + (i + 1) by omega]) (i - s) u hu
      rw [Nat.succ_mul] at this
      rwa [show off + (k * s + s) + (i - s) = off + k * s + i by omega] at this
theorem flat_length {asx : List α} (hl : ∀ a ∈ asx, (lay a).length = s) : (asx.flatMap lay).length = asx.length * s := by
  induction asx with
  | nil => simp
  | cons a r ih => rw [List.flatMap_cons, List.length_append, ih (fun b hb => hl b (List.mem_cons_of_mem _ hb)), hl a (List.mem_cons_self ..), List.length_cons, Nat.succ_mul, Nat.add_comm]
def OldS (w : World) (s sz : Nat) (lay : α → List Value) (good : α → Prop) (x : Value × List α) : Prop :=
  ∃ ad c, x.1 = .slice ad x.2.length c ∧ x.2.length ≤ c ∧ c * sz ≤ 140737488351232 ∧ Rd (old w) s x.1 x.2.length (x.2.flatMap lay) ∧ ∀ a ∈ x.2, good a
theorem dec_fields {fs : Array Field} (ht : P.underlying t = some (.struct fs)) {n : Nat} {cs : List Value} {x : DataW H × List MemPlace} (h : DataW.trod enc P w 0 (fun _ => true) true n t cs = some x) (hw : (x.1.weights P t).all (· ≤ reachBytes) = true)
    {i : Nat} {f : Field} (hf : fs[i]? = some f) (hd : Dec enc P w f.type s lay good) (hs : ((cs.drop f.offset).take (P.cellsOf f.type)).length = s) : ∃ a, (cs.drop f.offset).take (P.cellsOf f.type) = lay a ∧ good a := by
  obtain ⟨xs, m, rfl, rfl, hl, hxs, hx⟩ := DataW.trod_struct ht h
  have hi : i < fs.size := (Array.getElem?_eq_some_iff.1 hf).1
  have h1 := hx i f hf
  rw [List.getElem?_eq_getElem (by omega)] at h1
  refine hd _ _ _ h1 hs (List.all_eq_true.2 fun k hk => ?_)
  simp only [DataW.weights, ht] at hw
  exact List.all_eq_true.1 hw k (DataW.weights_mem_each (j := i) (by simpa using ⟨f, hf, rfl⟩) (by simp [List.getElem?_eq_getElem (show i < xs.length by omega)]) k hk)
theorem zIn {fs : Array Field} (i off : Nat) {ft : TypeId} (ht : P.underlying t = some (.struct fs)) {n : Nat} {cs : List Value} {x : DataW H × List MemPlace} (h : DataW.trod enc P w 0 (fun _ => true) true n t cs = some x) (hw : (x.1.weights P t).all (· ≤ reachBytes) = true)
    (hf : (fs[i]?).map (fun f => (f.type, f.offset)) = some (ft, off)) (hc : P.cellsOf ft = s) (hd : Dec enc P w ft s lay good) (hs : off + s ≤ cs.length) : ∃ a, (cs.drop off).take s = lay a ∧ good a := by
  rw [Option.map_eq_some_iff] at hf
  obtain ⟨f, h1, h2⟩ := hf
  cases h2
  have := dec_fields ht h hw h1 hd (by rw [hc, List.length_take, List.length_drop]; omega)
  rwa [hc] at this
theorem Dec.arg (hd : Dec enc P w t 1 lay good) {v : Value} {d : DataW H} {p : List MemPlace} (h : DataW.Trod enc P w 0 (fun _ => true) true t v d p) (h1 : v.cells.toList = [v]) {ts : List TypeId} {ds : List (DataW H)}
    (hw : (DataW.weightsEach P ts ds).all (· ≤ reachBytes) = true) {j : Nat} (ht : ts[j]? = some t) (hdj : ds[j]? = some d) : ∃ a, [v] = lay a ∧ good a := by
  obtain ⟨n, hn⟩ := h
  rw [h1] at hn
  exact hd n _ _ hn rfl (List.all_eq_true.2 fun k hk => List.all_eq_true.1 hw k (DataW.weights_mem_each ht hdj k hk))
theorem Dec.argN (hd : Dec enc P w t s lay good) {cs : Array Value} {d : DataW H} {p : List MemPlace} (h : DataW.Trod enc P w 0 (fun _ => true) true t (.agg cs) d p) (h1 : cs.size = s) {ts : List TypeId} {ds : List (DataW H)}
    (hw : (DataW.weightsEach P ts ds).all (· ≤ reachBytes) = true) {j : Nat} (ht : ts[j]? = some t) (hdj : ds[j]? = some d) : ∃ a, cs = (lay a).toArray ∧ good a := by
  obtain ⟨n, hn⟩ := h
  obtain ⟨a, h2, h3⟩ := hd n _ _ hn (by rw [Array.length_toList]; exact h1) (List.all_eq_true.2 fun k hk => List.all_eq_true.1 hw k (DataW.weights_mem_each ht hdj k hk))
  exact ⟨a, by rw [← h2]; rfl, h3⟩
theorem one_slice {b : Nat} (ht : P.underlying t = some (.slice e)) {v : Value} (h : Value.okWide P w .any b t v) : v.cells.toList = [v] := by
  obtain ⟨a, l, c, rfl⟩ := okWide_slice ht h
  rfl
theorem one_int {b : Nat} {k : IntKind} (ht : P.underlying t = some (.int k)) {v : Value} (h : Value.okWide P w .any b t v) : v.cells.toList = [v] := by
  obtain ⟨s, rfl⟩ := okWide_int ht h
  rfl
theorem flat_byt (bs : List UInt8) : (bs.flatMap fun b => [Value.int .u8 b.toNat]) = byt bs := by
  induction bs with
  | nil => rfl
  | cons b r ih => rw [List.flatMap_cons, ih]; rfl
end
end Go.Sl
namespace Go.Proofs.YtbogecljkaimdaaGreatDoor
open Go.Sl Go.ChangeShapes Go.WideShapes Go.RowKit
theorem zIu {P : Program} {W : World} {nm : String} {g m : Nat} {t e : TypeId} {cs : Array Value} {fuel : Nat} {p : List MemPlace} (l : List Int) (hg : P.globalNamed nm = some g) (ht : P.underlying t = some (.array m e)) (he : P.underlying e = some (.int .u32)) (ce : P.cellsOf e = 1) (ct : P.cellsOf t = l.length) (hm : m = l.length)
    (hv : W.var? P nm = some cs) (hd : DataW.trod (fun _ : TypeId × Value => ()) P W 0 (fun _ => true) false fuel t cs.toList = some (DataW.agg (l.map fun n => .lit (.int .u32 n)), p)) : Tab [old W] g l := by
  subst hm
  obtain ⟨xs, k, _, ex, hlen, hl, hel⟩ := DataW.trod_array ht hd
  rw [ct] at hlen
  have e3 : (xs.map (·.1)) = l.map fun n => (DataW.lit (.int .u32 n) : DataW Unit) := (DataW.agg.inj (Prod.mk.inj ex).1).symm
  have hcs : cs.toList = u32s l := by
    apply List.ext_getElem?
    intro i
    rcases Nat.lt_or_ge i l.length with hi | hi
    · have hE := hel i hi
      rw [ce, Nat.mul_one, List.getElem?_eq_getElem (by omega)] at hE
      obtain ⟨z, e1, e2, _⟩ := DataW.trod_int he hE
      have e4 : (xs.map (·.1))[i]? = (l.map fun n => (DataW.lit (.int .u32 n) : DataW Unit))[i]? := by rw [e3]
      rw [List.getElem?_map, List.getElem?_map, List.getElem?_eq_getElem (by omega : i < xs.length), List.getElem?_eq_getElem hi, e2] at e4
      simp only [Option.map_some, Option.some.injEq, DataW.lit.injEq, Lit.int.injEq, true_and] at e4
      have h0 : ((cs.toList.drop i).take 1)[0]? = some (.int .u32 z) := by rw [e1]; rfl
      have h1 : cs.toList[i]? = some (.int .u32 z) := by simpa using h0
      rw [h1, e4]
      simp [u32s, hi]
    · rw [List.getElem?_eq_none (by omega), List.getElem?_eq_none (by simp [u32s]; omega)]
  simp only [World.var?, hg, Option.bind_some] at hv
  split at hv
  · rename_i c T fr hh
    cases hv
    exact ⟨_, List.Mem.head _, T, fr, mem_old (by rw [← hcs]; simpa using hh)⟩
  · cases hv
end Go.Proofs.YtbogecljkaimdaaGreatDoor
namespace Go.Proofs.YtbogecljkaimdaaGreatDoor
open Go.Sl Go.ChangeShapes Go.WideShapes Go.ChangeAt Go.RowKit
section
variable {H : Type} {enc : TypeId × Value → H} {P : Program} {w : World} {t e : TypeId} {s : Nat} {α : Type} {lay : α → List Value} {good : α → Prop} {size : α → Nat}
theorem bulk_one (d : DataW H) : 1 ≤ Rows.uptoBulk d := by
  cases d with
  | lit l => cases l <;> simp [Rows.uptoBulk]
  | nil => simp [Rows.uptoBulk]
  | ptr d => simp [Rows.uptoBulk]
  | slice elems spare => simp [Rows.uptoBulk]
  | agg parts => simp [Rows.uptoBulk]
  | iface t d => simp [Rows.uptoBulk]
  | map entries => simp [Rows.uptoBulk]
  | held h => simp [Rows.uptoBulk]
theorem zKo {d : DataW H} : ∀ {l : List (DataW H)}, d ∈ l → Rows.uptoBulk d ≤ Rows.uptoBulkAll l
  | x :: r, h => by
    simp only [Rows.uptoBulkAll]
    rcases List.mem_cons.1 h with rfl | h
    · omega
    · have := zKo h; omega
  | [], h => by cases h
def DecB (enc : TypeId × Value → H) (P : Program) (w : World) (e : TypeId) (s : Nat) (lay : α → List Value) (good : α → Prop) (size : α → Nat) : Prop :=
  ∀ n cs x, DataW.trod enc P w 0 (fun _ => true) true n e cs = some x → cs.length = s → (x.1.weights P e).all (· ≤ reachBytes) = true → ∃ a, cs = lay a ∧ good a ∧ size a ≤ Rows.uptoBulk x.1
theorem dec_one (hd : Dec enc P w e s lay good) : DecB enc P w e s lay good (fun _ => 1) := fun n cs x h1 h2 h3 => by
  obtain ⟨a, h4, h5⟩ := hd n cs x h1 h2 h3
  exact ⟨a, h4, h5, bulk_one _⟩
theorem sum_bulk : ∀ {al : List α} {ds : List (DataW H)}, al.length = ds.length → (∀ (i : Nat) (a : α) (d : DataW H), al[i]? = some a → ds[i]? = some d → size a ≤ Rows.uptoBulk d) → (al.map size).sum ≤ Rows.uptoBulkAll ds
  | [], [], _, _ => by simp
  | a :: al, d :: ds, hl, h => by
    have h1 := h 0 a d rfl rfl
    have h2 := sum_bulk (al := al) (ds := ds) (by simpa using hl) (fun i a d ha hd => h (i + 1) a d (by simpa using ha) (by simpa using hd))
    simp only [List.map_cons, List.sum_cons, Rows.uptoBulkAll]; omega
  | [], _ :: _, hl, _ => by simp at hl
  | _ :: _, [], hl, _ => by simp at hl
theorem decB_slice (ht : P.underlying t = some (.slice e)) (hs : P.cellsOf e = s) (h0 : 0 < s) {sz : Nat} (hz : P.bytesOf e = sz) (hd : DecB enc P w e s lay good size) (one : ∀ a, good a → ∀ u ∈ lay a, u.oneCell' = true) :
    DecB enc P w t 1 (fun x : Value × List α => [x.1]) (OldS w s sz lay good) (fun x => (x.2.map size).sum + 1) := fun n cs x h _ hw => by
  rcases Deep.open_slice ht h with ⟨rfl, rfl⟩ | ⟨a, len, cap, m, n, D, Pl, rfl, _, hl, hm, hmm, rfl, hx⟩
  · exact ⟨(.slice none 0 0, []), rfl, ⟨none, 0, rfl, Nat.le_refl _, by simp, ⟨by simp, by simp, Nat.zero_le _, .inl ⟨rfl, none, 0, rfl⟩⟩, by simp⟩, by simp [Rows.uptoBulk]⟩
  · simp only [if_true] at hmm
    subst hmm
    simp only [DataW.weights, ht, List.length_map, List.length_range, List.all_cons, Bool.and_eq_true, decide_eq_true_eq, List.all_append] at hw
    obtain ⟨hw1, hw2, _⟩ := hw
    have hstep : ∀ i, i < len → ∃ b : α, w.cells? 0 (a.add (i * s)) s = some (lay b) ∧ good b ∧ size b ≤ Rows.uptoBulk (D i) := fun i hi => by
      obtain ⟨cs', h1, h2⟩ := hx i (by omega)
      rw [hs] at h1
      have hlen : cs'.length = s := (World.cells?_some h1).2.1
      obtain ⟨b, rfl, hb, hsz⟩ := hd _ _ _ h2 hlen (List.all_eq_true.2 fun n hn => List.all_eq_true.1 hw2 n (zHu (List.mem_map.2 ⟨i, by simpa using hi, rfl⟩) n hn))
      exact ⟨b, h1, hb, hsz⟩
    obtain ⟨al, hal, has⟩ := list_of hstep
    have hgood : ∀ b ∈ al, good b := fun b hb => by
      obtain ⟨i, hi⟩ := List.getElem?_of_mem hb
      exact (has i b hi).2.1
    have hlay : ∀ b ∈ al, (lay b).length = s := fun b hb => by
      obtain ⟨i, hi⟩ := List.getElem?_of_mem hb
      exact (World.cells?_some (has i b hi).1).2.1
    have hlen := flat_length hlay
    refine ⟨(.slice (some a) len m, al), rfl, ⟨some a, m, by rw [hal], by simp only [hal]; exact hl, ?_, ?_, hgood⟩, ?_⟩
    · rw [hz, show len + (m - len) = m by omega] at hw1
      exact hw1
    · simp only [hal]
      refine ⟨by rw [hlen, hal], fun u hu => ?_, by omega, ?_⟩
      · obtain ⟨b, hb, hu⟩ := List.mem_flatMap.1 hu
        exact one b (hgood b hb) u hu
      · by_cases hl0 : len = 0
        · exact .inl ⟨hl0, some a, m, by rw [hl0]⟩
        · obtain ⟨b0, hb0, -⟩ := hstep 0 (by omega)
          have hc0 := (World.cells?_some hb0).2.2 0 h0
          have hlb : (lay b0).length = s := (World.cells?_some hb0).2.1
          rw [List.getElem?_eq_getElem (by omega)] at hc0
          obtain ⟨b, off, spot⟩ := a
          simp only [World.cell?, Addr.add, Nat.zero_mul, Nat.add_zero] at hc0
          split at hc0
          · rename_i l T fr hh
            have hh' : w.heap[b]? = some (.cells l T fr) := hh
            cases spot with
            | some q => simp at hc0
            | none =>
              refine .inr ⟨b, off, m, l, T, fr, rfl, mem_old hh', ?_⟩
              have := flat_get (lay := lay) (asx := al) (s := s) (l := l) (off := off) hlay 0 (fun i c hc j v hv => by
                obtain ⟨h1, _⟩ := has i c hc
                have hls : (lay c).length = s := (World.cells?_some h1).2.1
                have hj : j < s := by
                  have := (List.getElem?_eq_some_iff.1 hv).1
                  omega
                have h3 := (World.cells?_some h1).2.2 j hj
                rw [Addr.add_lit, Addr.add_lit, zHw hh', hv] at h3
                rw [Nat.zero_add]
                exact h3)
              simpa using this
          · cases hc0
    · have := sum_bulk (size := size) (al := al) (ds := (List.range len).map D) (by simp [hal]) (fun i b d hb hd => by
        rw [List.getElem?_map] at hd
        have hi := (List.getElem?_eq_some_iff.1 hb).1
        rw [List.getElem?_range (by omega)] at hd
        cases hd
        exact (has i b hb).2.2)
      simp only [Rows.uptoBulk]; omega
theorem DecB.arg (hd : DecB enc P w t 1 lay good size) {v : Value} {d : DataW H} {p : List MemPlace} (h : DataW.Trod enc P w 0 (fun _ => true) true t v d p) (h1 : v.cells.toList = [v]) {ts : List TypeId} {ds : List (DataW H)}
    (hw : (DataW.weightsEach P ts ds).all (· ≤ reachBytes) = true) (hk : Rows.uptoSmall H ds = true) {j : Nat} (ht : ts[j]? = some t) (hdj : ds[j]? = some d) : ∃ a, [v] = lay a ∧ good a ∧ size a ≤ 1048576 := by
  obtain ⟨n, hn⟩ := h
  rw [h1] at hn
  obtain ⟨a, h2, h3, h4⟩ := hd n _ _ hn rfl (List.all_eq_true.2 fun k hk => List.all_eq_true.1 hw k (DataW.weights_mem_each ht hdj k hk))
  have hb : Rows.uptoBulkAll ds ≤ 1048576 := of_decide_eq_true hk
  have := zKo (List.mem_of_getElem? hdj)
  have h5 : size a ≤ Rows.uptoBulk d := h4
  exact ⟨a, h2, h3, by omega⟩
end
end Go.Proofs.YtbogecljkaimdaaGreatDoor
namespace Go.Proofs.YtbogecljkaimdaaGreatDoor
open Go.Sl Go.ChangeShapes Go.WideShapes Go.ChangeAt Go.RowKit
section
variable {H : Type} {enc : TypeId × Value → H} {P : Program} {w : World} {t e : TypeId} {s : Nat} {α : Type} {lay : α → List Value} {good : α → Prop} {size : α → Nat}
theorem DecB.argN (hd : DecB enc P w t s lay good size) {cs : Array Value} {d : DataW H} {p : List MemPlace} (h : DataW.Trod enc P w 0 (fun _ => true) true t (.agg cs) d p) (h1 : cs.size = s) {ts : List TypeId} {ds : List (DataW H)}
    (hw : (DataW.weightsEach P ts ds).all (· ≤ reachBytes) = true) (hk : Rows.uptoSmall H ds = true) {j : Nat} (ht : ts[j]? = some t) (hdj : ds[j]? = some d) : ∃ a, cs = (lay a).toArray ∧ good a ∧ size a ≤ 1048576 := by
  obtain ⟨n, hn⟩ := h
  obtain ⟨a, h2, h3, h4⟩ := hd n _ _ hn (by rw [Array.length_toList]; exact h1) (List.all_eq_true.2 fun k hk => List.all_eq_true.1 hw k (DataW.weights_mem_each ht hdj k hk))
  have hb : Rows.uptoBulkAll ds ≤ 1048576 := of_decide_eq_true hk
  have := zKo (List.mem_of_getElem? hdj)
  have h5 : size a ≤ Rows.uptoBulk d := h4
  exact ⟨a, by rw [← h2]; rfl, h3, by omega⟩
theorem DecB.imp {good' : α → Prop} {size' : α → Nat} (h : DecB enc P w e s lay good size) (k : ∀ a, good a → good' a) (k2 : ∀ a, size' a ≤ size a) : DecB enc P w e s lay good' size' := fun n cs x h1 h2 h3 => by
  obtain ⟨a, h4, h5, h6⟩ := h n cs x h1 h2 h3
  exact ⟨a, h4, k a h5, Nat.le_trans (k2 a) h6⟩
theorem witness_row_zip {C : Checked} {os : Os} {f : FuncId} {fn : Func} {s : OpenSpec} {conds : List PathCond} {apart : Bool} {laid : List (String × DataW Unit)} (modest : Bool) (w0 : World) (args : Array Value) (hos : w0.os = os)
    (hsh : (w0.forCall (fun _ _ => 0) ⟨#[], args, []⟩).Shaped C.prog)
    (hok : Input.okWideB C.prog (w0.forCall (fun _ _ => 0) ⟨#[], args, []⟩) f ⟨#[], args, []⟩ = true)
    (hrow : s.preRow enc C.prog fn conds apart laid (w0.forCall (fun _ _ => 0) ⟨#[], args, []⟩).memory args) :
    ∃ (w : World) (tape : Tape) (i : Input), w.os = os ∧ (w.forCall tape i).Shaped C.prog ∧ i.vars = [] ∧ Input.okWide C.prog (w.forCall tape i) .any w.heap.size f i ∧
      s.preRow enc C.prog fn conds apart laid (w.forCall tape i).memory i.args ∧ ({ modest := modest } : Assume).holds C.prog (lone (Frame.enter C.prog f i.args .normal) [] (w.forCall tape i)) :=
  ⟨w0, fun _ _ => 0, ⟨#[], args, []⟩, hos, hsh, (Input.okWide_of_okWideB (base := 0) hok).1, (Input.okWide_of_okWideB hok).2, hrow, by
    simp only [Assume.holds]
    exact ⟨by simp, by simp, fun _ => Modest.zero, by simp, by simp⟩⟩
end
theorem ones_sum {α : Type} (l : List α) : (l.map fun _ => 1).sum = l.length := by
  induction l with
  | nil => rfl
  | cons a l ih => rw [List.map_cons, List.sum_cons, ih, List.length_cons, Nat.add_comm]
section
variable {H : Type} {enc : TypeId × Value → H} {w : World}
theorem dec_sum : Dec enc Tryz.prog w 29 4 (fun s : Fs => [.int .u64 s.a, .int .u64 s.b, .int .u64 s.c, .int .u64 s.d]) Fs.Ok := fun n cs x h hlen hw => by
  match cs, hlen with
  | [c0, c1, c2, c3], _ =>
  have ki : Tryz.prog.cellsOf 27 = 1 := by kernel_rfl
  have ht := Tryz.underlying29
  obtain ⟨a0, e0, h0⟩ := zIn 0 0 ht h hw rfl ki (dec_u64 (enc := enc) Tryz.underlying27) (by simp)
  obtain ⟨a1, e1, h1⟩ := zIn 1 1 ht h hw rfl ki (dec_u64 (enc := enc) Tryz.underlying27) (by simp)
  obtain ⟨a2, e2, h2⟩ := zIn 2 2 ht h hw rfl ki (dec_u64 (enc := enc) Tryz.underlying27) (by simp)
  obtain ⟨a3, e3, h3⟩ := zIn 3 3 ht h hw rfl ki (dec_u64 (enc := enc) Tryz.underlying27) (by simp)
  simp only [List.drop_succ_cons, List.drop_zero, List.take_succ_cons, List.take_zero, List.cons.injEq, and_true] at e0 e1 e2 e3
  subst e0 e1 e2 e3
  exact ⟨⟨a0, a1, a2, a3⟩, rfl, ⟨h0, h1, h2, h3⟩⟩
end
theorem laid4 {W : World} (h : laidMetH Tryz.prog [("undercroft/undercroftref02.first", Rows.laid_undercroft_undercroftref02_first), ("undercroft/undercroftref02.rounds", Rows.laid_undercroft_undercroftref02_rounds), ("unicode/utf8.acceptRanges", Rows.laid_unicode_utf8_acceptRanges), ("undercroft/sum.rounds", Rows.laid_undercroft_sum_rounds), ("unicode/utf8.first", Rows.laid_unicode_utf8_first)] W) : Lay4 [old W] := by
  rw [MakeChecks.laidMetH_plain _ _ _ (by kernel_rfl)] at h
  obtain ⟨ps, ⟨g0, t0, cs0, f0, p0, q0, hg0, ht0, hv0, hd0, ⟨g1, t1, cs1, f1, p1, q1, hg1, ht1, hv1, hd1, ⟨gx, tx, csx, fx, px, qx, hgx, htx, hvx, hdx, ⟨g2, t2, cs2, f2, p2, q2, hg2, ht2, hv2, hd2, _, _⟩, _⟩, _⟩, _⟩, _, _⟩ := h
  have a0 : Tryz.prog.globalNamed "undercroft/undercroftref02.first" = some 0 := by kernel_rfl
  have a1 : Tryz.prog.globalNamed "undercroft/undercroftref02.rounds" = some 1 := by kernel_rfl
  have a2 : Tryz.prog.globalNamed "undercroft/sum.rounds" = some 2 := by kernel_rfl
  obtain rfl := Option.some.inj (a0.symm.trans hg0)
  obtain rfl := Option.some.inj (a1.symm.trans hg1)
  obtain rfl := Option.some.inj (a2.symm.trans hg2)
  obtain rfl := Option.some.inj ((show (Tryz.prog.globals[(0 : Nat)]?).map (·.type) = some 122 by kernel_rfl).symm.trans ht0)
  obtain rfl := Option.some.inj ((show (Tryz.prog.globals[(1 : Nat)]?).map (·.type) = some 127 by kernel_rfl).symm.trans ht1)
  obtain rfl := Option.some.inj ((show (Tryz.prog.globals[(2 : Nat)]?).map (·.type) = some 127 by kernel_rfl).symm.trans ht2)
  exact ⟨zIu shaK a2 Tryz.underlying127 Tryz.underlying121 (by kernel_rfl) (by kernel_rfl) (by kernel_rfl) hv2 hd2,
    zIu sha0.l a0 Tryz.underlying122 Tryz.underlying121 (by kernel_rfl) (by kernel_rfl) (by kernel_rfl) hv0 hd0,
    zIu shaK a1 Tryz.underlying127 Tryz.underlying121 (by kernel_rfl) (by kernel_rfl) (by kernel_rfl) hv1 hd1⟩
theorem bytes_old {W : World} {X : Value × List UInt8} (g : OldS W 1 1 (fun b : UInt8 => [.int .u8 b.toNat]) (fun _ => True) X) (s : (X.2.map fun _ => 1).sum + 1 ≤ 1048576) :
    ∃ ad c, X.1 = .slice ad X.2.length c ∧ Rd (old W) 1 (.slice ad X.2.length c) X.2.length (byt X.2) ∧ X.2.length ≤ c ∧ X.2.length ≤ 1048576 := by
  obtain ⟨v, l⟩ := X
  obtain ⟨ad, c, h1, h2, h3, h4, h5⟩ := g
  simp only at h1 h2 h4 s
  subst h1
  rw [ones_sum] at s
  rw [flat_byt] at h4
  exact ⟨ad, c, rfl, h4, h2, by show l.length ≤ _; omega⟩
theorem reads_upto (W : World) (hL : laidMetH Tryz.prog Rows.recordReadsUptoRow.laid W) (X : Value × List UInt8) (g : OldS W 1 1 (fun b : UInt8 => [.int .u8 b.toNat]) (fun _ => True) X) (s : (X.2.map fun _ => 1).sum + 1 ≤ 1048576) (Y : Fs) (gy : Y.Ok) (_ : 1 ≤ 1048576)
    (k : Int) (hk : -9223372036854775808 ≤ k ∧ k ≤ 9223372036854775807) (_ : 1 ≤ 1048576) :
    Ret Tryz.prog 4 #[X.1, .agg [.int .u64 Y.a, .int .u64 Y.b, .int .u64 Y.c, .int .u64 Y.d].toArray, .int .i64 k] W fun u w' => u = .bool true ∧ Trs W w' [old W] [old W] := by
  obtain ⟨ad, c, h1, h2, h3, h4⟩ := bytes_old g s
  rw [h1]
  exact readsL_walk (old W) (laid4 hL) ad c X.2 h2 h3 h4 Y gy k hk W (hp_old W)
end Go.Proofs.YtbogecljkaimdaaGreatDoor
namespace Go.Sl
open Go.ChangeShapes Go.WideShapes Go.ChangeAt Go.RowKit
section
variable {H : Type} {enc : TypeId × Value → H} {P : Program}
theorem zLj (hl : laidOutB P = true) {W W' : World} (hb : Below W.heap.size W W') {sp : Nat → Bool} : ∀ (ts : List TypeId) (vs : List Value) (ds : List (DataW H)) (ps : List MemPlace),
    (∀ t ∈ ts, P.readableRec t = true ∧ t < P.types.size) → DataW.TrodAll enc P W 0 (fun _ => true) true ts vs ds ps → (∀ x ∈ ps, x.block < W.heap.size) → (∀ x ∈ ps, sp x.block = true) → DataW.TrodAll enc P W' 0 sp true ts vs ds ps
  | [], vs, ds, ps, _, h, _, _ => by
    obtain ⟨rfl, rfl, rfl⟩ := trodAll_nil h
    exact trodAll_mk0
  | t :: ts, vs, ds, ps, ht, h, hlt, hsp => by
    obtain ⟨v0, vs0, d0, ds0, p0, q0, rfl, rfl, rfl, h0, r0⟩ := trodAll_cons h
    refine trodAll_cons_mk ?_ (zLj hl hb ts vs0 ds0 q0 (fun u hu => ht u (List.mem_cons_of_mem _ hu)) r0 (fun x hx => hlt x (List.mem_append_right _ hx)) (fun x hx => hsp x (List.mem_append_right _ hx)))
    exact WideElems.Trod_stays hl (ht t (List.mem_cons_self ..)).1 (ht t (List.mem_cons_self ..)).2 h0 (fun x hx => hb.same (hlt x (List.mem_append_left _ hx))) (fun x hx => hsp x (List.mem_append_left _ hx))
theorem post_below {f : Func} {s : ChangeSpec} {apart fresh handsOn again : Bool} {W W' : World} {args : Array Value} {ds gs : List (DataW H)} {before : List MemPlace} {tb : TypeId}
    (hl : laidOutB P = true) (hW : DataW.Whole enc P f.params.toList s.vars apart W args.toList ds gs before) (hvars : s.vars = [])
    (hts : ∀ t ∈ f.params.toList, P.readableRec t = true ∧ t < P.types.size) (hrt : f.resultTypes = #[tb]) (htb : P.underlying tb = some .bool)
    (hs : (s.fn H (ds ++ gs)) = { results := [.lit (.bool true)], args := ds }) (hb : Below W.heap.size W W') :
    s.post enc P f apart fresh handsOn again W args (.bool true) W' := by
  have hlt : ∀ p ∈ before, p.block < W.heap.size := fun p hp => hW.lt p hp
  obtain ⟨p, q, hA, hV, rfl, hz, hn⟩ := id hW
  rw [hvars] at hV
  obtain ⟨rfl, rfl⟩ := trodVars_none hV
  simp only [List.append_nil] at *
  have hargs : ∀ sp : Nat → Bool, (∀ x ∈ p, sp x.block = true) → DataW.TrodAll enc P W' 0 sp true f.params.toList args.toList (s.fn H ds).args p := fun sp hsp => by
    rw [hs]; exact zLj hl hb _ _ _ _ hts hA hlt hsp
  have hres : ∀ (b : Nat) (sp : Nat → Bool) (hd : Bool), DataW.TrodAll enc P W' b sp hd f.resultTypes.toList ((Value.bool true).resultList f.resultTypes.size) (s.fn H ds).results [] := fun b sp hd => by
    rw [hs, hrt]; exact trodAll_mk1 (shut_bool htb true)
  have hvs : ∀ sp : Nat → Bool, DataW.TrodVars enc P W' sp s.vars (s.fn H ds).vars [] := fun sp => by
    rw [hvars, hs]; exact rfl
  refine ⟨ds, [], p, [], p, [], hW, by simpa using hres _ _ _, by simpa using hargs _ (fun x hx => by simpa using hlt x hx), by simpa using hvs _, World.keptBut_mono (fun x hx => ⟨hx, ?_⟩) (hb.frame (· ∈ p)), fun _ => ?_⟩
  · exact Or.inr (Or.inl hx)
  · have hok : ∀ (j : Nat) (t : TypeId) (r : Value), f.resultTypes[j]? = some t → ((Value.bool true).resultList f.resultTypes.size)[j]? = some r → Value.okWide P W' .any 0 t r :=
      ok_one hrt rfl (okWide_bool_mk htb true)
    have h1 := trodAll_append (hargs (fun _ => true) (fun _ _ => rfl)) (hres 0 (fun _ => true) true)
    refine ⟨hok, _, [], [] ++ p, ⟨[] ++ p, [], h1, by have := hvs (fun _ => true); rw [hs] at this; exact this, by simp, ?_, ?_⟩, fun x hx _ => by simpa using hx⟩
    · intro b off hx
      have hin : MemPlace.cell b off ∈ p := by simpa using hx
      rw [hb.frozen (hlt _ hin)]
      exact hz b off hin
    · intro ha
      simpa using hn ha
end
end Go.Sl
