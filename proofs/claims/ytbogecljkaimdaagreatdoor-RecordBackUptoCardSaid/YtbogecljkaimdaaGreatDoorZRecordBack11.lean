/-
  Texts put together (11).
-/
import Derived.Test.YtbogecljkaimdaaGreatDoorZRecordBack10
namespace Go.Proofs.YtbogecljkaimdaaGreatDoor
open Go.Sl
set_option maxRecDepth 10000
structure DecOk (b : List UInt8) (s : Fs) (r : Rec) (n : Nat) (o : Fs) : Prop where
  k : inK (zDd b)
  sz : zBw b ≤ 2048
  len : 37 + zBw b ≤ b.length
  n_ : n = 37 + zBw b
  o_ : o = ownD b s
  sl_ : zFa (ownD b s) = (b.drop (5 + zBw b)).take 32
  r_ : r = (zEb (zDd b) ⟨zEp b, 0, 0⟩).1
  done : (zEb (zDd b) ⟨zEp b, 0, 0⟩).2.done = 0
  ck : ckB r = true
theorem dec_inv (b : List UInt8) (s : Fs) : ((decR b s).1 = 10 ∨ (decR b s).1 = 200 ∨ (decR b s).1 = 201) ∧ decR b s = zHs (decR b s).1 ∨ ∃ r n o, decR b s = (0, r, n, o) ∧ DecOk b s r n o := by
  by_cases h5 : b.length < 5
  · left; rw [dec_1 h5]; exact ⟨.inl rfl, rfl⟩
  by_cases h2 : ¬ inK (zDd b) ∨ 2048 < zBw b
  · left; rw [dec_2 (by omega) h2]; exact ⟨.inr (.inl rfl), rfl⟩
  have hk : inK (zDd b) := Classical.byContradiction fun q => h2 (.inl q)
  have hn : zBw b ≤ 2048 := Nat.le_of_not_lt fun q => h2 (.inr q)
  by_cases h3 : b.length < 37 + zBw b
  · left; rw [dec_3 (by omega) hk hn h3]; exact ⟨.inl rfl, rfl⟩
  by_cases h4 : zFa (ownD b s) = (b.drop (5 + zBw b)).take 32
  · by_cases h6 : (zEb (zDd b) ⟨zEp b, 0, 0⟩).2.done ≠ 0 ∨ ckB (zEb (zDd b) ⟨zEp b, 0, 0⟩).1 = false
    · left; rw [dec_5 (by omega) hk hn (by omega) h4 h6]; exact ⟨.inr (.inl rfl), rfl⟩
    · have h8 : (zEb (zDd b) ⟨zEp b, 0, 0⟩).2.done = 0 := Classical.byContradiction fun q => h6 (.inl q)
      have h9 : ckB (zEb (zDd b) ⟨zEp b, 0, 0⟩).1 = true := by
        cases hc : ckB (zEb (zDd b) ⟨zEp b, 0, 0⟩).1 with
        | true => rfl
        | false => exact absurd (.inr hc) h6
      exact .inr ⟨_, _, _, dec_6 (by omega) hk hn (by omega) h4 h8 h9, hk, hn, by omega, rfl, rfl, h4, rfl, h8, h9⟩
  · left; rw [dec_4 (by omega) hk hn (by omega) h4]; exact ⟨.inr (.inr rfl), rfl⟩
theorem zKl {b : List UInt8} {s : Fs} (h : (decR b s).1 = 0) : DecOk b s (decR b s).2.1 (decR b s).2.2.1 (decR b s).2.2.2 := by
  rcases dec_inv b s with ⟨h1, _⟩ | ⟨r, n, o, h1, h2⟩
  · omega
  · rw [h1]; exact h2
theorem dec_sml (b : List UInt8) (s : Fs) : Sml (decR b s).2.1 := by
  rcases dec_inv b s with ⟨_, h1⟩ | ⟨r, n, o, h1, h2⟩
  · rw [h1]; exact ⟨zCq, zCq, zCq, zGi, zCq, zCq⟩
  · rw [h1]; simp only; rw [h2.r_]; exact takeK_sml h2.k _
noncomputable def recF : Nat → List UInt8 → Fs → List Rec → Int × List Rec
  | 0, _, _, acc => (0, acc)
  | n + 1, b, s, acc => if b = [] then (0, acc) else if (decR b s).1 ≠ 0 then ((decR b s).1, []) else recF n (b.drop (decR b s).2.2.1) (decR b s).2.2.2 (acc ++ [(decR b s).2.1])
theorem recF_more : ∀ (n m : Nat) (b : List UInt8) (s : Fs) (acc : List Rec), b.length < n → b.length < m → recF n b s acc = recF m b s acc
  | 0, _, _, _, _, h, _ => absurd h (Nat.not_lt_zero _)
  | _, 0, _, _, _, _, h => absurd h (Nat.not_lt_zero _)
  | n + 1, m + 1, b, s, acc, h1, h2 => by
    rw [recF, recF]
    by_cases hb : b = []
    · rw [if_pos hb, if_pos hb]
    · rw [if_neg hb, if_neg hb]
      by_cases hd : (decR b s).1 ≠ 0
      · rw [if_pos hd, if_pos hd]
      · rw [if_neg hd, if_neg hd]
        have := zKl (by simpa using hd : (decR b s).1 = 0)
        have h3 := this.n_
        have h4 := this.len
        exact recF_more n m _ _ _ (by rw [List.length_drop]; omega) (by rw [List.length_drop]; omega)
noncomputable def recG (b : List UInt8) (s : Fs) (acc : List Rec) : Int × List Rec := recF (b.length + 1) b s acc
theorem zFo (s : Fs) (acc : List Rec) : recG [] s acc = (0, acc) := rfl
theorem zIp {b : List UInt8} {s : Fs} (acc : List Rec) (hb : b ≠ []) (h : (decR b s).1 ≠ 0) : recG b s acc = ((decR b s).1, []) := by
  rw [recG, recF, if_neg hb, if_pos h]
theorem zJq {b : List UInt8} {s : Fs} (acc : List Rec) (hb : b ≠ []) (h : (decR b s).1 = 0) : recG b s acc = recG (b.drop (decR b s).2.2.1) (decR b s).2.2.2 (acc ++ [(decR b s).2.1]) := by
  rw [recG, recF, if_neg hb, if_neg (by simpa using h), recG]
  have := zKl h
  have h3 := this.n_
  have h4 := this.len
  exact recF_more _ _ _ _ _ (by rw [List.length_drop]; omega) (by rw [List.length_drop]; omega)
theorem perm_front {α : Type} {x : α} {l : List α} (h : x ∈ l) : ∃ r, l.Perm (x :: r) := by
  obtain ⟨s, t, rfl⟩ := List.append_of_mem h
  exact ⟨s ++ t, List.perm_middle⟩
noncomputable def zFz (b : List UInt8) : Int × List Rec := if 1048576 < b.length then (2, []) else recG b zEa []
theorem sl_cut {D : zAs} {ad : Option Addr} {c n : Nat} {b : List UInt8} (h : Rd D 1 (.slice ad b.length c) b.length (byt b)) (hc : b.length ≤ c) (hn : n ≤ b.length) :
    ∃ ad2, sliced ad n b.length c 1 = .slice ad2 (b.drop n).length (c - n) ∧ Rd D 1 (.slice ad2 (b.drop n).length (c - n)) (b.drop n).length (byt (b.drop n)) ∧ (b.drop n).length ≤ c - n := by
  have hp := h.piece rfl (lo := n) (hi := b.length) (mx := c) hn (Nat.le_refl _) hc
  have hl : (b.drop n).length = b.length - n := List.length_drop
  simp only [Nat.mul_one] at hp
  rw [List.take_of_length_le (by rw [List.length_drop, zDr]; exact Nat.le_refl _), zIk, ← hl] at hp
  refine ⟨(if c = n then ad else ad.map (·.add (n * 1))), by rw [hl]; rfl, ?_, by omega⟩
  have e : sliced ad n b.length c 1 = .slice (if c = n then ad else ad.map (·.add (n * 1))) (b.drop n).length (c - n) := by rw [hl]; rfl
  rwa [e] at hp
set_option maxHeartbeats 1000000 in
theorem zHd (D : zAs) (ad : Option Addr) (c : Nat) (b : List UInt8) (hD : Rd D 1 (.slice ad b.length c) b.length (byt b)) (hcap : b.length ≤ c) {As : List zAs} (mD : D ∈ As) (hG : Tab As 2 shaK) (w0 : World) (H : Hp w0 As) :
    Ret Tryz.prog 20 #[.slice ad b.length c] w0 fun u w' => ∃ v' C X l, u = .tuple #[v', .int .i64 (zFz b).1] ∧ Buf C 26 13 v' l.length (l.flatMap RV.lay) ∧ RVs X l ∧ l.map RV.r = (zFz b).2 ∧ Trs w0 w' As (C :: X :: As) := by
  have S := St.begin H
  refine zDh 36 Tryz.func20 rfl rfl (by decide) ?_; intro a E
  refine wp_seq_k ?_; intro K hK
  refine zAa ?_
  iterate 2 (refine zp E (zAe E rfl rfl) ?_; clear E a; intro a E)
  refine wpList_nil ?_
  refine zAf hK ?_; clear hK; clear K
  iterate 2 (refine wp_seq_k ?_; intro K hK)
  refine zAa ?_
  refine zp E (zAd E rfl rfl) ?_; clear E a; intro a E
  refine zp E (by first | exact zBv E rfl rfl rfl | exact zAx E rfl rfl rfl | exact zAp E rfl rfl rfl) ?_; clear E a; intro a E
  refine zp E (zEi E rfl rfl rfl) ?_; clear E a; intro a E
  refine wpList_nil ?_
  refine zAf hK ?_; clear hK; clear K
  refine zBj E rfl (fun hb => ?_) (fun hb => ?_)
  · replace hb := Nrm.nrm hb
    refine wp_seq_k ?_; intro K hK
    refine zAa ?_
    iterate 2 (refine zp E (zAe E rfl rfl) ?_; clear E a; intro a E)
    refine wpList_nil ?_
    refine zAf hK ?_; clear hK; clear K
    refine wp_ret ?_
    refine zAv ?_; clear hK; clear K
    refine ret2 E rfl rfl rfl ?_
    refine ⟨_, rfl, nilv, [], [], [], ?_, Buf.nil _ _, (fun x hx => by cases hx), ?_, S.addNil.addNil.tr⟩
    · rw [zFz, if_pos (by omega)]
    · rw [zFz, if_pos (by omega)]; rfl
  · replace hb := Nrm.nrm hb
    refine wp_skip ?_
    refine zAf hK ?_; clear hK; clear K
    refine wp_seq_k ?_; intro K hK
    have hbl : b.length ≤ 1048576 := by omega
    have hr0 : zFz b = recG b zEa [] := by rw [zFz, if_neg (by omega)]
    refine zAa ?_
    refine zp E (zAe E rfl rfl) ?_; clear E a; intro a E
    refine wpList_nil ?_
    refine zAf hK ?_; clear hK; clear K
    refine wp_seq_k ?_; intro K hK
    refine zAa ?_
    refine zAm rfl (zBr E S rfl rfl (by decide) rfl rfl rfl ?_); clear E S a; intro a w b5 E S
    refine wpList_nil ?_
    refine zAf hK ?_; clear hK; clear K
    refine wp_seq_k ?_; intro K hK
    refine wp_block ?_
    refine wp_loop_ghost (fun (m : Nat) (a : Act) (w' : World) => ∃ (b' : List UInt8) (ad' : Option Addr) (c' : Nat) (s : Fs) (l : List RV) (C X : zAs) (v' : Value), m = b'.length ∧ Rd D 1 (.slice ad' b'.length c') b'.length (byt b') ∧ b'.length ≤ c' ∧ l.length + b'.length ≤ b.length ∧ zFz b = recG b' s (l.map RV.r) ∧ Buf C 26 13 v' l.length (l.flatMap RV.lay) ∧ RVs X l ∧ St w0 As w' (C :: X :: [(b5, cel (fsC s) 29)] :: As) ∧ Fr a 36 [(0, .slice ad' b'.length c'), (2, nilv), (3, .int .i64 0), (4, v'), (5, ptr b5)]) (b.length) ?_ ?_
    · exact ⟨b, ad, c, zEa, [], [], [], _, rfl, hD, hcap, by simp, hr0, Buf.nil _ _, (fun x hx => by cases hx), S.addNil.addNil, E.keep (zAb rfl (zAb rfl (zAb rfl (zAb rfl (zAb rfl zAr)))))⟩
    clear E; clear a; (try clear S); rintro m a w ⟨b', ad', c', s, l, C, X, v', rfl, hD', hc', hll, hrec, hB, hX, S, E⟩
    iterate 2 (refine wp_seq_k ?_; intro K hK)
    refine zAa ?_
    refine zp E (zAd E rfl rfl) ?_; clear E a; intro a E
    refine zp E (by first | exact zBv E rfl rfl rfl | exact zAx E rfl rfl rfl | exact zAp E rfl rfl rfl) ?_; clear E a; intro a E
    refine zp E (zEi E rfl rfl rfl) ?_; clear E a; intro a E
    refine wpList_nil ?_
    refine zAf hK ?_; clear hK; clear K
    refine zBj E rfl (fun hb => ?_) (fun hb => ?_)
    · replace hb := Nrm.nrm hb
      refine wp_skip ?_
      refine zAf hK ?_; clear hK; clear K
      refine wp_block ?_
      refine wp_seq_k ?_; intro K hK
      have hne : b' ≠ [] := by rintro rfl; simp at hb
      have hGD : Tab (D :: As) 2 shaK := hG.tail
      have hsm := dec_sml b' s
      obtain ⟨x, hx⟩ : ∃ x, x = decR b' s := ⟨_, rfl⟩
      have hok : x.1 = 0 → DecOk b' s x.2.1 x.2.2.1 x.2.2.2 := fun h => by rw [hx] at h ⊢; exact zKl h
      have herr := zIp (s := s) (l.map RV.r) hne
      have hgo := zJq (s := s) (l.map RV.r) hne
      rw [← hx] at hsm herr hgo
      obtain ⟨e, r, n, o⟩ := x
      simp only at hsm hok herr hgo
      obtain ⟨pre, hpre⟩ := perm_front mD
      have S := S.perm (Bs := D :: (C :: X :: [(b5, cel (fsC s) 29)] :: pre)) (by
        refine ((((hpre.cons [(b5, cel (fsC s) 29)]).cons X).cons C).trans ?_)
        exact (zAc (zAc (zAc (zIq _ _)))))
      refine zAa ?_
      refine zp E (zAd E rfl rfl) ?_; clear E a; intro a E
      refine zp E (zBq (vs := [_, _, _, _]) E rfl rfl rfl (S.get (by repeat (first | exact pk1 | apply zAc))) rfl rfl) ?_; clear E a; intro a E
      refine zAn E rfl rfl (by decide) rfl Tryz.func19 rfl (by kernel_rfl) rfl (zHw D ad' c' b' hD' hc' (by omega) s _ (hG.sub fun Q hQ => by rcases List.mem_cons.1 (hpre.mem_iff.1 hQ) with rfl | q; exact List.Mem.head _; exact List.Mem.tail _ (List.Mem.tail _ (List.Mem.tail _ (List.Mem.tail _ q)))) _ S.hp) ?_
      rintro v19 w ⟨Y, pv, kv, dv, he, hY, hT⟩; clear E a; intro a E
      rw [← hx] at he hY; simp only [Rec.cells] at he hY; subst he; have S := S.all hT
      obtain ⟨a1, c1, rfl⟩ := hY.rd.pr.slice
      obtain ⟨a2, c2, rfl⟩ := hY.rd.kr.slice
      obtain ⟨a3, c3, rfl⟩ := hY.rd.dr.slice
      have hYR := hY.rd
      clear hY
      refine zp E (zAd E rfl rfl) ?_; clear E a; intro a E
      iterate 4 (refine zp E (zBh E rfl rfl rfl) ?_; clear E a; intro a E)
      refine zAm rfl (zBr E S rfl rfl (by decide) rfl rfl rfl ?_); clear E S a; intro a w b6 E S
      refine zAm rfl (zBr E S rfl rfl (by decide) rfl rfl rfl ?_); clear E S a; intro a w b8 E S
      refine zAm rfl (zBd E S rfl rfl rfl rfl (by simp [Value.oneCell']) rfl (by repeat (first | exact pk1 | apply zAc)) (by simp) ?_); clear E S a; intro a w E S; simp only [List.take_succ_cons, List.take_zero, List.drop_succ_cons, List.drop_zero, List.cons_append, List.nil_append, List.append_nil, List.length_cons, List.length_nil, Nat.zero_add, Nat.add_zero] at S
      refine zp E (zAe E rfl rfl) ?_; clear E a; intro a E
      refine zAm rfl (zBd E S rfl rfl rfl rfl (by simp [Value.oneCell']) rfl (by repeat (first | exact pk1 | apply zAc)) (by simp) ?_); clear E S a; intro a w E S; simp only [List.take_succ_cons, List.take_zero, List.drop_succ_cons, List.drop_zero, List.cons_append, List.nil_append, List.append_nil, List.length_cons, List.length_nil, Nat.zero_add, Nat.add_zero] at S
      refine zp E (zAe E rfl rfl) ?_; clear E a; intro a E
      refine wpList_nil ?_
      refine zAf hK ?_; clear hK; clear K
      iterate 2 (refine wp_seq_k ?_; intro K hK)
      refine zAa ?_
      refine zp E (zAd E rfl rfl) ?_; clear E a; intro a E
      refine zp E (by first | exact zDa E rfl rfl rfl | exact zBc E rfl rfl rfl rfl | exact zBl E rfl rfl rfl rfl | exact zBg E rfl rfl rfl) ?_; clear E a; intro a E
      refine wpList_nil ?_
      refine zAf hK ?_; clear hK; clear K
      refine zBj E rfl (fun hb => ?_) (fun hb => ?_)
      · replace hb := Nrm.nrm hb
        refine wp_seq_k ?_; intro K hK
        refine zAa ?_
        refine zp E (zAd E rfl rfl) ?_; clear E a; intro a E
        iterate 2 (refine zp E (zAe E rfl rfl) ?_; clear E a; intro a E)
        refine wpList_nil ?_
        refine zAf hK ?_; clear hK; clear K
        refine wp_ret ?_
        refine zAv ?_; clear hK; clear K
        refine zCi ?_
        refine zAv ?_
        refine zCi ?_
        refine zAv ?_; clear hK; clear K
        refine ret2 E rfl rfl rfl ?_
        rw [hrec, herr hb]
        refine ⟨_, rfl, nilv, [], [], [], rfl, Buf.nil _ _, (fun x hx => by cases hx), rfl, ?_⟩
        exact ((((St.drops0 [_, _, _] S).drops [_, _, _]).perm hpre.symm).addNil.addNil).tr
      · replace hb := Nrm.nrm hb
        refine wp_skip ?_
        refine zAf hK ?_; clear hK; clear K
        have hd := hok hb
        have h1 := hd.n_
        have h2 := hd.len
        obtain ⟨ad2, hs2, hD2, hc2⟩ := sl_cut (n := n) hD' hc' (by omega)
        refine zDm S (.ofL [(0, 0), (1, 0), (4, 0), (5, 2), (6, 2), (7, 2), (2, 1), (3, 1), (8, 0), (9, 3), (10, 2)]) [[(b6, cel [.int .i64 r.kind, str r.name, .int .i64 r.typ, .int .i64 r.frm, .int .i64 r.guid, .int .i64 r.origin, str r.snap, .slice a1 r.props.length c1, .int .i64 r.object, .int .i64 r.at_, .int .i64 r.many, .slice a2 r.keep.length c2, .slice a3 r.data.length c3] 26)], [(b8, cel (fsC o) 29)]] (fun h => h.sub (by first | (simp; done) | (simp +contextual; done) | (simp [*]; done))) (by kernel_rfl) (by kernel_rfl) ?_
        clear S; intro w S
        refine zm E rfl (fun w h => zAd E rfl rfl) ?_; clear E a; intro a E
        refine zm E rfl (fun w h => zBq (vs := [_, _, _, _, _, _, _, _, _, _, _, _, _]) E rfl rfl rfl (h.one (by repeat (first | exact mm1 | assumption | apply List.Mem.tail))) rfl rfl) ?_; clear E a; intro a E
        refine zm E rfl (fun w h => zBq (vs := [_, _, _, _]) E rfl rfl rfl (h.one (by repeat (first | exact mm1 | assumption | apply List.Mem.tail))) rfl rfl) ?_; clear E a; intro a E
        iterate 2 (refine zCs E rfl rfl rfl (by decide) (fun w => zAd E rfl rfl) ?_; clear E a; intro a E)
        refine zCs E rfl rfl rfl (by decide) (fun w => zKc (s := 1) E rfl rfl rfl rfl rfl rfl (by omega)) ?_; clear E a; intro a E
        refine zDg rfl rfl (zEs (cells := [_, _, _, _, _, _, _, _, _, _, _, _, _]) E S rfl rfl (by decide) rfl rfl rfl rfl rfl (by decide) rfl ?_); clear E S a; intro a w b29 E S; refine ⟨S.stab.sub (by first | (simp; done) | (simp +contextual; done) | (simp [*]; done)), ?_⟩
        refine zDg rfl rfl (zDi (by' := 168) E S rfl rfl (by decide) rfl rfl hB (by repeat (first | exact pk1 | apply zAc)) ((zGm (g := b29) (T := 26) (xs := [.int .i64 r.kind, str r.name, .int .i64 r.typ, .int .i64 r.frm, .int .i64 r.guid, .int .i64 r.origin, str r.snap, .slice a1 r.props.length c1, .int .i64 r.object, .int .i64 r.at_, .int .i64 r.many, .slice a2 r.keep.length c2, .slice a3 r.data.length c3]) (s := 13) (m := 1) rfl (by simp [Value.oneCell']) (by omega) 1).src (S.stab.at (by repeat (first | exact mm1 | assumption | apply List.Mem.tail))) rfl) rfl rfl rfl rfl rfl rfl (by simp only [maxLen]; omega) (by omega) ?_); clear E S a; intro a w v30 C30 E S hB30; refine ⟨S.stab.sub (by first | (simp; done) | (simp +contextual; done) | (simp [*]; done)), ?_⟩
        refine zm E rfl (fun w h => zAe E rfl rfl) ?_; clear E a; intro a E
        refine zCy rfl rfl (zBd E S rfl rfl rfl rfl (by simp [Value.oneCell']) rfl (by repeat (first | exact pk1 | apply zAc)) (by simp) ?_); clear E S a; intro a w E S; simp only [List.take_succ_cons, List.take_zero, List.drop_succ_cons, List.drop_zero, List.cons_append, List.nil_append, List.append_nil, List.length_cons, List.length_nil, Nat.zero_add, Nat.add_zero] at S
        refine zCs E rfl rfl rfl (by decide) (fun w => zAe E rfl rfl) ?_; clear E a; intro a E
        refine zCd ?_
        refine zBo ?_
        refine zBn ?_
        rw [hs2] at E
        have S := St.drops0 [_, _, _] (S.front3 (A := [(b29, _)]) (B := [(b8, _)]) (C := [(b6, _)]) (by repeat (first | exact pk1 | apply zAc)) (by repeat (first | exact pk1 | apply zAc)) (by repeat (first | exact pk1 | apply zAc)))
        have S := (S.front5 (A := X) (B := Y) (C := C30) (D := [(b5, _)]) (F := D) (by repeat (first | exact pk1 | apply zAc)) (by repeat (first | exact pk1 | apply zAc)) (by repeat (first | exact pk1 | apply zAc)) (by repeat (first | exact pk1 | apply zAc)) (by repeat (first | exact pk1 | apply zAc))).join.perm2
        have S := S.perm (((hpre.symm.cons _).cons _).cons _)
        refine ⟨_, ?_, b'.drop n, ad2, c' - n, o, l ++ [⟨r, .slice a1 r.props.length c1, .slice a2 r.keep.length c2, .slice a3 r.data.length c3⟩], C30, X ++ Y, v30, rfl, hD2, hc2, ?_, ?_, ?_, ?_, S, E.keep (zAb rfl (zAb rfl (zAb rfl (zAb rfl (zAb rfl zAr)))))⟩
        · rw [List.length_drop]; omega
        · simp only [List.length_append, List.length_drop, List.length_singleton]; omega
        · rw [hrec, hgo hb, List.map_append]; rfl
        · rw [List.length_append, List.flatMap_append]; exact hB30
        · intro x hx
          rcases List.mem_append.1 hx with q | q
          · exact (hX x q).sub fun y hy => List.mem_append_left _ hy
          · rw [List.mem_singleton.1 q]; exact hYR.sub fun y hy => List.mem_append_right _ hy
    · replace hb := Nrm.nrm hb
      refine wp_exit ?_
      refine zBf ?_; clear hK; clear K
      refine zBf ?_
      refine zCr ?_
      refine zAf hK ?_; clear hK; clear K
      refine wp_seq_k ?_; intro K hK
      refine zAa ?_
      refine zp E (zAd E rfl rfl) ?_; clear E a; intro a E
      iterate 2 (refine zp E (zAe E rfl rfl) ?_; clear E a; intro a E)
      refine wpList_nil ?_
      refine zAf hK ?_; clear hK; clear K
      refine wp_ret ?_
      refine ret2 E rfl rfl rfl ?_
      obtain rfl : b' = [] := List.length_eq_zero_iff.1 (by omega)
      rw [hrec, zFo]
      exact ⟨_, rfl, v', C, X, l, rfl, hB, hX, rfl, (St.drops2 [_] S).tr⟩
end Go.Proofs.YtbogecljkaimdaaGreatDoor
namespace Go.Sl
def onlyL : List Bool → List Bool → Bool
  | [], _ => true
  | b :: r, m :: ms => (!b || m) && onlyL r ms
  | b :: r, [] => !b && onlyL r []
def flags (r : Rec) : List Bool :=
  [!decide (r.name = []), r.many != 0, r.typ != 0, r.frm != 0, r.guid != 0, r.origin != 0, !decide (r.snap = []), decide ((0 : Int) < (r.props.length : Int)), r.object != 0, r.at_ != 0, decide ((0 : Int) < (r.keep.length : Int)), decide ((0 : Int) < (r.data.length : Int))]
abbrev bo (l : List Bool) : List Value := l.map Value.bool
def msk (m : Nat) : List Bool := (List.range 12).map m.testBit
def onlyB (r : Rec) (m : Nat) : Bool := onlyL (flags r) (msk m)
end Go.Sl
namespace Go.Proofs.YtbogecljkaimdaaGreatDoor
open Go.Sl
set_option maxRecDepth 10000
section
variable {C : zAs} {r : Rec} {pv kv dv : Value} (hR : RecR C r pv kv dv) (hs : Sml r) {As : List zAs} (hC : C ∈ As) (w0 : World) (H : Hp w0 As)
include hR hs H
end
end Go.Proofs.YtbogecljkaimdaaGreatDoor
namespace Go.Sl
end Go.Sl
namespace Go.Proofs.YtbogecljkaimdaaGreatDoor
open Go.Sl
set_option maxRecDepth 10000
section
variable {C : zAs} {r : Rec} {pv kv dv : Value} (hR : RecR C r pv kv dv) (hs : Sml r) {As : List zAs} (hC : C ∈ As) (w0 : World) (H : Hp w0 As)
include hR hs hC H
omit hR hs hC H in
theorem only_e {m : Nat} (h : zCx (zDq r) = true ↔ onlyB r m = true) : zCx (zDq r) = onlyB r m := by rw [Bool.eq_iff_iff]; exact h
omit hR hs hC H in
theorem ck6 (h : r.kind = 6 ∨ r.kind = 7) : ckB r = (onlyB r 2 && may6 r) := by
  have e : zCx (zDq r) = onlyB r 2 := only_e (by
    rw [zLh (by omega) (by omega) (by omega) (by omega) (by omega)]
    simp [zCx, onlyB, flags, msk, onlyL, List.range, List.range.loop, Nat.testBit, Nat.shiftRight_eq_div_pow, List.length_eq_zero_iff]
    clear h; grind)
  rcases h with h | h <;> simp only [ckB, inK, mayK, h, e] <;> simp [Bool.and_comm]
end
end Go.Proofs.YtbogecljkaimdaaGreatDoor
namespace Go.Sl
end Go.Sl
namespace Go.Proofs.YtbogecljkaimdaaGreatDoor
open Go.Sl
set_option maxRecDepth 10000
abbrev BB (C : zAs) (v : Value) (bs : List UInt8) : Prop := Buf C 5 1 v bs.length (byt bs)
end Go.Proofs.YtbogecljkaimdaaGreatDoor
namespace Go.Proofs.YtbogecljkaimdaaGreatDoor
open Go.Sl
set_option maxRecDepth 10000
noncomputable def encR (r : Rec) (s : Fs) : Int × List UInt8 × Fs := if ckB r = true then (0, zCz r.kind (zDk r.kind r) s, ownS r.kind (zDk r.kind r) s) else (200, [], zEa)
def encQ (x : Int × List UInt8 × Fs) (As : List zAs) (w0 : World) (u : Value) (w' : World) : Prop := ∃ v D, u = .tuple #[v, x.2.2.agg, .int .i64 x.1] ∧ BB D v x.2.1 ∧ Trs w0 w' As (D :: As)
theorem encR_yes {r : Rec} (h : ckB r = true) (s : Fs) : encR r s = (0, zCz r.kind (zDk r.kind r) s, ownS r.kind (zDk r.kind r) s) := by rw [encR, if_pos h]
theorem encR_no {r : Rec} (h : ckB r = false) (s : Fs) : encR r s = (200, [], zEa) := by rw [encR, if_neg (by rw [h]; decide)]
theorem trs_addNil {w w' : World} {As Bs : List zAs} (h : Trs w w' As Bs) : Trs w w' As ([] :: Bs) := by simpa [Trs] using h
theorem encP_Q {r : Rec} {s : Fs} {As : List zAs} {w0 : World} {u : Value} {w' : World} (h : encP r s As w0 u w') : encQ (encR r s) As w0 u w' := by
  rcases h with ⟨h, rfl, hT⟩ | ⟨h, v, D, rfl, hB, hT⟩
  · rw [encR_no h]; exact ⟨_, [], rfl, Buf.nil _ _, trs_addNil hT⟩
  · rw [encR_yes h]; exact ⟨v, D, rfl, hB, hT⟩
end Go.Proofs.YtbogecljkaimdaaGreatDoor
namespace Go.Proofs.YtbogecljkaimdaaGreatDoor
open Go.Sl
set_option maxRecDepth 10000
theorem zKm {b : List UInt8} (h : 5 + zBw b ≤ b.length) : zGh (zDd b) (zEp b) = b.take (5 + zBw b) := by
  have hl : (zEp b).length = zBw b := by rw [zEp, List.length_take, List.length_drop]; omega
  have e1 : zBm (zDd b) 1 = b.take 1 := by
    have := form_cut b (q := 0) (k := 1) (by omega)
    rwa [List.drop_zero] at this
  have e2 : zBm (zBw b) 4 = (b.drop 1).take 4 := form_cut b (q := 1) (k := 4) (by omega)
  rw [zGh, hl, headB, Int.toNat_natCast, e1, e2, zEp]
  rw [show b.take (5 + zBw b) = b.take 1 ++ ((b.drop 1).take 4 ++ (b.drop 5).take (zBw b)) by
    rw [show 5 + zBw b = 1 + (4 + zBw b) by omega, List.take_add, List.take_add (l := b.drop 1), List.drop_drop]]
  rw [List.append_assoc]
theorem own_take {b : List UInt8} (h : 5 + zBw b ≤ b.length) (s : Fs) : ownS (zDd b) (zEp b) s = ownD b s := by rw [ownS, zKm h]; rfl
theorem piece_iff {b : List UInt8} (h : 37 + zBw b ≤ b.length) (s : Fs) : zCz (zDd b) (zEp b) s = b.take (37 + zBw b) ↔ zFa (ownD b s) = (b.drop (5 + zBw b)).take 32 := by
  rw [zCz, own_take (by omega), zKm (by omega), show 37 + zBw b = 5 + zBw b + 32 by omega, List.take_add (l := b) (i := 5 + zBw b) (j := 32)]
  exact ⟨fun h => List.append_cancel_left h, fun h => by rw [h]⟩
end Go.Proofs.YtbogecljkaimdaaGreatDoor
namespace Go.Sl
def Took (s s' : Rdr) (x : List UInt8) : Prop := s'.e = 0 → s.e = 0 ∧ s'.bs = s.bs ∧ (s.at_ ≤ s.bs.length → s'.at_ ≤ s.bs.length ∧ s.bs.drop s.at_ = x ++ s.bs.drop s'.at_)
theorem Took.trans {s s' s'' : Rdr} {x y : List UInt8} (h : Took s s' x) (k : Took s' s'' y) : Took s s'' (x ++ y) := fun he => by
  obtain ⟨k1, k2, k3⟩ := k he
  obtain ⟨h1, h2, h3⟩ := h k1
  refine ⟨h1, k2.trans h2, fun hl => ?_⟩
  obtain ⟨h4, h5⟩ := h3 hl
  rw [h2] at k3
  obtain ⟨k4, k5⟩ := k3 h4
  exact ⟨k4, by rw [h5, k5, List.append_assoc]⟩
theorem Took.refl (s : Rdr) : Took s s [] := fun h => ⟨h, rfl, fun hl => ⟨hl, by simp⟩⟩
theorem zDv (s : Rdr) {k : Nat} (h1 : 1 ≤ k) (h8 : k ≤ 8) : Took s (s.num k).2 (zBm (s.num k).1 k) := fun he => by
  by_cases h0 : s.e = 0
  · by_cases hs : s.bs.length < s.at_ + k
    · simp [Rdr.num, h0, show ¬ ((k : Int) < 1 ∨ 8 < (k : Int)) by omega, hs] at he
    · have hv : s.num k = (zCh (s.cut k 0), { s with at_ := s.at_ + k }) := by simp [Rdr.num, h0, show ¬ ((k : Int) < 1 ∨ 8 < (k : Int)) by omega, hs]
      rw [hv]
      refine ⟨h0, rfl, fun hl => ⟨by simp only; omega, ?_⟩⟩
      have hc : (s.cut k 0).length = k := s.cut_length k 0 (by omega)
      have hf : zBm (zCh (s.cut k 0)) k = s.cut k 0 := by
        have := zLd (s.cut k 0)
        rwa [hc] at this
      show s.bs.drop s.at_ = zBm (zCh (s.cut k 0)) k ++ s.bs.drop (s.at_ + k)
      rw [hf]
      simp only [Rdr.cut, Nat.add_zero]
      rw [← List.drop_drop, List.take_append_drop]
  · have : s.num k = (0, s) := rnum_err h0 _
    rw [this] at he; exact absurd he h0
theorem zGl (s : Rdr) (m : Int) : Took s (s.text m).2 (txt (s.text m).1) := fun he => by
  by_cases h0 : s.e = 0
  · unfold Rdr.text at he ⊢
    rw [if_neg (by simp [h0])] at he ⊢
    by_cases h1 : s.bs.length < s.at_ + 2
    · rw [if_pos h1] at he; simp at he
    · rw [if_neg h1] at he ⊢
      by_cases h2 : m < zCh (s.cut 2 0)
      · rw [if_pos h2] at he; simp at he
      · rw [if_neg h2] at he ⊢
        by_cases h3 : s.bs.length < s.at_ + 2 + zCh (s.cut 2 0)
        · rw [if_pos h3] at he; simp at he
        · rw [if_neg h3]
          refine ⟨h0, rfl, fun hl => ⟨by simp only; omega, ?_⟩⟩
          have hc : (s.cut 2 0).length = 2 := s.cut_length 2 0 (by omega)
          have hc2 : (s.cut (zCh (s.cut 2 0)) 2).length = zCh (s.cut 2 0) := s.cut_length _ 2 (by omega)
          have hf : zBm (zCh (s.cut 2 0)) 2 = s.cut 2 0 := by
            have := zLd (s.cut 2 0)
            rwa [hc] at this
          simp only [txt, hc2, hf]
          obtain ⟨n, hn⟩ : ∃ n, n = zCh (s.cut 2 0) := ⟨_, rfl⟩
          rw [← hn]
          simp only [Rdr.cut, Nat.add_zero]
          rw [List.append_assoc, show s.at_ + (2 + n) = s.at_ + 2 + n by omega, ← List.drop_drop (i := n) (j := s.at_ + 2), List.take_append_drop, ← List.drop_drop (i := 2) (j := s.at_), List.take_append_drop]
  · have : s.text m = ([], s) := by simp [Rdr.text, h0]
    rw [this] at he; exact absurd he h0
theorem bytes_took (s : Rdr) (k : Nat) : Took s (s.bytes k).2 (s.bytes k).1 := fun he => by
  by_cases h0 : s.e = 0
  · by_cases hs : s.bs.length < s.at_ + k
    · simp [Rdr.bytes, h0, show ¬ ((k : Int) < 0) by omega, hs] at he
    · have hv : s.bytes k = (s.cut k 0, { s with at_ := s.at_ + k }) := by simp [Rdr.bytes, h0, show ¬ ((k : Int) < 0) by omega, hs]
      rw [hv]
      refine ⟨h0, rfl, fun hl => ⟨by simp only; omega, ?_⟩⟩
      simp only [Rdr.cut, Nat.add_zero]
      rw [← List.drop_drop, List.take_append_drop]
  · have : s.bytes k = ([], s) := by simp [Rdr.bytes, h0]
    rw [this] at he; exact absurd he h0
theorem bytes_num (s : Rdr) (k : Nat) (he : (s.bytes k).2.e = 0) : (s.bytes k).1.length = k := by
  by_cases h0 : s.e = 0
  · by_cases hs : s.bs.length < s.at_ + k
    · simp [Rdr.bytes, h0, show ¬ ((k : Int) < 0) by omega, hs] at he
    · have hv : s.bytes k = (s.cut k 0, { s with at_ := s.at_ + k }) := by simp [Rdr.bytes, h0, show ¬ ((k : Int) < 0) by omega, hs]
      rw [hv]
      exact s.cut_length k 0 (by omega)
  · have : s.bytes k = ([], s) := by simp [Rdr.bytes, h0]
    rw [this] at he; exact absurd he h0
theorem zKn (size : Nat) (less : Int) (s : Rdr) (h1 : 1 ≤ size) (h8 : size ≤ 8) : ∀ i, Took s (zFd size less s i).2 (zFk (zFd size less s i).1 size less)
  | 0 => Took.refl s
  | i + 1 => by
    have := (zKn size less s h1 h8 i).trans (zDv (zFd size less s i).2 h1 h8)
    have e : zFk (zFd size less s (i + 1)).1 size less = zFk (zFd size less s i).1 size less ++ zBm (((zFd size less s i).2.num size).1) size := by
      rw [zFd]
      simp only [zFk, List.flatMap_append, List.flatMap_cons, List.flatMap_nil, List.append_nil]
      congr 2
      omega
    rw [e]; exact this
theorem zKo (s : Rdr) (size : Nat) (less : Int) (h1 : 1 ≤ size) (h8 : size ≤ 8) (hl : (zEo s size less).1.length ≤ 240) : Took s (zEo s size less).2 (zBm (zEo s size less).1.length 2 ++ zFk (zEo s size less).1 size less) := by
  have hk : (zEo s size less).1.length = min (s.num 2).1 241 := by rw [zEo, zJm]
  have hm : min (s.num 2).1 241 = (s.num 2).1 := by omega
  have := (zDv s (k := 2) (by omega) (by omega)).trans (zKn size less (s.num 2).2 h1 h8 (s.num 2).1)
  have e : zEo s size less = zFd size less (s.num 2).2 (s.num 2).1 := by rw [zEo, hm]
  rw [hk, hm, e]
  exact this
theorem prpS_took (s : Rdr) : ∀ i, Took s (prpS s i).2 (zEm (prpS s i).1)
  | 0 => Took.refl s
  | i + 1 => by
    have := (prpS_took s i).trans ((zGl (prpS s i).2 24).trans (zGl ((prpS s i).2.text 24).2 64))
    have e : zEm (prpS s (i + 1)).1 = zEm (prpS s i).1 ++ (txt ((prpS s i).2.text 24).1 ++ txt (((prpS s i).2.text 24).2.text 64).1) := by
      rw [prpS]; simp [zEm]
    rw [e]; exact this
end Go.Sl
namespace Go.Proofs.YtbogecljkaimdaaGreatDoor
open Go.Sl
set_option maxRecDepth 10000
theorem zKp {k : Int} (h : inK k) (s : Rdr) : (zEb k s).1.kind = k := by
  rcases zEd h with rfl | rfl | rfl | rfl | rfl | rfl | rfl <;> rfl
theorem natn (n : Nat) : ((n : Int)).toNat = n := Int.toNat_natCast n
theorem takeK_took {k : Int} (h : inK k) (s : Rdr) (hc : ckB (zEb k s).1 = true) : Took s (zEb k s).2 (zDk k (zEb k s).1) := by
  obtain ⟨-, hm, -⟩ := ckB_all hc
  rw [zKp h] at hm
  rcases zEd h with rfl | rfl | rfl | rfl | rfl | rfl | rfl
  · exact (zGl s 24).trans (zDv _ (k := 2) (by omega) (by omega))
  · obtain ⟨x0, h0⟩ : ∃ x, x = s.text 240 := ⟨_, rfl⟩
    obtain ⟨x1, h1⟩ : ∃ x, x = x0.2.num 1 := ⟨_, rfl⟩
    obtain ⟨x2, h2⟩ : ∃ x, x = x1.2.num 6 := ⟨_, rfl⟩
    obtain ⟨x3, h3⟩ : ∃ x, x = x2.2.num 6 := ⟨_, rfl⟩
    obtain ⟨x4, h4⟩ : ∃ x, x = x3.2.num 1 := ⟨_, rfl⟩
    obtain ⟨x5, h5⟩ : ∃ x, x = x4.2.text 24 := ⟨_, rfl⟩
    obtain ⟨x6, h6⟩ : ∃ x, x = x5.2.num 1 := ⟨_, rfl⟩
    have htk : zEb 2 s = ({ zDf 2 with name := x0.1, typ := x1.1, frm := x2.1, guid := x3.1, origin := x4.1, snap := x5.1, props := (prpS x6.2 x6.1).1 }, (prpS x6.2 x6.1).2) := by rw [h6, h5, h4, h3, h2, h1, h0]; rfl
    have t0 : Took s x0.2 (txt x0.1) := by rw [h0]; exact zGl s 240
    have t1 : Took x0.2 x1.2 (zBm x1.1 1) := by rw [h1]; exact zDv _ (k := 1) (by omega) (by omega)
    have t2 : Took x1.2 x2.2 (zBm x2.1 6) := by rw [h2]; exact zDv _ (k := 6) (by omega) (by omega)
    have t3 : Took x2.2 x3.2 (zBm x3.1 6) := by rw [h3]; exact zDv _ (k := 6) (by omega) (by omega)
    have t4 : Took x3.2 x4.2 (zBm x4.1 1) := by rw [h4]; exact zDv _ (k := 1) (by omega) (by omega)
    have t5 : Took x4.2 x5.2 (txt x5.1) := by rw [h5]; exact zGl _ 24
    have t6 : Took x5.2 x6.2 (zBm x6.1 1) := by rw [h6]; exact zDv _ (k := 1) (by omega) (by omega)
    have T := t0.trans (t1.trans (t2.trans (t3.trans (t4.trans (t5.trans (t6.trans (prpS_took x6.2 x6.1)))))))
    rw [htk]
    have e : ∀ rr : Rec, zDk 2 rr = zLj rr := fun _ => rfl
    rw [e, zLj]
    simp only [prpS_len, natn]
    exact T
  · have hr := zGg (l := (zEo s 4 0).1) hm
    exact zKo s 4 0 (by omega) (by omega) hr.1
  · have hm : may4 (zEb 4 s).1 = true := hm
    simp only [may4, Bool.and_eq_true, decide_eq_true_eq] at hm
    have hr := zGg (l := (zEo (s.num 4).2 2 1).1) hm.2.2
    exact (zDv s (k := 4) (by omega) (by omega)).trans (zKo (s.num 4).2 2 1 (by omega) (by omega) hr.1)
  · have h0 := (zDv s (k := 4) (by omega) (by omega)).trans ((zDv (s.num 4).2 (k := 2) (by omega) (by omega)).trans ((zDv ((s.num 4).2.num 2).2 (k := 2) (by omega) (by omega)).trans (bytes_took (((s.num 4).2.num 2).2.num 2).2 (((s.num 4).2.num 2).2.num 2).1)))
    intro he
    have hl := bytes_num (((s.num 4).2.num 2).2.num 2).2 (((s.num 4).2.num 2).2.num 2).1 he
    have h1 := h0 he
    have e : zDk 5 (zEb 5 s).1 = zBm (s.num 4).1 4 ++ (zBm ((s.num 4).2.num 2).1 2 ++ (zBm (((s.num 4).2.num 2).2.num 2).1 2 ++ ((((s.num 4).2.num 2).2.num 2).2.bytes (((s.num 4).2.num 2).2.num 2).1).1)) := by
      show zLk (zJn 5 s).1 = _
      have e1 : (zJn 5 s).1.data = ((((s.num 4).2.num 2).2.num 2).2.bytes (((s.num 4).2.num 2).2.num 2).1).1 := rfl
      have e2 : (zJn 5 s).1.object = ((s.num 4).1 : Int) := rfl
      have e3 : (zJn 5 s).1.at_ = (((s.num 4).2.num 2).1 : Int) - 1 := rfl
      rw [zLk, e1, e2, e3, hl, Int.sub_add_cancel, natn, natn]
    rw [e]; exact h1
  · exact zDv s (k := 4) (by omega) (by omega)
  · exact zDv s (k := 4) (by omega) (by omega)
theorem body_back {k : Int} (h : inK k) (body : List UInt8) (hc : ckB (zEb k ⟨body, 0, 0⟩).1 = true) (hd : (zEb k ⟨body, 0, 0⟩).2.done = 0) : zDk k (zEb k ⟨body, 0, 0⟩).1 = body := by
  have ht := takeK_took h ⟨body, 0, 0⟩ hc
  obtain ⟨x, hx⟩ : ∃ x, x = (zEb k ⟨body, 0, 0⟩).2 := ⟨_, rfl⟩
  rw [← hx] at ht hd
  have he : x.e = 0 := by
    unfold Rdr.done at hd
    split at hd
    · cases hd
    · exact hd
  have hn : ¬ x.at_ < x.bs.length := fun q => by simp [Rdr.done, he, q] at hd
  obtain ⟨-, h2, h3⟩ := ht he
  obtain ⟨h4, h5⟩ := h3 (Nat.zero_le _)
  simp only at h2 h4 h5
  rw [h2] at hn
  rw [List.drop_zero, List.drop_of_length_le (by omega), List.append_nil] at h5
  exact h5.symm
theorem enc_dec {b : List UInt8} {s : Fs} {r : Rec} {n : Nat} {o : Fs} (h : DecOk b s r n o) : zCz r.kind (zDk r.kind r) s = b.take n ∧ ownS r.kind (zDk r.kind r) s = o := by
  have hk : r.kind = (zDd b : Int) := by rw [h.r_]; exact zKp h.k _
  have hb : zDk r.kind r = zEp b := by
    rw [hk]
    have := body_back h.k (zEp b) (by rw [← h.r_]; exact h.ck) h.done
    rwa [← h.r_] at this
  have hl := h.len
  rw [hb, hk, h.n_, h.o_]
  exact ⟨(piece_iff hl s).2 h.sl_, own_take (by omega) s⟩
def catB : Fs → List Rec → List UInt8
  | _, [] => []
  | s, r :: l => zCz r.kind (zDk r.kind r) s ++ catB (ownS r.kind (zDk r.kind r) s) l
theorem str_cat : ∀ (l : List Rec) (x : List UInt8) (s : Fs), (l.foldl (fun (x : List UInt8 × Fs) r => (x.1 ++ zCz r.kind (zDk r.kind r) x.2, ownS r.kind (zDk r.kind r) x.2)) (x, s)).1 = x ++ catB s l
  | [], x, s => by simp [catB]
  | r :: l, x, s => by
    rw [List.foldl_cons, str_cat l, catB, List.append_assoc]
theorem strS_cat (l : List Rec) : (strS l).1 = catB zEa l := by
  have := str_cat l [] zEa
  rwa [List.nil_append] at this
theorem piece_ne (k : Int) (b : List UInt8) (s : Fs) (t : List UInt8) : zCz k b s ++ t ≠ [] := fun h => by
  have := congrArg List.length h
  rw [List.length_append, zFc] at this
  simp at this
theorem rec_cat : ∀ (l : List Rec) (s : Fs) (acc : List Rec), (∀ r ∈ l, ckB r = true) → recG (catB s l) s acc = (0, acc ++ l)
  | [], s, acc, _ => by rw [catB, zFo, List.append_nil]
  | r :: l, s, acc, h => by
    have hr := h r (List.mem_cons_self ..)
    have hd := dec_enc hr s (catB (ownS r.kind (zDk r.kind r) s) l)
    rw [catB, zJq acc (piece_ne _ _ _ _) (by rw [hd]), hd]
    simp only [List.drop_left]
    rw [rec_cat l _ _ fun q hq => h q (List.mem_cons_of_mem _ hq), List.append_assoc]
    rfl
theorem cat_rec : ∀ (n : Nat) (b : List UInt8) (s : Fs) (acc l : List Rec), b.length ≤ n → recG b s acc = (0, l) → ∃ l', l = acc ++ l' ∧ (∀ r ∈ l', ckB r = true) ∧ catB s l' = b := by
  intro n
  induction n with
  | zero =>
    intro b s acc l hn h
    obtain rfl : b = [] := List.length_eq_zero_iff.1 (by omega)
    rw [zFo] at h
    exact ⟨[], by cases h; simp, by simp, rfl⟩
  | succ n ih =>
    intro b s acc l hn h
    by_cases hb : b = []
    · subst hb
      rw [zFo] at h
      exact ⟨[], by cases h; simp, by simp, rfl⟩
    · by_cases hd : (decR b s).1 = 0
      · rw [zJq acc hb hd] at h
        have ho := zKl hd
        have h1 := ho.n_
        have h2 := ho.len
        obtain ⟨e1, e2⟩ := enc_dec ho
        obtain ⟨l', h3, h4, h5⟩ := ih _ _ _ _ (by rw [List.length_drop]; omega) h
        refine ⟨(decR b s).2.1 :: l', by rw [h3, List.append_assoc]; rfl, ?_, ?_⟩
        · intro r hr
          rcases List.mem_cons.1 hr with rfl | hr
          · exact ho.ck
          · exact h4 r hr
        · rw [catB, e1, e2, h5, List.take_append_drop]
      · rw [zIp acc hb hd] at h
        exact absurd (congrArg (·.1) h) hd
theorem str_rec {l : List Rec} (h : (strR l).1 = 0) : (∀ r ∈ l, ckB r = true) ∧ (strR l).2.length ≤ 1048576 ∧ zFz (strR l).2 = (0, l) := by
  unfold strR at h ⊢
  by_cases hc : ∀ r ∈ l, ckB r = true
  · rw [if_pos hc] at h ⊢
    by_cases hl : 1048576 < (strS l).1.length
    · rw [if_pos hl] at h; cases h
    · rw [if_neg hl]
      refine ⟨hc, by simp only; omega, ?_⟩
      rw [zFz, if_neg (by simp only; omega)]
      simp only
      rw [strS_cat, rec_cat l _ _ hc, List.nil_append]
  · rw [if_neg hc] at h; cases h
theorem str_err {l : List Rec} (h : (strR l).1 ≠ 0) : (strR l).2 = [] ∧ ((∀ r ∈ l, ckB r = true) ↔ (strR l).1 = 2) := by
  unfold strR at h ⊢
  by_cases hc : ∀ r ∈ l, ckB r = true
  · rw [if_pos hc] at h ⊢
    by_cases hl : 1048576 < (strS l).1.length
    · rw [if_pos hl]; exact ⟨rfl, fun _ => rfl, fun _ => hc⟩
    · rw [if_neg hl] at h; exact absurd rfl h
  · rw [if_neg hc]
    exact ⟨rfl, fun q => absurd q hc, fun q => by cases q⟩
theorem rec_str {b : List UInt8} (h : (zFz b).1 = 0) : strR (zFz b).2 = (0, b) := by
  obtain ⟨x, hx⟩ : ∃ x, x = zFz b := ⟨_, rfl⟩
  rw [← hx] at h ⊢
  obtain ⟨e, l⟩ := x
  simp only at h
  subst h
  unfold zFz at hx
  split at hx
  · cases hx
  · rename_i hl
    obtain ⟨l', h1, h2, h3⟩ := cat_rec b.length b zEa [] l (Nat.le_refl _) hx.symm
    rw [List.nil_append] at h1
    subst h1
    unfold strR
    rw [if_pos h2, strS_cat, h3, if_neg hl]
end Go.Proofs.YtbogecljkaimdaaGreatDoor
namespace Go.Proofs.YtbogecljkaimdaaGreatDoor
open Go.Sl
set_option maxRecDepth 10000
theorem usameall_ret {Da Xa Db Xb : zAs} {va vb : Value} {la lb : List RV} (hDa : Rd Da 13 va la.length (la.flatMap RV.lay)) (hXa : RVs Xa la) (hDb : Rd Db 13 vb lb.length (lb.flatMap RV.lay)) (hXb : RVs Xb lb) (hs : ∀ x ∈ la, Sml x.r) (hl : la.length ≤ 1048576) (ra rb : List Rec) (hra : ra = la.map RV.r) (hrb : rb = lb.map RV.r)
    {As : List zAs} (m1 : Da ∈ As) (m2 : Xa ∈ As) (m3 : Db ∈ As) (m4 : Xb ∈ As) (w0 : World) (H : Hp w0 As) :
    Ret Tryz.prog 22 #[va, vb] w0 fun u w' => ∃ z, u = .bool z ∧ (z = true ↔ ra = rb) ∧ Trs w0 w' As As := by
  have S := St.begin H
  have e1 : ra.length = la.length := by rw [hra, List.length_map]
  have e2 : rb.length = lb.length := by rw [hrb, List.length_map]
  obtain ⟨a1, c1, rfl⟩ := hDa.slice
  obtain ⟨a2, c2, rfl⟩ := hDb.slice
  refine zCg 29 Tryz.func22 rfl rfl (by decide) ?_; intro a E
  refine wp_seq_k ?_; intro K hK
  refine zAa ?_
  refine zp E (zAe E rfl rfl) ?_; clear E a; intro a E
  refine wpList_nil ?_
  refine zAf hK ?_; clear hK; clear K
  iterate 2 (refine wp_seq_k ?_; intro K hK)
  refine zAa ?_
  refine zp E (zAd E rfl rfl) ?_; clear E a; intro a E
  refine zp E (by first | exact zBv E rfl rfl rfl | exact zAx E rfl rfl rfl | exact zAp E rfl rfl rfl) ?_; clear E a; intro a E
  refine zp E (zAd E rfl rfl) ?_; clear E a; intro a E
  refine zp E (by first | exact zBv E rfl rfl rfl | exact zAx E rfl rfl rfl | exact zAp E rfl rfl rfl) ?_; clear E a; intro a E
  refine zp E (by first | exact zDa E rfl rfl rfl | exact zBc E rfl rfl rfl rfl | exact zBl E rfl rfl rfl rfl | exact zBg E rfl rfl rfl) ?_; clear E a; intro a E
  refine wpList_nil ?_
  refine zAf hK ?_; clear hK; clear K
  refine zBj E rfl (fun hb => ?_) (fun hb => ?_)
  · replace hb := Nrm.nrm hb
    refine wp_seq_k ?_; intro K hK
    refine zAa ?_
    refine zp E (zAe E rfl rfl) ?_; clear E a; intro a E
    refine wpList_nil ?_
    refine zAf hK ?_; clear hK; clear K
    refine wp_ret ?_
    refine zAv ?_; clear hK; clear K
    refine ret1 E rfl rfl ?_
    exact ⟨_, rfl, _, rfl, ⟨fun q => Bool.noConfusion q, fun q => by have := congrArg List.length q; omega⟩, S.tr⟩
  · replace hb := Nrm.nrm hb
    refine wp_skip ?_
    refine zAf hK ?_; clear hK; clear K
    iterate 2 (refine wp_seq_k ?_; intro K hK)
    refine zAa ?_
    refine zp E (zAe E rfl rfl) ?_; clear E a; intro a E
    refine wpList_nil ?_
    refine zAf hK ?_; clear hK; clear K
    refine wp_block ?_
    refine wp_loop_ghost (fun (m : Nat) (a : Act) (w' : World) => ∃ i : Nat, m = la.length - i ∧ i ≤ la.length ∧ ra.take i = rb.take i ∧ St w0 As w' As ∧ Fr a 29 [(0, .slice a1 la.length c1), (1, .slice a2 lb.length c2), (4, .bool false), (5, .int .i64 i)]) (la.length) ?_ ?_
    · exact ⟨0, by omega, by omega, rfl, S, E.keep (zAb rfl (zAb rfl (zAb rfl (zAb rfl zAr))))⟩
    clear E; clear a; (try clear S); rintro m a w ⟨i, rfl, hi, he, S, E⟩
    iterate 2 (refine wp_seq_k ?_; intro K hK)
    refine zAa ?_
    iterate 2 (refine zp E (zAd E rfl rfl) ?_; clear E a; intro a E)
    refine zp E (by first | exact zBv E rfl rfl rfl | exact zAx E rfl rfl rfl | exact zAp E rfl rfl rfl) ?_; clear E a; intro a E
    refine zp E (zCw E rfl rfl rfl) ?_; clear E a; intro a E
    refine wpList_nil ?_
    refine zAf hK ?_; clear hK; clear K
    refine zBj E rfl (fun hb => ?_) (fun hb => ?_)
    · replace hb := Nrm.nrm hb
      refine wp_skip ?_
      refine zAf hK ?_; clear hK; clear K
      refine wp_seq_k ?_; intro K hK
      refine wp_block ?_
      refine wp_seq_k ?_; intro K hK
      have hil : i < la.length := by omega
      have hil2 : i < lb.length := by omega
      obtain ⟨b1, o1, rfl⟩ := hDa.addr (by omega)
      obtain ⟨b2, o2, rfl⟩ := hDb.addr (by omega)
      have g1 : ra[i]'(by omega) = la[i].r := by simp [hra]
      have g2 : rb[i]'(by omega) = lb[i].r := by simp [hrb]
      refine zCa S (.ofL [(0, 0), (1, 0), (2, 0), (3, 0), (4, 0), (5, 0), (6, 0), (7, 0), (8, 3), (9, 2)]) (by kernel_rfl) (by kernel_rfl) ?_
      clear S; intro w S
      iterate 2 (refine zm E rfl (fun w h => zAd E rfl rfl) ?_; clear E a; intro a E)
      refine zm E rfl (fun w h => by first | exact zBp E rfl rfl rfl rfl rfl rfl (by omega) | exact zBs E rfl rfl rfl rfl rfl rfl (by omega) | exact zBe E rfl rfl rfl rfl rfl rfl (by omega)) ?_; clear E a; intro a E
      refine zm E rfl (fun w h => zDj (vs := [_, _, _, _, _, _, _, _, _, _, _, _, _]) E rfl rfl rfl rfl (hDa.elem (lay := RV.lay) RV.lay_len (h.at m1) hil)) ?_; clear E a; intro a E
      iterate 2 (refine zm E rfl (fun w h => zAd E rfl rfl) ?_; clear E a; intro a E)
      refine zm E rfl (fun w h => by first | exact zBp E rfl rfl rfl rfl rfl rfl (by omega) | exact zBs E rfl rfl rfl rfl rfl rfl (by omega) | exact zBe E rfl rfl rfl rfl rfl rfl (by omega)) ?_; clear E a; intro a E
      refine zm E rfl (fun w h => zDj (vs := [_, _, _, _, _, _, _, _, _, _, _, _, _]) E rfl rfl rfl rfl (hDb.elem (lay := RV.lay) RV.lay_len (h.at m3) hil2)) ?_; clear E a; intro a E
      refine zGc E rfl rfl rfl (by decide) rfl Tryz.func13 rfl (by kernel_rfl) rfl (same_ret (hXa _ (List.getElem_mem hil)) (hXb _ (List.getElem_mem hil2)) (hs _ (List.getElem_mem hil)) _ m2 m4 _ S.hp) ?_
      rintro v26 w ⟨z, rfl, hz, hT⟩; clear E a; intro a E
      have S := S.all hT
      refine zCs E rfl rfl rfl (by decide) (fun w => zAe E rfl rfl) ?_; clear E a; intro a E
      refine zCd ?_
      refine zAf hK ?_; clear hK; clear K
      refine wp_seq_k ?_; intro K hK
      refine zAa ?_
      refine zp E (zAd E rfl rfl) ?_; clear E a; intro a E
      refine zp E (zDl E rfl rfl) ?_; clear E a; intro a E
      refine wpList_nil ?_
      refine zAf hK ?_; clear hK; clear K
      refine zBj E rfl (fun hb => ?_) (fun hb => ?_)
      · replace hb := Nrm.nrm hb
        refine wp_seq_k ?_; intro K hK
        refine zAa ?_
        refine zp E (zAe E rfl rfl) ?_; clear E a; intro a E
        refine wpList_nil ?_
        refine zAf hK ?_; clear hK; clear K
        refine wp_ret ?_
        refine zCi ?_
        refine zAv ?_; clear hK; clear K
        refine zAv ?_
        refine zCi ?_
        refine zAv ?_; clear hK; clear K
        refine ret1 E rfl rfl ?_
        exact ⟨_, rfl, _, rfl, ⟨fun q => Bool.noConfusion q, fun q => by have h3 := hz.2 (by rw [← g1, ← g2]; simp only [q]); simp [h3] at hb⟩, S.tr⟩
      · replace hb := Nrm.nrm hb
        refine wp_skip ?_
        refine zBo ?_
        refine zAf hK ?_; clear hK; clear K
        refine zAa ?_
        refine zp E (zAd E rfl rfl) ?_; clear E a; intro a E
        refine zp E (zCc E rfl rfl rfl (by first | exact zCt (y := 1) (by omega) | exact w_in (by omega) | exact zCb (by omega) | exact rfl)) ?_; clear E a; intro a E
        refine zp E (zAe E rfl rfl) ?_; clear E a; intro a E
        refine wpList_nil ?_
        refine zBn ?_
        exact ⟨_, by omega, i + 1, rfl, by omega, zJp he (by omega) (by omega) (by rw [g1, g2]; exact hz.1 (by simpa using hb)), S, E.keep (zAb rfl (zAb rfl (zAb rfl (zAb rfl zAr))))⟩
    · replace hb := Nrm.nrm hb
      refine wp_exit ?_
      refine zBf ?_; clear hK; clear K
      refine zBf ?_
      refine zCr ?_
      refine zAf hK ?_; clear hK; clear K
      refine wp_seq_k ?_; intro K hK
      refine zAa ?_
      refine zp E (zAe E rfl rfl) ?_; clear E a; intro a E
      refine wpList_nil ?_
      refine zAf hK ?_; clear hK; clear K
      refine wp_ret ?_
      refine ret1 E rfl rfl ?_
      exact ⟨_, rfl, _, rfl, ⟨fun _ => by rw [List.take_of_length_le (by omega), List.take_of_length_le (by omega)] at he; exact he, fun _ => rfl⟩, S.tr⟩
end Go.Proofs.YtbogecljkaimdaaGreatDoor
namespace Go.Sl
theorem sl_take {D : zAs} {ad : Option Addr} {c n : Nat} {b : List UInt8} (h : Rd D 1 (.slice ad b.length c) b.length (byt b)) (hc : b.length ≤ c) (hn : n ≤ b.length) :
    ∃ ad2, sliced ad 0 n c 1 = .slice ad2 (b.take n).length c ∧ Rd D 1 (.slice ad2 (b.take n).length c) (b.take n).length (byt (b.take n)) ∧ (b.take n).length ≤ c := by
  have hp := h.piece rfl (lo := 0) (hi := n) (mx := c) (Nat.zero_le _) hn (by omega)
  have hl : (b.take n).length = n := by rw [List.length_take]; omega
  simp only [Nat.mul_one, List.drop_zero, Nat.sub_zero, zHh] at hp
  have e : sliced ad 0 n c 1 = .slice (if c = 0 then ad else ad.map (·.add (0 * 1))) (b.take n).length c := by rw [hl]; rfl
  exact ⟨_, e, by rw [← e, hl]; exact hp, by omega⟩
end Go.Sl
namespace Go.Proofs.YtbogecljkaimdaaGreatDoor
open Go.Sl
set_option maxRecDepth 10000
def rec1 : Rec := { zDf 6 with many := 5 }
theorem rec1_ck : ckB rec1 = true := by rw [ck6 (.inl rfl), may6]; rfl
theorem rec1_rd (X : zAs) : RecR X rec1 nilv nilv nilv := ⟨Rd.nil _ _, Rd.nil _ _, Rd.nil _ _⟩
theorem rec1_sml : Sml rec1 := ⟨zCq, zCq, zCq, zGi, zCq, zCq⟩
theorem rec0_ck : ckE (zDf 6) = 200 := by
  have : ckB (zDf 6) = false := by rw [ck6 (.inl rfl), may6]; rfl
  simp [ckE, this]
theorem zeroR_rd (X : zAs) (k : Int) : RecR X (zDf k) nilv nilv nilv := ⟨Rd.nil _ _, Rd.nil _ _, Rd.nil _ _⟩
theorem zero_sml (k : Int) : Sml (zDf k) := ⟨zCq, zCq, zCq, zGi, zCq, zCq⟩
set_option maxHeartbeats 1000000 in
theorem awake_ret {As : List zAs} (hG : Tab As 2 shaK) (w0 : World) (H : Hp w0 As) :
    Ret Tryz.prog 9 #[] w0 fun u w' => u = .bool true ∧ Trs w0 w' As As := by
  have S := St.begin H
  have hGA : ∃ G ∈ As, ∃ T fr, ((2 : Nat), Obj.cells (u32s shaK).toArray T fr) ∈ G := hG
  obtain ⟨X, hXm, -⟩ := hGA
  have henc := encR_yes rec1_ck zEa
  have hdec := dec_enc rec1_ck zEa []
  rw [List.append_nil] at hdec
  obtain ⟨pb, hpb⟩ : ∃ pb, pb = zCz rec1.kind (zDk rec1.kind rec1) zEa := ⟨_, rfl⟩
  obtain ⟨own, hown⟩ : ∃ own, own = ownS rec1.kind (zDk rec1.kind rec1) zEa := ⟨_, rfl⟩
  have hpl : pb.length = 41 := by rw [hpb, zFc]; rfl
  have hp9 : pb.take 9 = [6, 4, 0, 0, 0, 5, 0, 0, 0] := by
    have e1 : (zGh rec1.kind (zDk rec1.kind rec1)) = [6, 4, 0, 0, 0, 5, 0, 0, 0] := by rfl
    rw [hpb, zCz, e1]; rfl
  rw [← hpb, ← hown] at henc hdec
  have hd4 : decR (pb.take 4) zEa = zHs 10 := dec_1 (by rw [List.length_take]; omega)
  rw [hpl] at hdec
  refine enter0 86 Tryz.func9 rfl rfl ?_; intro a E
  refine wp_seq_k ?_; intro K hK
  refine zAa ?_
  refine zp E (zAe E rfl rfl) ?_; clear E a; intro a E
  refine wpList_nil ?_
  refine zAf hK ?_; clear hK; clear K
  refine wp_seq_k ?_; intro K hK
  refine zAa ?_
  refine zp E (zCv (cells := [_, _, _, _, _, _, _, _, _, _, _, _, _]) E rfl rfl rfl) ?_; clear E a; intro a E
  refine zp E (zCv (cells := [_, _, _, _]) E rfl rfl rfl) ?_; clear E a; intro a E
  refine zAn E rfl rfl (by decide) rfl Tryz.func12 rfl (by kernel_rfl) rfl (zKi (r := rec1) (rec1_rd X) rec1_sml zEa (by repeat (first | exact hXm | apply List.Mem.tail)) (by repeat (first | exact hG | apply Tab.tail)) _ S.hp) ?_
  rintro v18 w h; clear E a; intro a E
  replace h := encP_Q h; rw [henc] at h; obtain ⟨v1, C1, rfl, hB1, hT⟩ := h; have S := S.all hT; simp only at hB1
  obtain ⟨ad1, c1, rfl⟩ := hB1.slice
  have hc1 := hB1.cap_le
  refine zp E (zAd E rfl rfl) ?_; clear E a; intro a E
  iterate 3 (refine zp E (zBh E rfl rfl rfl) ?_; clear E a; intro a E)
  refine zAm rfl (zBr E S rfl rfl (by decide) rfl rfl rfl ?_); clear E S a; intro a w b2 E S
  refine zp E (zAe E rfl rfl) ?_; clear E a; intro a E
  refine zAm rfl (zBd E S rfl rfl rfl rfl (by simp [Value.oneCell']) rfl (by repeat (first | exact pk1 | apply zAc)) (by simp) ?_); clear E S a; intro a w E S; simp only [List.take_succ_cons, List.take_zero, List.drop_succ_cons, List.drop_zero, List.cons_append, List.nil_append, List.append_nil, List.length_cons, List.length_nil, Nat.zero_add, Nat.add_zero] at S
  refine zp E (zAe E rfl rfl) ?_; clear E a; intro a E
  refine wpList_nil ?_
  refine zAf hK ?_; clear hK; clear K
  refine wp_seq_k ?_; intro K hK
  obtain ⟨a4, he4, hR4, hc4⟩ := sl_take (n := 4) hB1.rd hc1 (by omega)
  obtain ⟨a9, he9, hR9, hc9⟩ := sl_take (n := 9) hB1.rd hc1 (by omega)
  have h4l : (pb.take 4).length = 4 := by rw [List.length_take]; omega
  have h9l : (pb.take 9).length = 9 := by rw [List.length_take]; omega
  refine zAa ?_
  refine zp E (zAd E rfl rfl) ?_; clear E a; intro a E
  refine zp E (zAe E rfl rfl) ?_; clear E a; intro a E
  refine wpList_nil ?_
  refine zAf hK ?_; clear hK; clear K
  iterate 2 (refine wp_seq_k ?_; intro K hK)
  refine zAa ?_
  refine zp E (zAd E rfl rfl) ?_; clear E a; intro a E
  refine zp E (by first | exact zBv E rfl rfl rfl | exact zAx E rfl rfl rfl | exact zAp E rfl rfl rfl) ?_; clear E a; intro a E
  refine zp E (zEi E rfl rfl rfl) ?_; clear E a; intro a E
  refine wpList_nil ?_
  refine zAf hK ?_; clear hK; clear K
  refine zBy E rfl ((by rw [hpl]; rfl)) ?_
  refine zAa ?_
  refine zp E (zAd E rfl rfl) ?_; clear E a; intro a E
  refine zp E (zFq (hi := 4) (s := 1) E rfl rfl rfl rfl rfl rfl (by omega)) ?_; clear E a; intro a E
  rw [he4] at E
  have S := S.front1 (A := C1) (by repeat (first | exact pk1 | apply zAc))
  refine zp E (zAe E rfl rfl) ?_; clear E a; intro a E
  refine wpList_nil ?_
  refine zAf hK ?_; clear hK; clear K
  refine wp_seq_k ?_; intro K hK
  refine zAa ?_
  refine zp E (zAd E rfl rfl) ?_; clear E a; intro a E
  refine zp E (zCv (cells := [_, _, _, _]) E rfl rfl rfl) ?_; clear E a; intro a E
  refine zAn E rfl rfl (by decide) rfl Tryz.func19 rfl (by kernel_rfl) rfl (zHw C1 a4 c1 (pb.take 4) hR4 hc4 (by omega) zEa _ (by repeat (first | exact hG | apply Tab.tail)) _ S.hp) ?_
  rintro v31 w ⟨X4, p4, k4, d4, rfl, hX4, hT⟩; clear E a; intro a E
  rw [hd4] at E; have S := S.all hT; simp only [zHs, zDf, Rec.cells] at E
  rw [hd4] at hX4
  obtain ⟨q1, n1', rfl⟩ := hX4.rd.pr.slice
  obtain ⟨q2, n2', rfl⟩ := hX4.rd.kr.slice
  obtain ⟨q3, n3', rfl⟩ := hX4.rd.dr.slice
  refine zp E (zAd E rfl rfl) ?_; clear E a; intro a E
  iterate 4 (refine zp E (zBh E rfl rfl rfl) ?_; clear E a; intro a E)
  refine zAm rfl (zBr E S rfl rfl (by decide) rfl rfl rfl ?_); clear E S a; intro a w b5 E S
  refine zAm rfl (zBr E S rfl rfl (by decide) rfl rfl rfl ?_); clear E S a; intro a w b7 E S
  refine zAm rfl (zBd E S rfl rfl rfl rfl (by simp [Value.oneCell']) rfl (by repeat (first | exact pk1 | apply zAc)) (by simp) ?_); clear E S a; intro a w E S; simp only [List.take_succ_cons, List.take_zero, List.drop_succ_cons, List.drop_zero, List.cons_append, List.nil_append, List.append_nil, List.length_cons, List.length_nil, Nat.zero_add, Nat.add_zero] at S
  refine zp E (zAe E rfl rfl) ?_; clear E a; intro a E
  refine zAm rfl (zBd E S rfl rfl rfl rfl (by simp [Value.oneCell']) rfl (by repeat (first | exact pk1 | apply zAc)) (by simp) ?_); clear E S a; intro a w E S; simp only [List.take_succ_cons, List.take_zero, List.drop_succ_cons, List.drop_zero, List.cons_append, List.nil_append, List.append_nil, List.length_cons, List.length_nil, Nat.zero_add, Nat.add_zero] at S
  refine zp E (zAe E rfl rfl) ?_; clear E a; intro a E
  refine wpList_nil ?_
  refine zAf hK ?_; clear hK; clear K
  refine wp_seq_k ?_; intro K hK
  replace E := E.keep (e' := [(0, _), (1, _), (2, _), (3, _), (8, _)]) (zAb rfl (zAb rfl (zAb rfl (zAb rfl (zAb rfl (zAr))))))
  refine zAa ?_
  refine zp E (zAd E rfl rfl) ?_; clear E a; intro a E
  refine zp E (zCv (cells := [_, _, _, _]) E rfl rfl rfl) ?_; clear E a; intro a E
  have S := S.front1 (A := C1) (by repeat (first | exact pk1 | apply zAc))
  refine zAn E rfl rfl (by decide) rfl Tryz.func19 rfl (by kernel_rfl) rfl (zHw C1 ad1 c1 pb hB1.rd hc1 (by omega) zEa _ (by repeat (first | exact hG | apply Tab.tail)) _ S.hp) ?_
  rintro v39 w ⟨X5, p5, k5, d5, rfl, hX5, hT⟩; clear E a; intro a E
  rw [hdec] at E; have S := S.all hT; simp only [rec1, zDf, Rec.cells] at E
  rw [hdec] at hX5
  obtain ⟨q4, n4', rfl⟩ := hX5.rd.pr.slice
  obtain ⟨q5, n5', rfl⟩ := hX5.rd.kr.slice
  obtain ⟨q6, n6', rfl⟩ := hX5.rd.dr.slice
  refine zp E (zAd E rfl rfl) ?_; clear E a; intro a E
  iterate 4 (refine zp E (zBh E rfl rfl rfl) ?_; clear E a; intro a E)
  refine zAm rfl (zBr E S rfl rfl (by decide) rfl rfl rfl ?_); clear E S a; intro a w b9 E S
  refine zAm rfl (zBr E S rfl rfl (by decide) rfl rfl rfl ?_); clear E S a; intro a w b11 E S
  refine zAm rfl (zBd E S rfl rfl rfl rfl (by simp [Value.oneCell']) rfl (by repeat (first | exact pk1 | apply zAc)) (by simp) ?_); clear E S a; intro a w E S; simp only [List.take_succ_cons, List.take_zero, List.drop_succ_cons, List.drop_zero, List.cons_append, List.nil_append, List.append_nil, List.length_cons, List.length_nil, Nat.zero_add, Nat.add_zero] at S
  refine zp E (zAe E rfl rfl) ?_; clear E a; intro a E
  refine zAm rfl (zBd E S rfl rfl rfl rfl (by simp [Value.oneCell']) rfl (by repeat (first | exact pk1 | apply zAc)) (by simp) ?_); clear E S a; intro a w E S; simp only [List.take_succ_cons, List.take_zero, List.drop_succ_cons, List.drop_zero, List.cons_append, List.nil_append, List.append_nil, List.length_cons, List.length_nil, Nat.zero_add, Nat.add_zero] at S
  refine zp E (zAe E rfl rfl) ?_; clear E a; intro a E
  refine wpList_nil ?_
  refine zAf hK ?_; clear hK; clear K
  refine wp_seq_k ?_; intro K hK
  refine zAa ?_
  refine zp E (zCv (cells := [_, _, _, _, _, _, _, _, _, _, _, _, _]) E rfl rfl rfl) ?_; clear E a; intro a E
  refine zAn E rfl rfl (by decide) rfl Tryz.func11 rfl (by kernel_rfl) rfl (zHo (r := zDf 6) (zeroR_rd X 6) (zero_sml 6) (by repeat (first | exact hXm | apply List.Mem.tail)) _ S.hp) ?_
  rintro v45 w ⟨rfl, hT⟩; clear E a; intro a E
  rw [rec0_ck] at E; have S := S.all hT
  refine zp E (zAe E rfl rfl) ?_; clear E a; intro a E
  refine wpList_nil ?_
  refine zAf hK ?_; clear hK; clear K
  refine wp_seq_k ?_; intro K hK
  refine zAa ?_
  refine zp E (zAd E rfl rfl) ?_; clear E a; intro a E
  refine zp E (by first | exact zBv E rfl rfl rfl | exact zAx E rfl rfl rfl | exact zAp E rfl rfl rfl) ?_; clear E a; intro a E
  refine zp E (by first | exact zCe E rfl rfl rfl | exact zAt E rfl rfl rfl rfl | exact zAz E rfl rfl rfl rfl | exact zAu E rfl rfl rfl) ?_; clear E a; intro a E
  refine zp E (zAd E rfl rfl) ?_; clear E a; intro a E
  refine zCo E (t := 49) rfl ((by rw [hpl]; rfl)) (fun hb49 => ?_)
  refine zy E hb49 (zAd E rfl rfl) ?_; clear E a; intro a E
  refine zy E hb49 (zFq (hi := 9) (s := 1) E rfl rfl rfl rfl rfl rfl (by omega)) ?_; clear E a; intro a E
  rw [he9] at E
  refine zy E hb49 (zBz E rfl rfl rfl rfl rfl hR9 (S.stab.at (by repeat (first | exact mm1 | assumption | apply List.Mem.tail)))) ?_; clear E a; intro a E
  refine zy E hb49 (by first | exact zCe E rfl rfl rfl | exact zAt E rfl rfl rfl rfl | exact zAz E rfl rfl rfl rfl | exact zAu E rfl rfl rfl) ?_; clear E a; intro a E
  refine zp E (zAk E rfl rfl hb49 rfl) ?_; clear E a; intro a E
  refine zp E (zAd E rfl rfl) ?_; clear E a; intro a E
  refine zCo E (t := 55) rfl ((decide_eq_true hp9)) (fun hb55 => ?_)
  refine zy E hb55 (zAd E rfl rfl) ?_; clear E a; intro a E
  refine zy E hb55 (by first | exact zCe E rfl rfl rfl | exact zAt E rfl rfl rfl rfl | exact zAz E rfl rfl rfl rfl | exact zAu E rfl rfl rfl) ?_; clear E a; intro a E
  refine zp E (zAk E rfl rfl hb55 rfl) ?_; clear E a; intro a E
  refine zp E (zAd E rfl rfl) ?_; clear E a; intro a E
  refine zCo E (t := 59) rfl (rfl) (fun hb59 => ?_)
  refine zy E hb59 (zAd E rfl rfl) ?_; clear E a; intro a E
  refine zy E hb59 (by first | exact zCe E rfl rfl rfl | exact zAt E rfl rfl rfl rfl | exact zAz E rfl rfl rfl rfl | exact zAu E rfl rfl rfl) ?_; clear E a; intro a E
  refine zp E (zAk E rfl rfl hb59 rfl) ?_; clear E a; intro a E
  refine zp E (zAe E rfl rfl) ?_; clear E a; intro a E
  refine wpList_nil ?_
  refine zAf hK ?_; clear hK; clear K
  refine wp_seq_k ?_; intro K hK
  replace E := E.keep (e' := [(0, _), (2, _), (9, _), (10, _), (11, _), (12, _), (13, _), (14, _)]) (zAb rfl (zAb rfl (zAb rfl (zAb rfl (zAb rfl (zAb rfl (zAb rfl (zAb rfl (zAr)))))))))
  refine zAa ?_
  iterate 2 (refine zp E (zAd E rfl rfl) ?_; clear E a; intro a E)
  refine zCo E (t := 64) rfl (rfl) (fun hb64 => ?_)
  refine zy E hb64 (by first | exact zAg (q := 10) E rfl rfl rfl | exact zAh (q := 10) E rfl rfl rfl) ?_; clear E a; intro a E
  refine zy E hb64 (by first | exact zAq E rfl rfl rfl (S.get (by repeat (first | exact pk1 | apply zAc))) rfl | exact zAl E rfl rfl rfl (by assumption)) ?_; clear E a; intro a E
  refine zy E hb64 (by first | exact zCe E rfl rfl rfl | exact zAt E rfl rfl rfl rfl | exact zAz E rfl rfl rfl rfl | exact zAu E rfl rfl rfl) ?_; clear E a; intro a E
  refine zp E (zAk E rfl rfl hb64 rfl) ?_; clear E a; intro a E
  refine zp E (zAd E rfl rfl) ?_; clear E a; intro a E
  refine zCo E (t := 69) rfl (rfl) (fun hb69 => ?_)
  refine zy E hb69 (zAd E rfl rfl) ?_; clear E a; intro a E
  refine zy E hb69 (by first | exact zCe E rfl rfl rfl | exact zAt E rfl rfl rfl rfl | exact zAz E rfl rfl rfl rfl | exact zAu E rfl rfl rfl) ?_; clear E a; intro a E
  refine zp E (zAk E rfl rfl hb69 rfl) ?_; clear E a; intro a E
  refine zp E (zAd E rfl rfl) ?_; clear E a; intro a E
  refine zCo E (t := 73) rfl (rfl) (fun hb73 => ?_)
  iterate 2 (refine zy E hb73 (zBq (vs := [_, _, _, _]) E rfl rfl rfl (S.get (by repeat (first | exact pk1 | apply zAc))) rfl rfl) ?_; clear E a; intro a E)
  refine zy E hb73 (by first | exact rn_eql_pair E rfl rfl rfl rfl (by kernel_rfl) (by kernel_rfl) rfl rfl rfl | exact rn_eql_cells E rfl rfl rfl rfl (by kernel_rfl) (by kernel_rfl) rfl) ?_; clear E a; intro a E
  refine zp E (zAk E rfl rfl hb73 rfl) ?_; clear E a; intro a E
  refine zp E (zAd E rfl rfl) ?_; clear E a; intro a E
  refine zCo E (t := 78) rfl ((by simp)) (fun hb78 => ?_)
  refine zy E hb78 (zAd E rfl rfl) ?_; clear E a; intro a E
  refine zy E hb78 (by first | exact zCe E rfl rfl rfl | exact zAt E rfl rfl rfl rfl | exact zAz E rfl rfl rfl rfl | exact zAu E rfl rfl rfl) ?_; clear E a; intro a E
  refine zp E (zAk E rfl rfl hb78 rfl) ?_; clear E a; intro a E
  refine zp E (zAd E rfl rfl) ?_; clear E a; intro a E
  refine zCo E (t := 82) rfl (rfl) (fun hb82 => ?_)
  refine zy E hb82 (zAd E rfl rfl) ?_; clear E a; intro a E
  refine zy E hb82 (by first | exact zCe E rfl rfl rfl | exact zAt E rfl rfl rfl rfl | exact zAz E rfl rfl rfl rfl | exact zAu E rfl rfl rfl) ?_; clear E a; intro a E
  refine zp E (zAk E rfl rfl hb82 rfl) ?_; clear E a; intro a E
  refine zp E (zAe E rfl rfl) ?_; clear E a; intro a E
  refine wpList_nil ?_
  refine zAf hK ?_; clear hK; clear K
  refine wp_ret ?_
  refine ret1 E rfl rfl ?_
  exact ⟨_, rfl, rfl, by repeat (first | exact S.tr | replace S := S.tail)⟩
end Go.Proofs.YtbogecljkaimdaaGreatDoor
namespace Go.Proofs.YtbogecljkaimdaaGreatDoor
open Go.Sl
set_option maxRecDepth 10000
theorem strR_len (l : List Rec) : (strR l).2.length ≤ 1048576 := by
  by_cases h : (strR l).1 = 0
  · exact (str_rec h).2.1
  · rw [(str_err h).1]; simp
theorem recG_ck : ∀ (n : Nat) (b : List UInt8) (s : Fs) (acc : List Rec), b.length ≤ n → (∀ r ∈ acc, Sml r) → ∀ r ∈ (recG b s acc).2, Sml r := by
  intro n
  induction n with
  | zero =>
    intro b s acc hn h
    obtain rfl : b = [] := List.length_eq_zero_iff.1 (by omega)
    rw [zFo]; exact h
  | succ n ih =>
    intro b s acc hn h
    by_cases hb : b = []
    · subst hb; rw [zFo]; exact h
    · by_cases hd : (decR b s).1 = 0
      · rw [zJq acc hb hd]
        have ho := zKl hd
        have h1 := ho.n_
        have h2 := ho.len
        refine ih _ _ _ (by rw [List.length_drop]; omega) fun r hr => ?_
        rcases List.mem_append.1 hr with q | q
        · exact h r q
        · rw [List.mem_singleton.1 q]; exact dec_sml b s
      · rw [zIp acc hb hd]; intro r hr; cases hr
theorem recs_sml (b : List UInt8) : ∀ r ∈ (zFz b).2, Sml r := by
  unfold zFz
  split
  · intro r hr; cases hr
  · exact recG_ck _ b zEa [] (Nat.le_refl _) (by simp)
theorem recG_len : ∀ (n : Nat) (b : List UInt8) (s : Fs) (acc : List Rec), b.length ≤ n → (recG b s acc).2.length ≤ acc.length + b.length := by
  intro n
  induction n with
  | zero =>
    intro b s acc hn
    obtain rfl : b = [] := List.length_eq_zero_iff.1 (by omega)
    rw [zFo]; simp
  | succ n ih =>
    intro b s acc hn
    by_cases hb : b = []
    · subst hb; rw [zFo]; simp
    · by_cases hd : (decR b s).1 = 0
      · rw [zJq acc hb hd]
        have ho := zKl hd
        have h1 := ho.n_
        have h2 := ho.len
        have := ih (b.drop (decR b s).2.2.1) (decR b s).2.2.2 (acc ++ [(decR b s).2.1]) (by rw [List.length_drop]; omega)
        rw [List.length_drop, List.length_append, List.length_singleton] at this
        omega
      · rw [zIp acc hb hd]; simp
theorem recs_len (b : List UInt8) : (zFz b).2.length ≤ 1048576 := by
  unfold zFz
  split
  · simp
  · have := recG_len b.length b zEa [] (Nat.le_refl _)
    simp only [List.length_nil] at this
    omega
end Go.Proofs.YtbogecljkaimdaaGreatDoor
namespace Go.Proofs.YtbogecljkaimdaaGreatDoor
open Go.Sl
set_option maxRecDepth 10000
set_option maxHeartbeats 2000000 in
theorem back_walk (O : zAs) (hG : Tab [O] 2 shaK) (v : Value) (l : List RV) (hD : Rd O 13 v l.length (l.flatMap RV.lay)) (hX : RVs O l) (hs : ∀ x ∈ l, Sml x.r) (hl : l.length ≤ 1048576) (ad : Option Addr) (c : Nat) (b : List UInt8) (hB : Rd O 1 (.slice ad b.length c) b.length (byt b)) (hcap : b.length ≤ c) (w0 : World) (H : Hp w0 [O]) :
    Ret Tryz.prog 8 #[v, .slice ad b.length c] w0 fun u w' => u = .bool true ∧ Trs w0 w' [O] [O] := by
  have S := St.begin H
  obtain ⟨rs, hrs⟩ : ∃ rs, rs = l.map RV.r := ⟨_, rfl⟩
  have hrl : rs.length = l.length := by rw [hrs, List.length_map]
  have hal := strR_len rs
  have hsr := @str_rec rs
  have hse := @str_err rs
  have hsm := recs_sml b
  have hrl2 := recs_len b
  have hrb := @rec_str b
  obtain ⟨x, hx⟩ : ∃ x, x = strR rs := ⟨_, rfl⟩
  obtain ⟨y, hy⟩ : ∃ y, y = zFz b := ⟨_, rfl⟩
  rw [← hx] at hal hsr hse
  rw [← hy] at hsm hrl2 hrb
  obtain ⟨e1, bs⟩ := x
  obtain ⟨e2, l2⟩ := y
  simp only at hal hsr hse hsm hrl2 hrb
  have hal2 := strR_len l2
  obtain ⟨q, hq⟩ : ∃ q, q = strR l2 := ⟨_, rfl⟩
  rw [← hq] at hal2 hrb
  obtain ⟨e3, b3⟩ := q
  simp only at hal2 hrb
  obtain ⟨adl, cl, rfl⟩ := hD.slice
  refine zCg 104 Tryz.func8 rfl rfl (by decide) ?_; intro a E
  refine wp_seq_k ?_; intro K hK
  refine zAa ?_
  refine zp E (zAe E rfl rfl) ?_; clear E a; intro a E
  refine wpList_nil ?_
  refine zAf hK ?_; clear hK; clear K
  refine wp_seq_k ?_; intro K hK
  refine zAa ?_
  refine zAn E rfl rfl (by decide) rfl Tryz.func9 rfl (by kernel_rfl) rfl (awake_ret (by repeat (first | exact hG | apply Tab.tail)) _ S.hp) ?_
  rintro v18 w ⟨rfl, hT⟩; clear E a; intro a E
  have S := S.all hT
  refine zp E (zAe E rfl rfl) ?_; clear E a; intro a E
  refine wpList_nil ?_
  refine zAf hK ?_; clear hK; clear K
  refine wp_seq_k ?_; intro K hK
  refine zAa ?_
  refine zp E (zAe E rfl rfl) ?_; clear E a; intro a E
  refine wpList_nil ?_
  refine zAf hK ?_; clear hK; clear K
  iterate 2 (refine wp_seq_k ?_; intro K hK)
  refine zAa ?_
  refine zp E (zAe E rfl rfl) ?_; clear E a; intro a E
  refine wpList_nil ?_
  refine zAf hK ?_; clear hK; clear K
  refine wp_block ?_
  refine wp_loop_ghost (fun (m : Nat) (a : Act) (w' : World) => ∃ (i : Nat) (z : Bool), m = l.length - i ∧ i ≤ l.length ∧ (z = true ↔ ∀ k, ∀ h : k < rs.length, k < i → ckB rs[k] = true) ∧ St w0 [O] w' [O] ∧ Fr a 104 [(0, .slice adl l.length cl), (1, .slice ad b.length c), (4, .bool false), (5, .bool true), (6, .bool z), (7, .int .i64 i)]) (l.length) ?_ ?_
  · exact ⟨0, true, by omega, by omega, ⟨fun _ k _ h => by omega, fun _ => rfl⟩, S, E.keep (zAb rfl (zAb rfl (zAb rfl (zAb rfl (zAb rfl (zAb rfl zAr))))))⟩
  clear E; clear a; (try clear S); rintro m a w ⟨i, z, rfl, hi, hz, S, E⟩
  iterate 2 (refine wp_seq_k ?_; intro K hK)
  refine zAa ?_
  iterate 2 (refine zp E (zAd E rfl rfl) ?_; clear E a; intro a E)
  refine zp E (by first | exact zBv E rfl rfl rfl | exact zAx E rfl rfl rfl | exact zAp E rfl rfl rfl) ?_; clear E a; intro a E
  refine zp E (zCw E rfl rfl rfl) ?_; clear E a; intro a E
  refine wpList_nil ?_
  refine zAf hK ?_; clear hK; clear K
  refine zBj E rfl (fun hb => ?_) (fun hb => ?_)
  · replace hb := Nrm.nrm hb
    refine wp_skip ?_
    refine zAf hK ?_; clear hK; clear K
    refine wp_seq_k ?_; intro K hK
    refine wp_block ?_
    refine wp_seq_k ?_; intro K hK
    have hil : i < l.length := by omega
    have hri : rs[i]'(by omega) = l[i].r := by simp [hrs]
    obtain ⟨g, off, rfl⟩ := hD.addr (by omega)
    refine zAa ?_
    iterate 2 (refine zp E (zAd E rfl rfl) ?_; clear E a; intro a E)
    refine zp E (by first | exact zBp E rfl rfl rfl rfl rfl rfl (by omega) | exact zBs E rfl rfl rfl rfl rfl rfl (by omega) | exact zBe E rfl rfl rfl rfl rfl rfl (by omega)) ?_; clear E a; intro a E
    refine zp E (zDj (vs := [_, _, _, _, _, _, _, _, _, _, _, _, _]) E rfl rfl rfl rfl (hD.elem (lay := RV.lay) RV.lay_len (S.stab.at (by repeat (first | exact mm1 | assumption | apply List.Mem.tail))) hil)) ?_; clear E a; intro a E
    refine zAn E rfl rfl (by decide) rfl Tryz.func11 rfl (by kernel_rfl) rfl (zHo (hX _ (List.getElem_mem hil)) (hs _ (List.getElem_mem hil)) (by repeat (first | exact mm1 | assumption | apply List.Mem.tail)) _ S.hp) ?_
    rintro v29 w ⟨rfl, hT⟩; clear E a; intro a E
    have S := S.all hT
    refine zp E (zAe E rfl rfl) ?_; clear E a; intro a E
    refine wpList_nil ?_
    refine zAf hK ?_; clear hK; clear K
    refine zJa (fun (a : Act) (w' : World) => ∃ z2 : Bool, (z2 = true ↔ (z = true ∧ ckB l[i].r = true)) ∧ St w0 [O] w' [O] ∧ Fr a 104 [(0, .slice (some ⟨g, off, none⟩) l.length cl), (1, .slice ad b.length c), (4, .bool false), (5, .bool true), (6, .bool z2), (7, .int .i64 i)]) ?_ ?_
    · skip
      refine zAa ?_
      iterate 2 (refine zp E (zAd E rfl rfl) ?_; clear E a; intro a E)
      refine zAw E (t := 31) rfl (fun hb31 => ?_) (fun hb31 => ?_)
      · have hb31n := hb31; replace hb31n := Nrm.nrm hb31n
        refine zy E hb31 (zAd E rfl rfl) ?_; clear E a; intro a E
        refine zy E hb31 (by first | exact zCe E rfl rfl rfl | exact zAt E rfl rfl rfl rfl | exact zAz E rfl rfl rfl rfl | exact zAu E rfl rfl rfl) ?_; clear E a; intro a E
        refine zp E (zAk E rfl rfl hb31 rfl) ?_; clear E a; intro a E
        refine zp E (zAe E rfl rfl) ?_; clear E a; intro a E
        refine wpList_nil ?_
        refine zCf ?_
        refine ⟨_, ?_, S, E.keep (zAb rfl (zAb rfl (zAb rfl (zAb rfl (zAb rfl (zAb rfl zAr))))))⟩
        rw [hb31]
        cases hc : ckB l[i].r <;> simp [ckE, hc]
      · have hb31n := hb31; replace hb31n := Nrm.nrm hb31n
        iterate 2 (refine zn E hb31 ?_; clear E a; intro a E)
        refine zp E (zAj E rfl rfl hb31 rfl) ?_; clear E a; intro a E
        refine zp E (zAe E rfl rfl) ?_; clear E a; intro a E
        refine wpList_nil ?_
        refine zCf ?_
        refine ⟨_, ?_, S, E.keep (zAb rfl (zAb rfl (zAb rfl (zAb rfl (zAb rfl (zAb rfl zAr))))))⟩
        rw [hb31]
        simp
    · clear E S a; intro a w J; obtain ⟨z2, hz2, S, E⟩ := J
      refine zBo ?_
      refine zAf hK ?_; clear hK; clear K
      refine zAa ?_
      refine zp E (zAd E rfl rfl) ?_; clear E a; intro a E
      refine zp E (zCc E rfl rfl rfl (by first | exact zCt (y := 1) (by omega) | exact w_in (by omega) | exact zCb (by omega) | exact rfl)) ?_; clear E a; intro a E
      refine zp E (zAe E rfl rfl) ?_; clear E a; intro a E
      refine wpList_nil ?_
      refine zBn ?_
      refine ⟨_, by omega, i + 1, z2, rfl, by omega, ?_, S, E.keep (zAb rfl (zAb rfl (zAb rfl (zAb rfl (zAb rfl (zAb rfl zAr))))))⟩
      rw [hz2, hz, ← hri]
      constructor
      · rintro ⟨h1, h2⟩ k hk hki
        by_cases e : k = i
        · subst e; exact h2
        · exact h1 k hk (by omega)
      · intro h
        exact ⟨fun k hk hki => h k hk (by omega), h i (by omega) (by omega)⟩
  · replace hb := Nrm.nrm hb
    refine wp_exit ?_
    refine zBf ?_; clear hK; clear K
    refine zBf ?_
    refine zCr ?_
    refine zAf hK ?_; clear hK; clear K
    refine wp_seq_k ?_; intro K hK
    obtain rfl : i = l.length := by omega
    have hall : z = true ↔ ∀ r ∈ rs, ckB r = true := by
      rw [hz]
      exact ⟨fun h r hr => by obtain ⟨k, hk, rfl⟩ := List.getElem_of_mem hr; exact h k hk (by omega), fun h k hk _ => h _ (List.getElem_mem hk)⟩
    refine zAa ?_
    refine zp E (zAd E rfl rfl) ?_; clear E a; intro a E
    refine zAn E rfl rfl (by decide) rfl Tryz.func23 rfl (by kernel_rfl) rfl (zHx hD hX hs hl rs hrs (by repeat (first | exact mm1 | assumption | apply List.Mem.tail)) (by repeat (first | exact mm1 | assumption | apply List.Mem.tail)) (by repeat (first | exact hG | apply Tab.tail)) _ S.hp) ?_
    rintro v37 w ⟨v1, C1, he, hC1, hT⟩; clear E a; intro a E
    rw [← hx] at he hC1; simp only at he hC1; subst he; have S := S.all hT; obtain ⟨a1, n1', rfl⟩ := hC1.slice; have hc1 := hC1.cap_le
    refine zp E (zAd E rfl rfl) ?_; clear E a; intro a E
    iterate 2 (refine zp E (zBh E rfl rfl rfl) ?_; clear E a; intro a E)
    iterate 2 (refine zp E (zAe E rfl rfl) ?_; clear E a; intro a E)
    refine wpList_nil ?_
    refine zAf hK ?_; clear hK; clear K
    iterate 2 (refine wp_seq_k ?_; intro K hK)
    refine zAa ?_
    refine zp E (zAd E rfl rfl) ?_; clear E a; intro a E
    refine zp E (by first | exact zCe E rfl rfl rfl | exact zAt E rfl rfl rfl rfl | exact zAz E rfl rfl rfl rfl | exact zAu E rfl rfl rfl) ?_; clear E a; intro a E
    refine wpList_nil ?_
    refine zAf hK ?_; clear hK; clear K
    refine zBj E rfl (fun hb => ?_) (fun hb => ?_)
    · replace hb := Nrm.nrm hb
      obtain ⟨h1, h2, h3⟩ := hsr hb; have hzt := hall.2 h1; subst hzt
      refine wp_seq_k ?_; intro K hK
      refine zAa ?_
      refine zp E (zAd E rfl rfl) ?_; clear E a; intro a E
      refine zAn E rfl rfl (by decide) rfl Tryz.func20 rfl (by kernel_rfl) rfl (zHd C1 a1 n1' bs hC1.rd hc1 (by repeat (first | exact mm1 | assumption | apply List.Mem.tail)) (by repeat (first | exact hG | apply Tab.tail)) _ S.hp) ?_
      rintro v44 w ⟨v3, C3, X3, L3, he, hC3, hX3, hm3, hT⟩; clear E a; intro a E
      rw [h3] at he hm3; simp only at he hm3; subst he; have S := S.all hT
      refine zp E (zAd E rfl rfl) ?_; clear E a; intro a E
      iterate 2 (refine zp E (zBh E rfl rfl rfl) ?_; clear E a; intro a E)
      iterate 2 (refine zp E (zAe E rfl rfl) ?_; clear E a; intro a E)
      refine wpList_nil ?_
      refine zAf hK ?_; clear hK; clear K
      refine wp_seq_k ?_; intro K hK
      replace E := E.keep (e' := [(0, _), (1, _), (4, _), (5, _), (6, _), (9, _), (10, _), (11, _), (12, _)]) (zAb rfl (zAb rfl (zAb rfl (zAb rfl (zAb rfl (zAb rfl (zAb rfl (zAb rfl (zAb rfl (zAr))))))))))
      refine zAa ?_
      iterate 2 (refine zp E (zAd E rfl rfl) ?_; clear E a; intro a E)
      refine zAn E rfl rfl (by decide) rfl Tryz.func22 rfl (by kernel_rfl) rfl (usameall_ret hD hX hC3.rd hX3 hs hl rs rs hrs hm3.symm (by repeat (first | exact mm1 | assumption | apply List.Mem.tail)) (by repeat (first | exact mm1 | assumption | apply List.Mem.tail)) (by repeat (first | exact mm1 | assumption | apply List.Mem.tail)) (by repeat (first | exact mm1 | assumption | apply List.Mem.tail)) _ S.hp) ?_
      rintro v49 w ⟨zz, rfl, hzz, hT⟩; clear E a; intro a E
      obtain rfl := hzz.2 rfl; have S := S.all hT
      refine zp E (zAe E rfl rfl) ?_; clear E a; intro a E
      refine wpList_nil ?_
      refine zAf hK ?_; clear hK; clear K
      refine wp_seq_k ?_; intro K hK
      refine zAa ?_
      refine zp E (zAd E rfl rfl) ?_; clear E a; intro a E
      refine zp E (zDl E rfl rfl) ?_; clear E a; intro a E
      refine zp E (zAd E rfl rfl) ?_; clear E a; intro a E
      refine zEf E (t := 52) rfl (rfl) (fun hb52 => ?_)
      refine zy E hb52 (zAd E rfl rfl) ?_; clear E a; intro a E
      refine zy E hb52 (by first | exact zDa E rfl rfl rfl | exact zBc E rfl rfl rfl rfl | exact zBl E rfl rfl rfl rfl | exact zBg E rfl rfl rfl) ?_; clear E a; intro a E
      refine zp E (zAj E rfl rfl hb52 rfl) ?_; clear E a; intro a E
      refine zp E (zAd E rfl rfl) ?_; clear E a; intro a E
      refine zEf E (t := 56) rfl (rfl) (fun hb56 => ?_)
      refine zy E hb56 (zAd E rfl rfl) ?_; clear E a; intro a E
      refine zy E hb56 (zDl E rfl rfl) ?_; clear E a; intro a E
      refine zp E (zAj E rfl rfl hb56 rfl) ?_; clear E a; intro a E
      refine zp E (zAd E rfl rfl) ?_; clear E a; intro a E
      refine zEf E (t := 60) rfl (rfl) (fun hb60 => ?_)
      refine zy E hb60 (zAd E rfl rfl) ?_; clear E a; intro a E
      refine zy E hb60 (by first | exact zBv E rfl rfl rfl | exact zAx E rfl rfl rfl | exact zAp E rfl rfl rfl) ?_; clear E a; intro a E
      refine zy E hb60 (zEi E rfl rfl rfl) ?_; clear E a; intro a E
      refine zp E (zAj E rfl rfl hb60 rfl) ?_; clear E a; intro a E
      refine wpList_nil ?_
      refine zAf hK ?_; clear hK; clear K
      refine zCl E rfl ((by simp; omega)) ?_
      refine wp_skip ?_
      refine zAf hK ?_; clear hK; clear K
      iterate 2 (refine wp_seq_k ?_; intro K hK)
      replace E := E.keep (e' := [(1, _), (4, _), (5, _), (6, _), (9, _), (10, _)]) (zAb rfl (zAb rfl (zAb rfl (zAb rfl (zAb rfl (zAb rfl (zAr)))))))
      refine zAa ?_
      refine zp E (zAd E rfl rfl) ?_; clear E a; intro a E
      refine zp E (by first | exact zDa E rfl rfl rfl | exact zBc E rfl rfl rfl rfl | exact zBl E rfl rfl rfl rfl | exact zBg E rfl rfl rfl) ?_; clear E a; intro a E
      refine zp E (zAd E rfl rfl) ?_; clear E a; intro a E
      refine zEf E (t := 67) rfl ((by simp [hb])) (fun hb67 => ?_)
      iterate 4 (refine zn E hb67 ?_; clear E a; intro a E)
      iterate 4 (refine zu E ?_; clear E a; intro a E)
      refine zn E hb67 ?_; clear E a; intro a E
      refine zp E (zAj E rfl rfl hb67 rfl) ?_; clear E a; intro a E
      refine wpList_nil ?_
      refine zAf hK ?_; clear hK; clear K
      refine zCl E rfl rfl ?_
      refine wp_skip ?_
      refine zAf hK ?_; clear hK; clear K
      refine wp_seq_k ?_; intro K hK
      refine zAa ?_
      refine zp E (zAd E rfl rfl) ?_; clear E a; intro a E
      refine zAn E rfl rfl (by decide) rfl Tryz.func20 rfl (by kernel_rfl) rfl (zHd O ad c b hB hcap (by repeat (first | exact mm1 | assumption | apply List.Mem.tail)) (by repeat (first | exact hG | apply Tab.tail)) _ S.hp) ?_
      rintro v80 w ⟨v4, C4, X4, L4, he, hC4, hX4, hm4, hT⟩; clear E a; intro a E
      rw [← hy] at he hm4; simp only at he hm4; subst he; have S := S.all hT
      refine zp E (zAd E rfl rfl) ?_; clear E a; intro a E
      iterate 2 (refine zp E (zBh E rfl rfl rfl) ?_; clear E a; intro a E)
      iterate 2 (refine zp E (zAe E rfl rfl) ?_; clear E a; intro a E)
      refine wpList_nil ?_
      refine zAf hK ?_; clear hK; clear K
      refine wp_seq_k ?_; intro K hK
      replace E := E.keep (e' := [(1, _), (4, _), (5, _), (14, _), (15, _)]) (zAb rfl (zAb rfl (zAb rfl (zAb rfl (zAb rfl (zAr))))))
      refine zAa ?_
      refine zp E (zAd E rfl rfl) ?_; clear E a; intro a E
      refine zAn E rfl rfl (by decide) rfl Tryz.func23 rfl (by kernel_rfl) rfl (zHx hC4.rd hX4 (fun x hx => hsm _ (by rw [← hm4]; exact List.mem_map_of_mem hx)) (by have := congrArg List.length hm4; rw [List.length_map] at this; omega) l2 hm4.symm (by repeat (first | exact mm1 | assumption | apply List.Mem.tail)) (by repeat (first | exact mm1 | assumption | apply List.Mem.tail)) (by repeat (first | exact hG | apply Tab.tail)) _ S.hp) ?_
      rintro v85 w ⟨v5, C5, he, hC5, hT⟩; clear E a; intro a E
      rw [← hq] at he hC5; simp only at he hC5; subst he; have S := S.all hT
      refine zp E (zAd E rfl rfl) ?_; clear E a; intro a E
      iterate 2 (refine zp E (zBh E rfl rfl rfl) ?_; clear E a; intro a E)
      iterate 2 (refine zp E (zAe E rfl rfl) ?_; clear E a; intro a E)
      refine wpList_nil ?_
      refine zAf hK ?_; clear hK; clear K
      refine wp_seq_k ?_; intro K hK
      refine zAa ?_
      iterate 2 (refine zp E (zAd E rfl rfl) ?_; clear E a; intro a E)
      refine zCo E (t := 89) rfl (rfl) (fun hb89 => ?_)
      refine zy E hb89 (zAd E rfl rfl) ?_; clear E a; intro a E
      refine zy E hb89 (by first | exact zDa E rfl rfl rfl | exact zBc E rfl rfl rfl rfl | exact zBl E rfl rfl rfl rfl | exact zBg E rfl rfl rfl) ?_; clear E a; intro a E
      refine zy E hb89 (zAd E rfl rfl) ?_; clear E a; intro a E
      refine zAw E (t := 92) rfl (fun hb92 => ?_) (fun hb92 => ?_)
      · have hb92n := hb92; replace hb92n := Nrm.nrm hb92n
        iterate 3 (refine zn E hb92 ?_; clear E a; intro a E)
        iterate 5 (refine zu E ?_; clear E a; intro a E)
        refine zn E hb92 ?_; clear E a; intro a E
        refine zy E hb89 (zAk E rfl rfl hb92 rfl) ?_; clear E a; intro a E
        refine zp E (zAk E rfl rfl hb89 rfl) ?_; clear E a; intro a E
        refine zp E (zAe E rfl rfl) ?_; clear E a; intro a E
        refine wpList_nil ?_
        refine zAf hK ?_; clear hK; clear K
        refine wp_ret ?_
        refine ret1 E rfl rfl ?_
        exact ⟨_, rfl, by first | rfl | simp, by repeat (first | exact S.tr | replace S := S.tail)⟩
      · have hb92n := hb92; replace hb92n := Nrm.nrm hb92n
        have hok2 := hrb hb92n; simp only [Prod.mk.injEq] at hok2; obtain ⟨rfl, rfl⟩ := hok2
        refine zy E hb92 (zAd E rfl rfl) ?_; clear E a; intro a E
        refine zy E hb92 (by first | exact zCe E rfl rfl rfl | exact zAt E rfl rfl rfl rfl | exact zAz E rfl rfl rfl rfl | exact zAu E rfl rfl rfl) ?_; clear E a; intro a E
        refine zy E hb92 (zAd E rfl rfl) ?_; clear E a; intro a E
        refine zCo E (t := 95) rfl (rfl) (fun hb95 => ?_)
        refine zy E hb95 (zAd E rfl rfl) ?_; clear E a; intro a E
        refine zy E hb95 (zBz E rfl rfl rfl rfl rfl hC5.rd (S.stab.at (by repeat (first | exact mm1 | assumption | apply List.Mem.tail)))) ?_; clear E a; intro a E
        refine zy E hb95 (zAd E rfl rfl) ?_; clear E a; intro a E
        refine zy E hb95 (zBz E rfl rfl rfl rfl rfl hB (S.stab.at (by repeat (first | exact mm1 | assumption | apply List.Mem.tail)))) ?_; clear E a; intro a E
        refine zy E hb95 (by first | exact zCe E rfl rfl rfl | exact zAt E rfl rfl rfl rfl | exact zAz E rfl rfl rfl rfl | exact zAu E rfl rfl rfl) ?_; clear E a; intro a E
        refine zy E hb92 (zAk E rfl rfl hb95 rfl) ?_; clear E a; intro a E
        refine zy E hb89 (zAj E rfl rfl hb92 rfl) ?_; clear E a; intro a E
        refine zp E (zAk E rfl rfl hb89 rfl) ?_; clear E a; intro a E
        refine zp E (zAe E rfl rfl) ?_; clear E a; intro a E
        refine wpList_nil ?_
        refine zAf hK ?_; clear hK; clear K
        refine wp_ret ?_
        refine ret1 E rfl rfl ?_
        exact ⟨_, rfl, by first | rfl | simp, by repeat (first | exact S.tr | replace S := S.tail)⟩
    · replace hb := Nrm.nrm hb
      obtain ⟨h1, h2⟩ := hse hb; subst h1
      refine wp_skip ?_
      refine zAf hK ?_; clear hK; clear K
      iterate 2 (refine wp_seq_k ?_; intro K hK)
      refine zAa ?_
      refine zp E (zAd E rfl rfl) ?_; clear E a; intro a E
      refine zp E (by first | exact zDa E rfl rfl rfl | exact zBc E rfl rfl rfl rfl | exact zBl E rfl rfl rfl rfl | exact zBg E rfl rfl rfl) ?_; clear E a; intro a E
      refine zp E (zAd E rfl rfl) ?_; clear E a; intro a E
      refine zCo E (t := 67) rfl ((by simp [hb])) (fun hb67 => ?_)
      refine zy E hb67 (zAd E rfl rfl) ?_; clear E a; intro a E
      refine zy E hb67 (by first | exact zBv E rfl rfl rfl | exact zAx E rfl rfl rfl | exact zAp E rfl rfl rfl) ?_; clear E a; intro a E
      refine zy E hb67 (zEi E rfl rfl rfl) ?_; clear E a; intro a E
      refine zy E hb67 (zAd E rfl rfl) ?_; clear E a; intro a E
      refine zEf E (t := 71) rfl ((by simp)) (fun hb71 => ?_)
      iterate 2 (refine zy E hb71 (zAd E rfl rfl) ?_; clear E a; intro a E)
      refine zy E hb71 (by first | exact zCe E rfl rfl rfl | exact zAt E rfl rfl rfl rfl | exact zAz E rfl rfl rfl rfl | exact zAu E rfl rfl rfl) ?_; clear E a; intro a E
      refine zy E hb71 (by first | exact zDa E rfl rfl rfl | exact zBc E rfl rfl rfl rfl | exact zBl E rfl rfl rfl rfl | exact zBg E rfl rfl rfl) ?_; clear E a; intro a E
      refine zy E hb67 (zAj E rfl rfl hb71 rfl) ?_; clear E a; intro a E
      refine zp E (zAk E rfl rfl hb67 rfl) ?_; clear E a; intro a E
      refine wpList_nil ?_
      refine zAf hK ?_; clear hK; clear K
      refine zCl E rfl ((by cases z with | true => have := h2.1 (hall.1 rfl); simp [this] | false => have : e1 ≠ 2 := (fun q => by have := hall.2 (h2.2 q); cases this); simp [this])) ?_
      refine wp_skip ?_
      refine zAf hK ?_; clear hK; clear K
      refine wp_seq_k ?_; intro K hK
      replace E := E.keep (e' := [(1, _), (4, _), (5, _)]) (zAb rfl (zAb rfl (zAb rfl (zAr))))
      refine zAa ?_
      refine zp E (zAd E rfl rfl) ?_; clear E a; intro a E
      refine zAn E rfl rfl (by decide) rfl Tryz.func20 rfl (by kernel_rfl) rfl (zHd O ad c b hB hcap (by repeat (first | exact mm1 | assumption | apply List.Mem.tail)) (by repeat (first | exact hG | apply Tab.tail)) _ S.hp) ?_
      rintro v80 w ⟨v4, C4, X4, L4, he, hC4, hX4, hm4, hT⟩; clear E a; intro a E
      rw [← hy] at he hm4; simp only at he hm4; subst he; have S := S.all hT
      refine zp E (zAd E rfl rfl) ?_; clear E a; intro a E
      iterate 2 (refine zp E (zBh E rfl rfl rfl) ?_; clear E a; intro a E)
      iterate 2 (refine zp E (zAe E rfl rfl) ?_; clear E a; intro a E)
      refine wpList_nil ?_
      refine zAf hK ?_; clear hK; clear K
      refine wp_seq_k ?_; intro K hK
      refine zAa ?_
      refine zp E (zAd E rfl rfl) ?_; clear E a; intro a E
      refine zAn E rfl rfl (by decide) rfl Tryz.func23 rfl (by kernel_rfl) rfl (zHx hC4.rd hX4 (fun x hx => hsm _ (by rw [← hm4]; exact List.mem_map_of_mem hx)) (by have := congrArg List.length hm4; rw [List.length_map] at this; omega) l2 hm4.symm (by repeat (first | exact mm1 | assumption | apply List.Mem.tail)) (by repeat (first | exact mm1 | assumption | apply List.Mem.tail)) (by repeat (first | exact hG | apply Tab.tail)) _ S.hp) ?_
      rintro v85 w ⟨v5, C5, he, hC5, hT⟩; clear E a; intro a E
      rw [← hq] at he hC5; simp only at he hC5; subst he; have S := S.all hT
      refine zp E (zAd E rfl rfl) ?_; clear E a; intro a E
      iterate 2 (refine zp E (zBh E rfl rfl rfl) ?_; clear E a; intro a E)
      iterate 2 (refine zp E (zAe E rfl rfl) ?_; clear E a; intro a E)
      refine wpList_nil ?_
      refine zAf hK ?_; clear hK; clear K
      refine wp_seq_k ?_; intro K hK
      refine zAa ?_
      iterate 2 (refine zp E (zAd E rfl rfl) ?_; clear E a; intro a E)
      refine zCo E (t := 89) rfl (rfl) (fun hb89 => ?_)
      refine zy E hb89 (zAd E rfl rfl) ?_; clear E a; intro a E
      refine zy E hb89 (by first | exact zDa E rfl rfl rfl | exact zBc E rfl rfl rfl rfl | exact zBl E rfl rfl rfl rfl | exact zBg E rfl rfl rfl) ?_; clear E a; intro a E
      refine zy E hb89 (zAd E rfl rfl) ?_; clear E a; intro a E
      refine zAw E (t := 92) rfl (fun hb92 => ?_) (fun hb92 => ?_)
      · have hb92n := hb92; replace hb92n := Nrm.nrm hb92n
        iterate 3 (refine zn E hb92 ?_; clear E a; intro a E)
        iterate 5 (refine zu E ?_; clear E a; intro a E)
        refine zn E hb92 ?_; clear E a; intro a E
        refine zy E hb89 (zAk E rfl rfl hb92 rfl) ?_; clear E a; intro a E
        refine zp E (zAk E rfl rfl hb89 rfl) ?_; clear E a; intro a E
        refine zp E (zAe E rfl rfl) ?_; clear E a; intro a E
        refine wpList_nil ?_
        refine zAf hK ?_; clear hK; clear K
        refine wp_ret ?_
        refine ret1 E rfl rfl ?_
        exact ⟨_, rfl, by first | rfl | simp, by repeat (first | exact S.tr | replace S := S.tail)⟩
      · have hb92n := hb92; replace hb92n := Nrm.nrm hb92n
        have hok2 := hrb hb92n; simp only [Prod.mk.injEq] at hok2; obtain ⟨rfl, rfl⟩ := hok2
        refine zy E hb92 (zAd E rfl rfl) ?_; clear E a; intro a E
        refine zy E hb92 (by first | exact zCe E rfl rfl rfl | exact zAt E rfl rfl rfl rfl | exact zAz E rfl rfl rfl rfl | exact zAu E rfl rfl rfl) ?_; clear E a; intro a E
        refine zy E hb92 (zAd E rfl rfl) ?_; clear E a; intro a E
        refine zCo E (t := 95) rfl (rfl) (fun hb95 => ?_)
        refine zy E hb95 (zAd E rfl rfl) ?_; clear E a; intro a E
        refine zy E hb95 (zBz E rfl rfl rfl rfl rfl hC5.rd (S.stab.at (by repeat (first | exact mm1 | assumption | apply List.Mem.tail)))) ?_; clear E a; intro a E
        refine zy E hb95 (zAd E rfl rfl) ?_; clear E a; intro a E
        refine zy E hb95 (zBz E rfl rfl rfl rfl rfl hB (S.stab.at (by repeat (first | exact mm1 | assumption | apply List.Mem.tail)))) ?_; clear E a; intro a E
        refine zy E hb95 (by first | exact zCe E rfl rfl rfl | exact zAt E rfl rfl rfl rfl | exact zAz E rfl rfl rfl rfl | exact zAu E rfl rfl rfl) ?_; clear E a; intro a E
        refine zy E hb92 (zAk E rfl rfl hb95 rfl) ?_; clear E a; intro a E
        refine zy E hb89 (zAj E rfl rfl hb92 rfl) ?_; clear E a; intro a E
        refine zp E (zAk E rfl rfl hb89 rfl) ?_; clear E a; intro a E
        refine zp E (zAe E rfl rfl) ?_; clear E a; intro a E
        refine wpList_nil ?_
        refine zAf hK ?_; clear hK; clear K
        refine wp_ret ?_
        refine ret1 E rfl rfl ?_
        exact ⟨_, rfl, by first | rfl | simp, by repeat (first | exact S.tr | replace S := S.tail)⟩
end Go.Proofs.YtbogecljkaimdaaGreatDoor
namespace Go.Sl
structure PV where
  v : Value
  bs : List UInt8
def PV.lay (x : PV) : List Value := [x.v]
theorem PV.lay_len (x : PV) : x.lay.length = 1 := rfl
def PVs (X : zAs) (l : List PV) : Prop := ∀ x ∈ l, Rd X 1 x.v x.bs.length (byt x.bs) ∧ x.bs.length ≤ 2085
theorem PVs.sub {C D : zAs} {l : List PV} (h : PVs C l) (hs : ∀ x ∈ C, x ∈ D) : PVs D l := fun x hx => ⟨(h x hx).1.sub hs, (h x hx).2⟩
theorem PVs.set {X : zAs} {l : List PV} (h : PVs X l) (i : Nat) {y : PV} (hy : y ∈ l) : PVs X (l.set i y) := fun x hx => by
  rcases List.mem_or_eq_of_mem_set hx with q | q
  · exact h x q
  · rw [q]; exact h y hy
end Go.Sl
namespace Go.Proofs.YtbogecljkaimdaaGreatDoor
open Go.Sl
set_option maxRecDepth 10000
end Go.Proofs.YtbogecljkaimdaaGreatDoor
namespace Go.Sl
open Go.ChangeShapes Go.WideShapes Go.ChangeAt Go.RowKit Go.ChangeMaps
def old (w : World) : zAs := w.heap.toList.zipIdx.map fun x => (x.2, x.1)
theorem mem_old {w : World} {b : Nat} {o : Obj} (h : w.heap[b]? = some o) : (b, o) ∈ old w := by
  refine List.mem_map.2 ⟨(o, b), ?_, rfl⟩
  rw [List.mem_zipIdx_iff_getElem?]
  simpa using h
theorem old_own (w : World) : Own w (old w) := by
  refine ⟨?_, fun x hx => ?_⟩
  · have : (old w).map (·.1) = List.range' 0 w.heap.toList.length := by simp [old, Function.comp_def]
    rw [this]; exact List.nodup_range'
  · obtain ⟨y, hy, rfl⟩ := List.mem_map.1 hx
    rw [List.mem_zipIdx_iff_getElem?] at hy
    simpa using hy
theorem hp_old (w : World) : Hp w [old w] := by simpa [Hp] using old_own w
theorem below_old {w w' : World} {Bs : List zAs} (h : Trs w w' [old w] (old w :: Bs)) : Below w.heap.size w w' :=
  ⟨h.os, h.tape, h.output, h.size, fun k hk => by
    have e : w.heap[k]? = some w.heap[k] := Array.getElem?_eq_getElem hk
    rw [e]
    have h1 := h.own [] (by simpa using old_own w)
    exact h1.2 (k, w.heap[k]) (by simp [mem_old e])⟩
def Dec {H : Type} (enc : TypeId × Value → H) (P : Program) (w : World) (e : TypeId) (s : Nat) {α : Type} (lay : α → List Value) (good : α → Prop) : Prop :=
  ∀ n cs x, DataW.trod enc P w 0 (fun _ => true) true n e cs = some x → cs.length = s → (x.1.weights P e).all (· ≤ reachBytes) = true → ∃ a, cs = lay a ∧ good a
section
variable {H : Type} {enc : TypeId × Value → H} {P : Program} {w : World} {t e : TypeId} {s : Nat} {α : Type} {lay : α → List Value} {good : α → Prop}
theorem Dec.imp {good' : α → Prop} (h : Dec enc P w e s lay good) (k : ∀ a, good a → good' a) : Dec enc P w e s lay good' := fun n cs x h1 h2 h3 => by
  obtain ⟨a, h4, h5⟩ := h n cs x h1 h2 h3
  exact ⟨a, h4, k a h5⟩
theorem Dec.map {β : Type} {lay' : β → List Value} {good' : β → Prop} (h : Dec enc P w e s lay good) (k : ∀ a, good a → ∃ b, lay a = lay' b ∧ good' b) : Dec enc P w e s lay' good' := fun n cs x h1 h2 h3 => by
  obtain ⟨a, h4, h5⟩ := h n cs x h1 h2 h3
  obtain ⟨b, h6, h7⟩ := k a h5
  exact ⟨b, h4.trans h6, h7⟩
theorem dec_int {k : IntKind} (ht : P.underlying t = some (.int k)) : Dec enc P w t 1 (fun z => [.int k z]) (fun z => (Lit.int k z).wf = true) := fun n cs x h _ _ => by
  obtain ⟨z, h1, _, h2⟩ := DataW.trod_int ht h
  exact ⟨z, h1, h2⟩
theorem zFx (ht : P.underlying t = some (.int .i64)) : Dec enc P w t 1 (fun z => [.int .i64 z]) (fun z => -9223372036854775808 ≤ z ∧ z ≤ 9223372036854775807) :=
  (dec_int ht).imp fun z hz => by simpa [Lit.wf, IntKind.min, IntKind.max, IntKind.signed, IntKind.bits] using hz
theorem dec_u8 (ht : P.underlying t = some (.int .u8)) : Dec enc P w t 1 (fun b : UInt8 => [.int .u8 b.toNat]) (fun _ => True) :=
  (dec_int ht).map fun z hz => by
    have hz : 0 ≤ z ∧ z ≤ 255 := by simpa [Lit.wf, IntKind.min, IntKind.max, IntKind.signed, IntKind.bits] using hz
    refine ⟨UInt8.ofNat z.toNat, ?_, trivial⟩
    have : (UInt8.ofNat z.toNat).toNat = z.toNat := by simp; omega
    rw [this, Int.toNat_of_nonneg hz.1]
theorem zGw : ∀ {ds : List (DataW H)} {d : DataW H}, d ∈ ds → ∀ n ∈ d.weights P e, n ∈ DataW.weightsAll P e ds
  | d0 :: ds, d, hd, n, hn => by
    simp only [DataW.weightsAll, List.mem_append]
    rcases List.mem_cons.1 hd with rfl | hd
    · exact .inl hn
    · exact .inr (zGw hd n hn)
  | [], _, hd, _, _ => by cases hd
theorem list_of {n : Nat} {p : Nat → α → Prop} (h : ∀ i, i < n → ∃ a, p i a) : ∃ asx : List α, asx.length = n ∧ ∀ i a, asx[i]? = some a → p i a := by
  induction n with
  | zero => exact ⟨[], rfl, by simp⟩
  | succ n ih =>
    obtain ⟨asx, h1, h2⟩ := ih (fun i hi => h i (by omega))
    obtain ⟨a, ha⟩ := h n (by omega)
    refine ⟨asx ++ [a], by simp [h1], fun i b hb => ?_⟩
    by_cases hi : i < n
    · rw [List.getElem?_append_left (by omega)] at hb; exact h2 i b hb
    · rw [List.getElem?_append_right (by omega)] at hb
      have : i = n := by
        have := (List.getElem?_eq_some_iff.1 hb).1
        simp at this; omega
      subst this
      simp [h1] at hb
      exact hb ▸ ha
theorem flat_get {asx : List α} (hl : ∀ a ∈ asx, (lay a).length = s) {l : Array Value} {off : Nat} : ∀ (k : Nat), (∀ i a, asx[i]? = some a → ∀ j v, (lay a)[j]? = some v → l[off + (k + i) * s + j]? = some v) →
    ∀ i u, (asx.flatMap lay)[i]? = some u → l[off + k * s + i]? = some u := by
  induction asx with
  | nil => intro k _ i u h; simp at h
  | cons a r ih =>
    intro k h i u hu
    rw [List.flatMap_cons] at hu
    have ha := hl a (List.mem_cons_self ..)
    by_cases hi : i < s
    · rw [List.getElem?_append_left (by omega)] at hu
      exact h 0 a rfl i u hu
    · rw [List.getElem?_append_right (by omega), ha] at hu
      have := ih (fun b hb => hl b (List.mem_cons_of_mem _ hb)) (k + 1) (fun i b hb j v hv => by
        have := h (i + 1) b (by simpa using hb) j v hv
        rwa [show k + 1 + i = k + (i + 1) by omega]) (i - s) u hu
      rw [Nat.succ_mul] at this
      rwa [show off + (k * s + s) + (i - s) = off + k * s + i by omega] at this
theorem flat_length {asx : List α} (hl : ∀ a ∈ asx, (lay a).length = s) : (asx.flatMap lay).length = asx.length * s := by
  induction asx with
  | nil => simp
  | cons a r ih => rw [List.flatMap_cons, List.length_append, ih (fun b hb => hl b (List.mem_cons_of_mem _ hb)), hl a (List.mem_cons_self ..), List.length_cons, Nat.succ_mul, Nat.add_comm]
def OldS (w : World) (s sz : Nat) (lay : α → List Value) (good : α → Prop) (x : Value × List α) : Prop :=
  ∃ ad c, x.1 = .slice ad x.2.length c ∧ x.2.length ≤ c ∧ c * sz ≤ 140737488351232 ∧ Rd (old w) s x.1 x.2.length (x.2.flatMap lay) ∧ ∀ a ∈ x.2, good a
theorem dec_fields {fs : Array Field} (ht : P.underlying t = some (.struct fs)) {n : Nat} {cs : List Value} {x : DataW H × List MemPlace} (h : DataW.trod enc P w 0 (fun _ => true) true n t cs = some x) (hw : (x.1.weights P t).all (· ≤ reachBytes) = true)
    {i : Nat} {f : Field} (hf : fs[i]? = some f) (hd : Dec enc P w f.type s lay good) (hs : ((cs.drop f.offset).take (P.cellsOf f.type)).length = s) : ∃ a, (cs.drop f.offset).take (P.cellsOf f.type) = lay a ∧ good a := by
  obtain ⟨xs, m, rfl, rfl, hl, hxs, hx⟩ := DataW.trod_struct ht h
  have hi : i < fs.size := (Array.getElem?_eq_some_iff.1 hf).1
  have h1 := hx i f hf
  rw [List.getElem?_eq_getElem (by omega)] at h1
  refine hd _ _ _ h1 hs (List.all_eq_true.2 fun k hk => ?_)
  simp only [DataW.weights, ht] at hw
  exact List.all_eq_true.1 hw k (DataW.weights_mem_each (j := i) (by simpa using ⟨f, hf, rfl⟩) (by simp [List.getElem?_eq_getElem (show i < xs.length by omega)]) k hk)
theorem zEu {fs : Array Field} (i off : Nat) {ft : TypeId} (ht : P.underlying t = some (.struct fs)) {n : Nat} {cs : List Value} {x : DataW H × List MemPlace} (h : DataW.trod enc P w 0 (fun _ => true) true n t cs = some x) (hw : (x.1.weights P t).all (· ≤ reachBytes) = true)
    (hf : (fs[i]?).map (fun f => (f.type, f.offset)) = some (ft, off)) (hc : P.cellsOf ft = s) (hd : Dec enc P w ft s lay good) (hs : off + s ≤ cs.length) : ∃ a, (cs.drop off).take s = lay a ∧ good a := by
  rw [Option.map_eq_some_iff] at hf
  obtain ⟨f, h1, h2⟩ := hf
  cases h2
  have := dec_fields ht h hw h1 hd (by rw [hc, List.length_take, List.length_drop]; omega)
  rwa [hc] at this
theorem Dec.arg (hd : Dec enc P w t 1 lay good) {v : Value} {d : DataW H} {p : List MemPlace} (h : DataW.Trod enc P w 0 (fun _ => true) true t v d p) (h1 : v.cells.toList = [v]) {ts : List TypeId} {ds : List (DataW H)}
    (hw : (DataW.weightsEach P ts ds).all (· ≤ reachBytes) = true) {j : Nat} (ht : ts[j]? = some t) (hdj : ds[j]? = some d) : ∃ a, [v] = lay a ∧ good a := by
  obtain ⟨n, hn⟩ := h
  rw [h1] at hn
  exact hd n _ _ hn rfl (List.all_eq_true.2 fun k hk => List.all_eq_true.1 hw k (DataW.weights_mem_each ht hdj k hk))
theorem one_slice {b : Nat} (ht : P.underlying t = some (.slice e)) {v : Value} (h : Value.okWide P w .any b t v) : v.cells.toList = [v] := by
  obtain ⟨a, l, c, rfl⟩ := okWide_slice ht h
  rfl
theorem flat_byt (bs : List UInt8) : (bs.flatMap fun b => [Value.int .u8 b.toNat]) = byt bs := by
  induction bs with
  | nil => rfl
  | cons b r ih => rw [List.flatMap_cons, ih]; rfl
end
end Go.Sl
namespace Go.Proofs.YtbogecljkaimdaaGreatDoor
open Go.Sl Go.ChangeShapes Go.WideShapes Go.RowKit
theorem tab_of_var {P : Program} {W : World} {nm : String} {g m : Nat} {t e : TypeId} {cs : Array Value} {fuel : Nat} {p : List MemPlace} (l : List Int) (hg : P.globalNamed nm = some g) (ht : P.underlying t = some (.array m e)) (he : P.underlying e = some (.int .u32)) (ce : P.cellsOf e = 1) (ct : P.cellsOf t = l.length) (hm : m = l.length)
    (hv : W.var? P nm = some cs) (hd : DataW.trod (fun _ : TypeId × Value => ()) P W 0 (fun _ => true) false fuel t cs.toList = some (DataW.agg (l.map fun n => .lit (.int .u32 n)), p)) : Tab [old W] g l := by
  subst hm
  obtain ⟨xs, k, _, ex, hlen, hl, hel⟩ := DataW.trod_array ht hd
  rw [ct] at hlen
  have e3 : (xs.map (·.1)) = l.map fun n => (DataW.lit (.int .u32 n) : DataW Unit) := (DataW.agg.inj (Prod.mk.inj ex).1).symm
  have hcs : cs.toList = u32s l := by
    apply List.ext_getElem?
    intro i
    rcases Nat.lt_or_ge i l.length with hi | hi
    · have hE := hel i hi
      rw [ce, Nat.mul_one, List.getElem?_eq_getElem (by omega)] at hE
      obtain ⟨z, e1, e2, _⟩ := DataW.trod_int he hE
      have e4 : (xs.map (·.1))[i]? = (l.map fun n => (DataW.lit (.int .u32 n) : DataW Unit))[i]? := by rw [e3]
      rw [List.getElem?_map, List.getElem?_map, List.getElem?_eq_getElem (by omega : i < xs.length), List.getElem?_eq_getElem hi, e2] at e4
      simp only [Option.map_some, Option.some.injEq, DataW.lit.injEq, Lit.int.injEq, true_and] at e4
      have h0 : ((cs.toList.drop i).take 1)[0]? = some (.int .u32 z) := by rw [e1]; rfl
      have h1 : cs.toList[i]? = some (.int .u32 z) := by simpa using h0
      rw [h1, e4]
      simp [u32s, hi]
    · rw [List.getElem?_eq_none (by omega), List.getElem?_eq_none (by simp [u32s]; omega)]
  simp only [World.var?, hg, Option.bind_some] at hv
  split at hv
  · rename_i c T fr hh
    cases hv
    exact ⟨_, List.Mem.head _, T, fr, mem_old (by rw [← hcs]; simpa using hh)⟩
  · cases hv
end Go.Proofs.YtbogecljkaimdaaGreatDoor
