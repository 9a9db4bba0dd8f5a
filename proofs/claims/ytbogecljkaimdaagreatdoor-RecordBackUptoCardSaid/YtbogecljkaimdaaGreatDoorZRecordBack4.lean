/-
  Texts put together (4).
-/
import Derived.Test.YtbogecljkaimdaaGreatDoorZRecordBack3
namespace Go.Proofs.YtbogecljkaimdaaGreatDoor
open Go.Sl
set_option maxRecDepth 10000
def RdC (T : TypeId) (p : Nat) (s : Rdr) (A : zAs) : Prop :=
  s.at_ ≤ s.bs.length ∧ s.bs.length ≤ 140737488355328 ∧
  ∃ ad c C, A = [(p, cel [.slice ad s.bs.length c, .int .i64 s.at_, .int .i64 s.e] T)] ++ C ∧ s.bs.length ≤ c ∧ Rd C 1 (.slice ad s.bs.length c) s.bs.length (byt s.bs)
theorem zKf (D : zAs) (v : Value) (bs : List UInt8) (w0 : World) (h : Rd D 1 v bs.length (byt bs)) (H : Hp w0 [D]) (hl : bs.length ≤ 140737488355328) :
    Ret Tryz.prog 43 #[v] w0 fun u w' => ∃ p A, u = ptr p ∧ RdC 108 p ⟨bs, 0, 0⟩ A ∧ Trs w0 w' [D] [A, D] := by
  have S := St.begin H
  refine zDh 7 Tryz.func43 rfl rfl (by decide) ?_; intro a E
  refine wp_seq_k ?_; intro K hK
  refine zAa ?_
  refine zp E (zAe E rfl rfl) ?_; clear E a; intro a E
  refine wpList_nil ?_
  refine zAf hK ?_; clear hK; clear K
  refine wp_seq_k ?_; intro K hK
  refine zAa ?_
  refine zp E (zAd E rfl rfl) ?_; clear E a; intro a E
  refine zAn E rfl rfl (by decide) rfl Tryz.func70 rfl (by kernel_rfl) rfl (zHu D v bs w0 h H (by omega)) ?_
  rintro v4 w ⟨g, rfl, hT⟩; clear E a; intro a E
  have S := S.all hT
  refine zp E (zCv (cells := [_, _, _]) E rfl rfl rfl) ?_; clear E a; intro a E
  refine zAm rfl (zCk E S rfl rfl (by decide) rfl rfl ?_); clear E S a; intro a w b6 E S
  refine zp E (zAe E rfl rfl) ?_; clear E a; intro a E
  refine wpList_nil ?_
  refine zAf hK ?_; clear hK; clear K
  refine wp_ret ?_
  refine ret1 E rfl rfl ?_
  have S := S.gather (A := [(b6, _)]) (B := [(g, _)]) (by repeat (first | exact pk1 | apply zAc)) (by repeat (first | exact pk1 | apply zAc))
  exact ⟨_, rfl, b6, _, rfl, ⟨Nat.zero_le _, hl, _, _, _, rfl, Nat.le_refl _, zLb rfl (by simp only; omega) _⟩, S.tr⟩
theorem zIl (p : Nat) (s : Rdr) (A : zAs) (w0 : World) (hA : RdC 108 p s A) (H : Hp w0 [A]) (n behind : Nat) (hn : n ≤ 9223372036854775807) (hb : behind ≤ 8) :
    Ret Tryz.prog 89 #[ptr p, .int .i64 n, .int .i64 behind] w0 fun u w' => Trs w0 w' [A] [A] ∧
      ((s.bs.length < s.at_ + behind + n ∧ u = .tuple #[.slice none 0 0, .bool false]) ∨
       (s.at_ + behind + n ≤ s.bs.length ∧ ∃ ad c, u = .tuple #[.slice ad n c, .bool true] ∧ Rd A 1 (.slice ad n c) n (byt (s.cut n behind)))) := by
  obtain ⟨hat, hlen, ad, c, C, hAe, hc, hR⟩ := hA
  have S := St.begin H
  have S := (by rw [hAe] at S; exact S.split : St w0 _ w0 ([(p, cel [.slice ad s.bs.length c, .int .i64 s.at_, .int .i64 s.e] 108)] :: C :: _))
  refine zGs 41 Tryz.func89 rfl rfl (by decide) ?_; intro a E
  refine wp_seq_k ?_; intro K hK
  refine zAa ?_
  iterate 2 (refine zp E (zAe E rfl rfl) ?_; clear E a; intro a E)
  refine wpList_nil ?_
  refine zAf hK ?_; clear hK; clear K
  iterate 2 (refine wp_seq_k ?_; intro K hK)
  refine zCa S (.ofL [(0, 0), (1, 0), (2, 0), (3, 0), (4, 0), (5, 0), (6, 0), (7, 0), (8, 0), (9, 0), (10, 0), (11, 0), (12, 0), (13, 0)]) (by kernel_rfl) (by kernel_rfl) ?_
  clear S; intro w S
  iterate 2 (refine zm E rfl (fun w h => zAd E rfl rfl) ?_; clear E a; intro a E)
  refine zm E rfl (fun w h => zBb E rfl rfl) ?_; clear E a; intro a E
  refine zm E rfl (fun w h => by first | exact zAg (q := 0) E rfl rfl rfl | exact zAh (q := 0) E rfl rfl rfl) ?_; clear E a; intro a E
  refine zm E rfl (fun w h => by first | exact zAq E rfl rfl rfl (h.one (by repeat (first | exact mm1 | assumption | apply List.Mem.tail))) rfl | exact zAl E rfl rfl rfl (by assumption)) ?_; clear E a; intro a E
  refine zm E rfl (fun w h => by first | exact zBv E rfl rfl rfl | exact zAx E rfl rfl rfl | exact zAp E rfl rfl rfl) ?_; clear E a; intro a E
  refine zm E rfl (fun w h => zAd E rfl rfl) ?_; clear E a; intro a E
  refine zm E rfl (fun w h => zBb E rfl rfl) ?_; clear E a; intro a E
  refine zm E rfl (fun w h => by first | exact zAg (q := 1) E rfl rfl rfl | exact zAh (q := 1) E rfl rfl rfl) ?_; clear E a; intro a E
  refine zm E rfl (fun w h => by first | exact zAq E rfl rfl rfl (h.one (by repeat (first | exact mm1 | assumption | apply List.Mem.tail))) rfl | exact zAl E rfl rfl rfl (by assumption)) ?_; clear E a; intro a E
  refine zm E rfl (fun w h => zEw E rfl rfl rfl (by first | exact ws1 (by omega) (by omega) | exact w_in (by omega) | exact zCb (by omega) | exact rfl)) ?_; clear E a; intro a E
  refine zm E rfl (fun w h => zAd E rfl rfl) ?_; clear E a; intro a E
  refine zm E rfl (fun w h => zEw E rfl rfl rfl (by first | exact ws1 (by omega) (by omega) | exact w_in (by omega) | exact zCb (by omega) | exact rfl)) ?_; clear E a; intro a E
  refine zm E rfl (fun w h => zEi E rfl rfl rfl) ?_; clear E a; intro a E
  refine zCd ?_
  refine zAf hK ?_; clear hK; clear K
  refine zBj E rfl (fun hb => ?_) (fun hb => ?_)
  · replace hb := Nrm.nrm hb
    have S := S.join; rw [← hAe] at S
    refine wp_seq_k ?_; intro K hK
    refine zAa ?_
    iterate 2 (refine zp E (zAe E rfl rfl) ?_; clear E a; intro a E)
    refine wpList_nil ?_
    refine zAf hK ?_; clear hK; clear K
    refine wp_ret ?_
    refine zAv ?_; clear hK; clear K
    refine ret2 E rfl rfl rfl ?_
    exact ⟨_, rfl, S.tr, .inl ⟨by omega, rfl⟩⟩
  · replace hb := Nrm.nrm hb
    refine wp_skip ?_
    refine zAf hK ?_; clear hK; clear K
    refine wp_seq_k ?_; intro K hK
    refine zCa S (.ofL [(0, 0), (1, 0), (2, 0), (3, 0), (4, 0), (5, 0), (6, 0), (7, 0), (8, 0), (9, 0), (10, 0), (11, 0), (12, 0), (13, 0), (14, 0), (15, 0), (16, 0), (17, 0), (18, 0), (19, 0), (20, 0)]) (by kernel_rfl) (by kernel_rfl) ?_
    clear S; intro w S
    refine zm E rfl (fun w h => zAd E rfl rfl) ?_; clear E a; intro a E
    refine zm E rfl (fun w h => zBb E rfl rfl) ?_; clear E a; intro a E
    refine zm E rfl (fun w h => by first | exact zAg (q := 0) E rfl rfl rfl | exact zAh (q := 0) E rfl rfl rfl) ?_; clear E a; intro a E
    refine zm E rfl (fun w h => by first | exact zAq E rfl rfl rfl (h.one (by repeat (first | exact mm1 | assumption | apply List.Mem.tail))) rfl | exact zAl E rfl rfl rfl (by assumption)) ?_; clear E a; intro a E
    refine zm E rfl (fun w h => zAd E rfl rfl) ?_; clear E a; intro a E
    refine zm E rfl (fun w h => zBb E rfl rfl) ?_; clear E a; intro a E
    refine zm E rfl (fun w h => by first | exact zAg (q := 1) E rfl rfl rfl | exact zAh (q := 1) E rfl rfl rfl) ?_; clear E a; intro a E
    refine zm E rfl (fun w h => by first | exact zAq E rfl rfl rfl (h.one (by repeat (first | exact mm1 | assumption | apply List.Mem.tail))) rfl | exact zAl E rfl rfl rfl (by assumption)) ?_; clear E a; intro a E
    refine zm E rfl (fun w h => zAd E rfl rfl) ?_; clear E a; intro a E
    refine zm E rfl (fun w h => zCc E rfl rfl rfl (by first | exact wa1 (by omega) | exact w_in (by omega) | exact zCb (by omega) | exact rfl)) ?_; clear E a; intro a E
    refine zm E rfl (fun w h => zAd E rfl rfl) ?_; clear E a; intro a E
    refine zm E rfl (fun w h => zBb E rfl rfl) ?_; clear E a; intro a E
    refine zm E rfl (fun w h => by first | exact zAg (q := 1) E rfl rfl rfl | exact zAh (q := 1) E rfl rfl rfl) ?_; clear E a; intro a E
    refine zm E rfl (fun w h => by first | exact zAq E rfl rfl rfl (h.one (by repeat (first | exact mm1 | assumption | apply List.Mem.tail))) rfl | exact zAl E rfl rfl rfl (by assumption)) ?_; clear E a; intro a E
    refine zm E rfl (fun w h => zAd E rfl rfl) ?_; clear E a; intro a E
    refine zm E rfl (fun w h => zCc E rfl rfl rfl (by first | exact wa1 (by omega) | exact w_in (by omega) | exact zCb (by omega) | exact rfl)) ?_; clear E a; intro a E
    refine zm E rfl (fun w h => zAd E rfl rfl) ?_; clear E a; intro a E
    refine zm E rfl (fun w h => zCc E rfl rfl rfl (by first | exact wa1 (by omega) | exact w_in (by omega) | exact zCb (by omega) | exact rfl)) ?_; clear E a; intro a E
    refine zm E rfl (fun w h => zGz (s := 1) E rfl rfl rfl rfl rfl rfl rfl rfl (by omega) (by omega)) ?_; clear E a; intro a E
    obtain ⟨ad2, c2, hs2, hR2⟩ := hR.cut (lo := s.at_ + behind) (hi := s.at_ + behind + n) (by omega) (by omega) (by omega)
    rw [hs2] at E
    iterate 2 (refine zm E rfl (fun w h => zAe E rfl rfl) ?_; clear E a; intro a E)
    refine zCd ?_
    refine zAf hK ?_; clear hK; clear K
    refine wp_ret ?_
    refine ret2 E rfl rfl rfl ?_
    have S := S.join
    rw [← hAe] at S
    rw [Nat.mul_one, Nat.mul_one, show s.at_ + behind + n - (s.at_ + behind) = n by omega, zIk, zHh] at hR2
    rw [show s.at_ + behind + n - (s.at_ + behind) = n by omega]
    exact ⟨_, rfl, S.tr, .inr ⟨by omega, ad2, c2, rfl, hR2.sub (by rw [hAe]; exact fun x hx => List.mem_append_right _ hx)⟩⟩
theorem rtry_no (p : Nat) (s : Rdr) (A : zAs) (fv : Value) (w0 : World) (hA : RdC 108 p s A) (H : Hp w0 [A]) (he : s.e ≠ 0) :
    Ret Tryz.prog 87 #[ptr p, fv] w0 fun _ w' => w' = w0 := by
  obtain ⟨hat, hlen, ad, c, C, rfl, hR⟩ := hA
  have S := (St.begin H).split
  refine zCg 14 Tryz.func87 rfl rfl (by decide) ?_; intro a E
  refine wp_seq_k ?_; intro K hK
  refine zAa ?_
  refine zp E (zAd E rfl rfl) ?_; clear E a; intro a E
  refine zp E (zBb E rfl rfl) ?_; clear E a; intro a E
  refine zp E (by first | exact zAg (q := 2) E rfl rfl rfl | exact zAh (q := 2) E rfl rfl rfl) ?_; clear E a; intro a E
  refine zp E (by first | exact zAq E rfl rfl rfl (S.get (by repeat (first | exact pk1 | apply zAc))) rfl | exact zAl E rfl rfl rfl (by assumption)) ?_; clear E a; intro a E
  refine zp E (by first | exact zCe E rfl rfl rfl | exact zAt E rfl rfl rfl rfl | exact zAz E rfl rfl rfl rfl | exact zAu E rfl rfl rfl) ?_; clear E a; intro a E
  refine wpList_nil ?_
  refine zAf hK ?_; clear hK; clear K
  refine zBj E rfl (fun hb => ?_) (fun hb => ?_)
  · replace hb := Nrm.nrm hb
    exfalso; omega
  · replace hb := Nrm.nrm hb
    refine wp_skip ?_
    refine end0 E rfl ?_
    exact ⟨_, rfl, rfl⟩
theorem rtry_yes (s2 : Rdr) (X : List zAs → Prop) (f : FuncId) (fn : Func) (cap : List Value) (hf : Tryz.prog.funcs[f]? = some fn) (hfb : fn.body.isSome = true) (hfn : (fn.name == "runtime.NumGoroutine") = false)
    (p : Nat) (s : Rdr) (A : zAs) (Rs : List zAs) (w0 : World) (hA : RdC 108 p s A) (H : Hp w0 (A :: Rs)) (he : s.e = 0)
    (hc : Ret Tryz.prog f cap.toArray w0 fun u w' => ∃ (e' at' : Nat) (A' : zAs) (Rs' : List zAs), u = .int .i64 e' ∧ RdC 108 p { s with at_ := at' } A' ∧ Trs w0 w' (A :: Rs) (A' :: Rs') ∧ s2 = { s with at_ := at', e := e' } ∧ X Rs') :
    Ret Tryz.prog 87 #[ptr p, .func (.func f) #[] cap.toArray] w0 fun _ w' => ∃ (A' : zAs) (Rs' : List zAs), RdC 108 p s2 A' ∧ Trs w0 w' (A :: Rs) (A' :: Rs') ∧ X Rs' := by
  obtain ⟨hat, hlen, ad, c, C, rfl, hR⟩ := hA
  have S := (St.begin H).split
  refine zCg 14 Tryz.func87 rfl rfl (by decide) ?_; intro a E
  refine wp_seq_k ?_; intro K hK
  refine zAa ?_
  refine zp E (zAd E rfl rfl) ?_; clear E a; intro a E
  refine zp E (zBb E rfl rfl) ?_; clear E a; intro a E
  refine zp E (by first | exact zAg (q := 2) E rfl rfl rfl | exact zAh (q := 2) E rfl rfl rfl) ?_; clear E a; intro a E
  refine zp E (by first | exact zAq E rfl rfl rfl (S.get (by repeat (first | exact pk1 | apply zAc))) rfl | exact zAl E rfl rfl rfl (by assumption)) ?_; clear E a; intro a E
  refine zp E (by first | exact zCe E rfl rfl rfl | exact zAt E rfl rfl rfl rfl | exact zAz E rfl rfl rfl rfl | exact zAu E rfl rfl rfl) ?_; clear E a; intro a E
  refine wpList_nil ?_
  refine zAf hK ?_; clear hK; clear K
  refine zBj E rfl (fun hb => ?_) (fun hb => ?_)
  · replace hb := Nrm.nrm hb
    refine zAa ?_
    iterate 2 (refine zp E (zAd E rfl rfl) ?_; clear E a; intro a E)
    refine zCp E rfl rfl (by decide) rfl rfl hf hfb hfn rfl (hc) ?_
    rintro v11 w ⟨e', at', A', Rs', rfl, ⟨hat', hlen', ad', c', C', rfl, hR'⟩, hT, rfl, hX⟩; clear E a; intro a E
    have S := ((St.begin H).all hT).split
    refine zp E (zBb E rfl rfl) ?_; clear E a; intro a E
    refine zp E (by first | exact zAg (q := 2) E rfl rfl rfl | exact zAh (q := 2) E rfl rfl rfl) ?_; clear E a; intro a E
    refine zAm rfl (zBk E S rfl rfl rfl rfl rfl rfl (by repeat (first | exact pk1 | apply zAc)) (by first | exact Nat.le_of_ble_eq_true rfl | (simp; done) | (simp; omega)) ?_); clear E S a; intro a w E S; try dsimp only [List.set] at S
    refine wpList_nil ?_
    refine end0 E rfl ?_
    exact ⟨_, rfl, _, Rs', ⟨hat', hlen', ad', c', C', rfl, hR'⟩, S.join.tr, hX⟩
  · replace hb := Nrm.nrm hb
    exfalso; omega
theorem zLc (s2 : Rdr) (X : List zAs → Prop) (f : FuncId) (fn : Func) (cap : List Value) (hf : Tryz.prog.funcs[f]? = some fn) (hfb : fn.body.isSome = true) (hfn : (fn.name == "runtime.NumGoroutine") = false)
    (p : Nat) (s : Rdr) (A : zAs) (Rs : List zAs) (w0 : World) (hA : RdC 108 p s A) (H : Hp w0 (A :: Rs)) (h0 : s.e ≠ 0 → s2 = s ∧ X Rs)
    (hc : s.e = 0 → Ret Tryz.prog f cap.toArray w0 fun u w' => ∃ (e' at' : Nat) (A' : zAs) (Rs' : List zAs), u = .int .i64 e' ∧ RdC 108 p { s with at_ := at' } A' ∧ Trs w0 w' (A :: Rs) (A' :: Rs') ∧ s2 = { s with at_ := at', e := e' } ∧ X Rs') :
    Ret Tryz.prog 87 #[ptr p, .func (.func f) #[] cap.toArray] w0 fun _ w' => ∃ (A' : zAs) (Rs' : List zAs), RdC 108 p s2 A' ∧ Trs w0 w' (A :: Rs) (A' :: Rs') ∧ X Rs' := by
  by_cases he : s.e = 0
  · exact rtry_yes s2 X f fn cap hf hfb hfn p s A Rs w0 hA H he (hc he)
  · refine (rtry_no p s A _ w0 hA (H.sel (Rs := Rs) (List.Perm.refl _)) he).mono ?_
    rintro _ w' rfl
    exact ⟨A, Rs, by rw [(h0 he).1]; exact hA, Trs.refl _ _, (h0 he).2⟩
theorem rnum_body (p : Nat) (s : Rdr) (A : zAs) (w0 : World) (hA : RdC 108 p s A) (he : s.e = 0) (bk bp bo : Nat) (k : Int)
    (H : Hp w0 [A, [(bk, cel [.int .i64 k] 3)], [(bp, cel [ptr p] 79)], [(bo, cel [.int .u64 0] 27)]]) :
    Ret Tryz.prog 88 #[ptr bk, ptr bp, ptr bo] w0 fun u w' => ∃ (e' at' : Nat) (A' : zAs) (Rs' : List zAs), u = .int .i64 e' ∧ RdC 108 p { s with at_ := at' } A' ∧
      Trs w0 w' [A, [(bk, cel [.int .i64 k] 3)], [(bp, cel [ptr p] 79)], [(bo, cel [.int .u64 0] 27)]] (A' :: Rs') ∧ (s.num k).2 = { s with at_ := at', e := e' } ∧ ∃ L, Rs'.Perm ([(bo, cel [.int .u64 (s.num k).1] 27)] :: L) := by
  have S := St.begin H
  refine zGs 30 Tryz.func88 rfl rfl (by decide) ?_; intro a E
  refine wp_seq_k ?_; intro K hK
  refine zAa ?_
  refine zp E (zAe E rfl rfl) ?_; clear E a; intro a E
  refine wpList_nil ?_
  refine zAf hK ?_; clear hK; clear K
  iterate 2 (refine wp_seq_k ?_; intro K hK)
  refine zAa ?_
  refine zp E (by first | exact zAq E rfl rfl rfl (S.get (by repeat (first | exact pk1 | apply zAc))) rfl | exact zAl E rfl rfl rfl (by assumption)) ?_; clear E a; intro a E
  refine zp E (zCw E rfl rfl rfl) ?_; clear E a; intro a E
  refine zp E (zAd E rfl rfl) ?_; clear E a; intro a E
  refine zAw E (t := 8) rfl (fun hb8 => ?_) (fun hb8 => ?_)
  · have hb8n := hb8; replace hb8n := Nrm.nrm hb8n
    iterate 2 (refine zn E hb8 ?_; clear E a; intro a E)
    refine zp E (zAk E rfl rfl hb8 rfl) ?_; clear E a; intro a E
    refine wpList_nil ?_
    refine zAf hK ?_; clear hK; clear K
    refine zBy E rfl rfl ?_
    refine wp_seq_k ?_; intro K hK
    refine zAa ?_
    refine zp E (zAe E rfl rfl) ?_; clear E a; intro a E
    refine wpList_nil ?_
    refine zAf hK ?_; clear hK; clear K
    refine wp_ret ?_
    refine zAv ?_; clear hK; clear K
    refine ret1 E rfl rfl ?_
    have hv : s.num k = (0, { s with e := 1 }) := by simp [Rdr.num, he, show k < 1 ∨ 8 < k by omega]
    exact ⟨_, rfl, 1, s.at_, A, _, rfl, hA, (S.only (Bs := [A, [(bo, cel [.int .u64 0] 27)]]) (zAi (by repeat (first | exact pk1 | apply zAc)) (zAi (by repeat (first | exact pk1 | apply zAc)) (zAo _)))).tr, by rw [hv], [], by first | (rw [hv]; done) | (rw [hv]; exact pk1)⟩
  · have hb8n := hb8; replace hb8n := Nrm.nrm hb8n
    refine zy E hb8 (by first | exact zAq E rfl rfl rfl (S.get (by repeat (first | exact pk1 | apply zAc))) rfl | exact zAl E rfl rfl rfl (by assumption)) ?_; clear E a; intro a E
    refine zy E hb8 (zEi E rfl rfl rfl) ?_; clear E a; intro a E
    refine zp E (zAj E rfl rfl hb8 rfl) ?_; clear E a; intro a E
    refine wpList_nil ?_
    refine zAf hK ?_; clear hK; clear K
    refine zBj E rfl (fun hb => ?_) (fun hb => ?_)
    · replace hb := Nrm.nrm hb
      refine wp_seq_k ?_; intro K hK
      refine zAa ?_
      refine zp E (zAe E rfl rfl) ?_; clear E a; intro a E
      refine wpList_nil ?_
      refine zAf hK ?_; clear hK; clear K
      refine wp_ret ?_
      refine zAv ?_; clear hK; clear K
      refine ret1 E rfl rfl ?_
      have hv : s.num k = (0, { s with e := 1 }) := by simp [Rdr.num, he, show k < 1 ∨ 8 < k by omega]
      exact ⟨_, rfl, 1, s.at_, A, _, rfl, hA, (S.only (Bs := [A, [(bo, cel [.int .u64 0] 27)]]) (zAi (by repeat (first | exact pk1 | apply zAc)) (zAi (by repeat (first | exact pk1 | apply zAc)) (zAo _)))).tr, by rw [hv], [], by first | (rw [hv]; done) | (rw [hv]; exact pk1)⟩
    · replace hb := Nrm.nrm hb
      refine wp_skip ?_
      refine zAf hK ?_; clear hK; clear K
      refine wp_seq_k ?_; intro K hK
      obtain ⟨kn, rfl⟩ : ∃ kn : Nat, k = kn := ⟨k.toNat, by omega⟩
      refine zAa ?_
      iterate 2 (refine zp E (by first | exact zAq E rfl rfl rfl (S.get (by repeat (first | exact pk1 | apply zAc))) rfl | exact zAl E rfl rfl rfl (by assumption)) ?_; clear E a; intro a E)
      refine zAn E rfl rfl (by decide) rfl Tryz.func89 rfl (by kernel_rfl) rfl (zIl p s A _ hA (S.hp.sel (zAi (by repeat (first | exact pk1 | apply zAc)) (zAo _))) kn 0 (by omega) (by omega)) ?_
      rintro v15 w ⟨hT, hres⟩; clear E a; intro a E
      have S := S.call1 (zAi (by repeat (first | exact pk1 | apply zAc)) (zAo _)) hT
      rcases hres with ⟨hlt, rfl⟩ | ⟨hle, adb, cb, rfl, hR⟩
      · skip
        refine zp E (zAd E rfl rfl) ?_; clear E a; intro a E
        iterate 2 (refine zp E (zBh E rfl rfl rfl) ?_; clear E a; intro a E)
        iterate 2 (refine zp E (zAe E rfl rfl) ?_; clear E a; intro a E)
        refine wpList_nil ?_
        refine zAf hK ?_; clear hK; clear K
        iterate 2 (refine wp_seq_k ?_; intro K hK)
        refine zAa ?_
        refine zp E (zAd E rfl rfl) ?_; clear E a; intro a E
        refine zp E (zDl E rfl rfl) ?_; clear E a; intro a E
        refine wpList_nil ?_
        refine zAf hK ?_; clear hK; clear K
        refine zBy E rfl (rfl) ?_
        refine wp_seq_k ?_; intro K hK
        refine zAa ?_
        refine zp E (zAe E rfl rfl) ?_; clear E a; intro a E
        refine wpList_nil ?_
        refine zAf hK ?_; clear hK; clear K
        refine wp_ret ?_
        refine zAv ?_; clear hK; clear K
        refine ret1 E rfl rfl ?_
        have hv : s.num kn = (0, { s with e := 10 }) := by simp [Rdr.num, he, show ¬ ((kn : Int) < 1 ∨ 8 < (kn : Int)) by omega, show s.bs.length < s.at_ + kn by omega]
        exact ⟨_, rfl, 10, s.at_, A, _, rfl, hA, (S.only (Bs := [A, [(bo, cel [.int .u64 0] 27)]]) (zAi (by repeat (first | exact pk1 | apply zAc)) (zAi (by repeat (first | exact pk1 | apply zAc)) (zAo _)))).tr, by rw [hv], [], by first | (rw [hv]; done) | (rw [hv]; exact pk1)⟩
      · skip
        refine zp E (zAd E rfl rfl) ?_; clear E a; intro a E
        iterate 2 (refine zp E (zBh E rfl rfl rfl) ?_; clear E a; intro a E)
        iterate 2 (refine zp E (zAe E rfl rfl) ?_; clear E a; intro a E)
        refine wpList_nil ?_
        refine zAf hK ?_; clear hK; clear K
        iterate 2 (refine wp_seq_k ?_; intro K hK)
        refine zAa ?_
        refine zp E (zAd E rfl rfl) ?_; clear E a; intro a E
        refine zp E (zDl E rfl rfl) ?_; clear E a; intro a E
        refine wpList_nil ?_
        refine zAf hK ?_; clear hK; clear K
        refine zCl E rfl (rfl) ?_
        refine wp_skip ?_
        refine zAf hK ?_; clear hK; clear K
        refine wp_seq_k ?_; intro K hK
        refine zAa ?_
        refine zp E (zAd E rfl rfl) ?_; clear E a; intro a E
        refine zAn E rfl rfl (by decide) rfl Tryz.func73 rfl (by kernel_rfl) rfl (zJf A _ (s.cut kn 0) _ (by rw [s.cut_length kn 0 hle]; exact hR) (S.stab.at (by repeat (first | exact mm1 | assumption | apply List.Mem.tail))) (by rw [s.cut_length kn 0 hle]; omega)) ?_
        rintro v21 w ⟨rfl, rfl⟩; clear E a; intro a E
        refine zAm rfl (zBk E S rfl rfl rfl rfl rfl rfl (by repeat (first | exact pk1 | apply zAc)) (by first | exact Nat.le_of_ble_eq_true rfl | (simp; done) | (simp; omega)) ?_); clear E S a; intro a w E S; try dsimp only [List.set] at S
        refine wpList_nil ?_
        obtain ⟨hat, hlen, ad, c, C, rfl, hc, hRC⟩ := hA
        have S := (S.perm (Bs := [[(p, cel [.slice ad s.bs.length c, .int .i64 s.at_, .int .i64 s.e] 108)] ++ C, _, _, _]) (zAi (by repeat (first | exact pk1 | apply zAc)) (zAi (by repeat (first | exact pk1 | apply zAc)) (zAi (by repeat (first | exact pk1 | apply zAc)) (zAi (by repeat (first | exact pk1 | apply zAc)) (zAo _)))))).split
        refine zAf hK ?_; clear hK; clear K
        refine wp_seq_k ?_; intro K hK
        refine zCa S (.ofL [(0, 0), (1, 0), (2, 0), (3, 0), (4, 0), (5, 0), (6, 0), (7, 0), (8, 3)]) (by kernel_rfl) (by kernel_rfl) ?_
        clear S; intro w S
        refine zm E rfl (fun w h => by first | exact zAq E rfl rfl rfl (h.one (by repeat (first | exact mm1 | assumption | apply List.Mem.tail))) rfl | exact zAl E rfl rfl rfl (by assumption)) ?_; clear E a; intro a E
        refine zm E rfl (fun w h => zBb E rfl rfl) ?_; clear E a; intro a E
        refine zm E rfl (fun w h => by first | exact zAg (q := 1) E rfl rfl rfl | exact zAh (q := 1) E rfl rfl rfl) ?_; clear E a; intro a E
        iterate 2 (refine zm E rfl (fun w h => by first | exact zAq E rfl rfl rfl (h.one (by repeat (first | exact mm1 | assumption | apply List.Mem.tail))) rfl | exact zAl E rfl rfl rfl (by assumption)) ?_; clear E a; intro a E)
        refine zm E rfl (fun w h => zCc E rfl rfl rfl (by first | exact wa1 (by omega) | exact w_in (by omega) | exact zCb (by omega) | exact rfl)) ?_; clear E a; intro a E
        refine zm E rfl (fun w h => zBb E rfl rfl) ?_; clear E a; intro a E
        refine zm E rfl (fun w h => by first | exact zAg (q := 1) E rfl rfl rfl | exact zAh (q := 1) E rfl rfl rfl) ?_; clear E a; intro a E
        refine zCy rfl rfl (zBk E S rfl rfl rfl rfl rfl rfl (by repeat (first | exact pk1 | apply zAc)) (by first | exact Nat.le_of_ble_eq_true rfl | (simp; done) | (simp; omega)) ?_); clear E S a; intro a w E S; try dsimp only [List.set] at S
        refine zCd ?_
        refine zAf hK ?_; clear hK; clear K
        refine wp_seq_k ?_; intro K hK
        replace E := E.keep (e' := [(3, _)]) (zAb rfl (zAr))
        refine zAa ?_
        refine zp E (zAe E rfl rfl) ?_; clear E a; intro a E
        refine wpList_nil ?_
        refine zAf hK ?_; clear hK; clear K
        refine wp_ret ?_
        refine ret1 E rfl rfl ?_
        have hv : s.num kn = (zCh (s.cut kn 0), { s with at_ := s.at_ + kn }) := by simp [Rdr.num, he, show ¬ ((kn : Int) < 1 ∨ 8 < (kn : Int)) by omega, show ¬ s.bs.length < s.at_ + kn by omega]
        exact ⟨_, rfl, 0, s.at_ + kn, _, _, rfl, ⟨by simp only; omega, hlen, ad, c, C, rfl, hc, hRC⟩, S.join.tr, by rw [hv, ← he], _, by first | (rw [hv]; done) | (rw [hv]; exact pk1)⟩
theorem zDu (p : Nat) (s : Rdr) (A : zAs) (w0 : World) (hA : RdC 108 p s A) (H : Hp w0 [A]) (k : Int) :
    Ret Tryz.prog 44 #[ptr p, .int .i64 k] w0 fun u w' => ∃ A', u = .int .u64 (s.num k).1 ∧ RdC 108 p (s.num k).2 A' ∧ Trs w0 w' [A] [A'] := by
  have S := St.begin H
  refine zCg 10 Tryz.func44 rfl rfl (by decide) ?_; intro a E
  refine wp_seq_k ?_; intro K hK
  refine zAa ?_
  refine zAm rfl (zCk E S rfl rfl (by decide) rfl rfl ?_); clear E S a; intro a w b2 E S
  refine zAm rfl (zCk E S rfl rfl (by decide) rfl rfl ?_); clear E S a; intro a w b3 E S
  refine zp E (zAe E rfl rfl) ?_; clear E a; intro a E
  refine wpList_nil ?_
  refine zAf hK ?_; clear hK; clear K
  refine wp_seq_k ?_; intro K hK
  refine zAa ?_
  refine zAm rfl (zBr E S rfl rfl (by decide) rfl rfl rfl ?_); clear E S a; intro a w b5 E S
  refine wpList_nil ?_
  refine zAf hK ?_; clear hK; clear K
  refine wp_seq_k ?_; intro K hK
  have S := S.perm (Bs := [A, [(b3, cel [.int .i64 k] 3)], [(b2, cel [ptr p] 79)], [(b5, cel [.int .u64 0] 27)]]) (zAi (by repeat (first | exact pk1 | apply zAc)) (zAi (by repeat (first | exact pk1 | apply zAc)) (zAi (by repeat (first | exact pk1 | apply zAc)) (zAi (by repeat (first | exact pk1 | apply zAc)) (zAo _)))))
  refine zAa ?_
  refine zp E (by first | exact zAq E rfl rfl rfl (S.get (by repeat (first | exact pk1 | apply zAc))) rfl | exact zAl E rfl rfl rfl (by assumption)) ?_; clear E a; intro a E
  refine zp E (zEe E rfl rfl ⟨_, rfl⟩) ?_; clear E a; intro a E
  refine zAn E rfl rfl (by decide) rfl Tryz.func87 rfl (by kernel_rfl) rfl (zLc (s.num k).2 (fun Rs' => ∃ L, Rs'.Perm ([(b5, cel [.int .u64 (s.num k).1] 27)] :: L)) 88 _ [ptr b3, ptr b2, ptr b5] Tryz.func88 rfl (by kernel_rfl) p s A [[(b3, cel [.int .i64 k] 3)], [(b2, cel [ptr p] 79)], [(b5, cel [.int .u64 0] 27)]] w hA S.hp (fun h => ⟨by simp [Rdr.num, h], _, by simp only [Rdr.num, h, if_true, ne_eq, not_false_eq_true]; exact pk3⟩) (fun h => rnum_body p s A w hA h b3 b2 b5 k S.hp)) ?_
  rintro v8 w ⟨A', Rs', hA', hT, L, hL⟩; clear E a; intro a E
  have S := (S.all hT).perm (hL.cons A')
  refine wpList_nil ?_
  refine zAf hK ?_; clear hK; clear K
  refine wp_seq_k ?_; intro K hK
  refine zAa ?_
  refine zp E (by first | exact zAq E rfl rfl rfl (S.get (by repeat (first | exact pk1 | apply zAc))) rfl | exact zAl E rfl rfl rfl (by assumption)) ?_; clear E a; intro a E
  refine zp E (zAe E rfl rfl) ?_; clear E a; intro a E
  refine wpList_nil ?_
  refine zAf hK ?_; clear hK; clear K
  refine wp_ret ?_
  refine ret1 E rfl rfl ?_
  exact ⟨_, rfl, A', rfl, hA', (S.only (Bs := [A']) (zAi (by repeat (first | exact pk1 | apply zAc)) (zAo _))).tr⟩
theorem rbytes_body (p : Nat) (s : Rdr) (A : zAs) (w0 : World) (hA : RdC 108 p s A) (he : s.e = 0) (bk bp bo : Nat) (k : Int) (hk : k ≤ 9223372036854775807)
    (H : Hp w0 [A, [(bk, cel [.int .i64 k] 3)], [(bp, cel [ptr p] 79)], [(bo, cel [.slice none 0 0] 24)], []]) :
    Ret Tryz.prog 98 #[ptr bk, ptr bp, ptr bo] w0 fun u w' => ∃ (e' at' : Nat) (A' : zAs) (Rs' : List zAs), u = .int .i64 e' ∧ RdC 108 p { s with at_ := at' } A' ∧
      Trs w0 w' [A, [(bk, cel [.int .i64 k] 3)], [(bp, cel [ptr p] 79)], [(bo, cel [.slice none 0 0] 24)], []] (A' :: Rs') ∧ (s.bytes k).2 = { s with at_ := at', e := e' } ∧
      ∃ v C L, Rs'.Perm ([(bo, cel [v] 24)] :: C :: L) ∧ Buf C 5 1 v (s.bytes k).1.length (byt (s.bytes k).1) := by
  have S := St.begin H
  refine zGs 26 Tryz.func98 rfl rfl (by decide) ?_; intro a E
  refine wp_seq_k ?_; intro K hK
  refine zAa ?_
  refine zp E (zAe E rfl rfl) ?_; clear E a; intro a E
  refine wpList_nil ?_
  refine zAf hK ?_; clear hK; clear K
  iterate 2 (refine wp_seq_k ?_; intro K hK)
  refine zAa ?_
  refine zp E (by first | exact zAq E rfl rfl rfl (S.get (by repeat (first | exact pk1 | apply zAc))) rfl | exact zAl E rfl rfl rfl (by assumption)) ?_; clear E a; intro a E
  refine zp E (zCw E rfl rfl rfl) ?_; clear E a; intro a E
  refine wpList_nil ?_
  refine zAf hK ?_; clear hK; clear K
  refine zBj E rfl (fun hb => ?_) (fun hb => ?_)
  · replace hb := Nrm.nrm hb
    refine wp_seq_k ?_; intro K hK
    refine zAa ?_
    refine zp E (zAe E rfl rfl) ?_; clear E a; intro a E
    refine wpList_nil ?_
    refine zAf hK ?_; clear hK; clear K
    refine wp_ret ?_
    refine zAv ?_; clear hK; clear K
    refine ret1 E rfl rfl ?_
    have hv : s.bytes k = ([], { s with e := 1 }) := by simp [Rdr.bytes, he, show k < 0 by omega]
    exact ⟨_, rfl, 1, s.at_, A, _, rfl, hA, (S.only (Bs := [A, [(bo, cel [.slice none 0 0] 24)], []]) (zAi (by repeat (first | exact pk1 | apply zAc)) (zAi (by repeat (first | exact pk1 | apply zAc)) (zAi (by repeat (first | exact pk1 | apply zAc)) (zAo _))))).tr, by rw [hv], _, [], [], pk1, by rw [hv]; exact Buf.nil _ _⟩
  · replace hb := Nrm.nrm hb
    refine wp_skip ?_
    refine zAf hK ?_; clear hK; clear K
    refine wp_seq_k ?_; intro K hK
    obtain ⟨kn, rfl⟩ : ∃ kn : Nat, k = kn := ⟨k.toNat, by omega⟩
    refine zAa ?_
    iterate 2 (refine zp E (by first | exact zAq E rfl rfl rfl (S.get (by repeat (first | exact pk1 | apply zAc))) rfl | exact zAl E rfl rfl rfl (by assumption)) ?_; clear E a; intro a E)
    refine zAn E rfl rfl (by decide) rfl Tryz.func89 rfl (by kernel_rfl) rfl (zIl p s A _ hA (S.hp.sel (zAi (by repeat (first | exact pk1 | apply zAc)) (zAo _))) kn 0 (by omega) (by omega)) ?_
    rintro v11 w ⟨hT, hres⟩; clear E a; intro a E
    have S := S.call1 (zAi (by repeat (first | exact pk1 | apply zAc)) (zAo _)) hT
    rcases hres with ⟨hlt, rfl⟩ | ⟨hle, adb, cb, rfl, hR⟩
    · skip
      refine zp E (zAd E rfl rfl) ?_; clear E a; intro a E
      iterate 2 (refine zp E (zBh E rfl rfl rfl) ?_; clear E a; intro a E)
      iterate 2 (refine zp E (zAe E rfl rfl) ?_; clear E a; intro a E)
      refine wpList_nil ?_
      refine zAf hK ?_; clear hK; clear K
      iterate 2 (refine wp_seq_k ?_; intro K hK)
      refine zAa ?_
      refine zp E (zAd E rfl rfl) ?_; clear E a; intro a E
      refine zp E (zDl E rfl rfl) ?_; clear E a; intro a E
      refine wpList_nil ?_
      refine zAf hK ?_; clear hK; clear K
      refine zBy E rfl (rfl) ?_
      refine wp_seq_k ?_; intro K hK
      refine zAa ?_
      refine zp E (zAe E rfl rfl) ?_; clear E a; intro a E
      refine wpList_nil ?_
      refine zAf hK ?_; clear hK; clear K
      refine wp_ret ?_
      refine zAv ?_; clear hK; clear K
      refine ret1 E rfl rfl ?_
      have hv : s.bytes kn = ([], { s with e := 10 }) := by simp [Rdr.bytes, he, show s.bs.length < s.at_ + kn by omega, show ¬ (kn : Int) < 0 by omega]
      exact ⟨_, rfl, 10, s.at_, A, _, rfl, hA, (S.only (Bs := [A, [(bo, cel [.slice none 0 0] 24)], []]) (zAi (by repeat (first | exact pk1 | apply zAc)) (zAi (by repeat (first | exact pk1 | apply zAc)) (zAi (by repeat (first | exact pk1 | apply zAc)) (zAo _))))).tr, by rw [hv], _, [], [], pk1, by rw [hv]; exact Buf.nil _ _⟩
    · skip
      refine zp E (zAd E rfl rfl) ?_; clear E a; intro a E
      iterate 2 (refine zp E (zBh E rfl rfl rfl) ?_; clear E a; intro a E)
      iterate 2 (refine zp E (zAe E rfl rfl) ?_; clear E a; intro a E)
      refine wpList_nil ?_
      refine zAf hK ?_; clear hK; clear K
      iterate 2 (refine wp_seq_k ?_; intro K hK)
      refine zAa ?_
      refine zp E (zAd E rfl rfl) ?_; clear E a; intro a E
      refine zp E (zDl E rfl rfl) ?_; clear E a; intro a E
      refine wpList_nil ?_
      refine zAf hK ?_; clear hK; clear K
      refine zCl E rfl (rfl) ?_
      refine wp_skip ?_
      refine zAf hK ?_; clear hK; clear K
      refine wp_seq_k ?_; intro K hK
      have hlen := hA.2.1
      refine zAa ?_
      refine zp E (zAd E rfl rfl) ?_; clear E a; intro a E
      refine zAn E rfl rfl (by decide) rfl Tryz.func70 rfl (by kernel_rfl) rfl (zHu A _ (s.cut kn 0) _ (by rw [s.cut_length kn 0 hle]; exact hR) (S.hp.sel (zAi (by repeat (first | exact pk1 | apply zAc)) (zAo _))) (by rw [s.cut_length kn 0 hle]; omega)) ?_
      rintro v17 w ⟨g, rfl, hT⟩; clear E a; intro a E
      have S := S.call2 (zAi (by repeat (first | exact pk1 | apply zAc)) (zAo _)) hT
      refine zAm rfl (zBk E S rfl rfl rfl rfl rfl rfl (by repeat (first | exact pk1 | apply zAc)) (by first | exact Nat.le_of_ble_eq_true rfl | (simp; done) | (simp; omega)) ?_); clear E S a; intro a w E S; try dsimp only [List.set] at S
      refine wpList_nil ?_
      obtain ⟨hat, hlen, ad, c, C, rfl, hc, hRC⟩ := hA
      have S := (S.only (Bs := [[(p, cel [.slice ad s.bs.length c, .int .i64 s.at_, .int .i64 s.e] 108)] ++ C, [(bk, cel [.int .i64 kn] 3)], [(bp, cel [ptr p] 79)], [(bo, _)], [(g, _)]]) (zAi (by repeat (first | exact pk1 | apply zAc)) (zAi (by repeat (first | exact pk1 | apply zAc)) (zAi (by repeat (first | exact pk1 | apply zAc)) (zAi (by repeat (first | exact pk1 | apply zAc)) (zAi (by repeat (first | exact pk1 | apply zAc)) (zAo _))))))).split
      refine zAf hK ?_; clear hK; clear K
      refine wp_seq_k ?_; intro K hK
      refine zCa S (.ofL [(0, 0), (1, 0), (2, 0), (3, 0), (4, 0), (5, 0), (6, 0), (7, 0), (8, 3)]) (by kernel_rfl) (by kernel_rfl) ?_
      clear S; intro w S
      refine zm E rfl (fun w h => by first | exact zAq E rfl rfl rfl (h.one (by repeat (first | exact mm1 | assumption | apply List.Mem.tail))) rfl | exact zAl E rfl rfl rfl (by assumption)) ?_; clear E a; intro a E
      refine zm E rfl (fun w h => zBb E rfl rfl) ?_; clear E a; intro a E
      refine zm E rfl (fun w h => by first | exact zAg (q := 1) E rfl rfl rfl | exact zAh (q := 1) E rfl rfl rfl) ?_; clear E a; intro a E
      iterate 2 (refine zm E rfl (fun w h => by first | exact zAq E rfl rfl rfl (h.one (by repeat (first | exact mm1 | assumption | apply List.Mem.tail))) rfl | exact zAl E rfl rfl rfl (by assumption)) ?_; clear E a; intro a E)
      refine zm E rfl (fun w h => zCc E rfl rfl rfl (by first | exact wa1 (by omega) | exact w_in (by omega) | exact zCb (by omega) | exact rfl)) ?_; clear E a; intro a E
      refine zm E rfl (fun w h => zBb E rfl rfl) ?_; clear E a; intro a E
      refine zm E rfl (fun w h => by first | exact zAg (q := 1) E rfl rfl rfl | exact zAh (q := 1) E rfl rfl rfl) ?_; clear E a; intro a E
      refine zCy rfl rfl (zBk E S rfl rfl rfl rfl rfl rfl (by repeat (first | exact pk1 | apply zAc)) (by first | exact Nat.le_of_ble_eq_true rfl | (simp; done) | (simp; omega)) ?_); clear E S a; intro a w E S; try dsimp only [List.set] at S
      refine zCd ?_
      refine zAf hK ?_; clear hK; clear K
      refine wp_seq_k ?_; intro K hK
      replace E := E.keep (e' := [(3, _)]) (zAb rfl (zAr))
      refine zAa ?_
      refine zp E (zAe E rfl rfl) ?_; clear E a; intro a E
      refine wpList_nil ?_
      refine zAf hK ?_; clear hK; clear K
      refine wp_ret ?_
      refine ret1 E rfl rfl ?_
      have hv : s.bytes kn = (s.cut kn 0, { s with at_ := s.at_ + kn }) := by simp [Rdr.bytes, he, show ¬ (kn : Int) < 0 by omega, show ¬ s.bs.length < s.at_ + kn by omega]
      refine ⟨_, rfl, 0, s.at_ + kn, _, _, rfl, ⟨by simp only; omega, hlen, ad, c, C, rfl, hc, hRC⟩, (S.join.only (Bs := [_, [(bo, _)], [(g, _)]]) (zAi (by repeat (first | exact pk1 | apply zAc)) (zAi (by repeat (first | exact pk1 | apply zAc)) (zAi (by repeat (first | exact pk1 | apply zAc)) (zAo _))))).tr, by rw [hv, ← he], _, _, [], pk1, ?_⟩
      rw [hv]
      exact buf_block rfl (by rw [s.cut_length kn 0 hle]; omega)
theorem rbytes_ret (p : Nat) (s : Rdr) (A : zAs) (w0 : World) (hA : RdC 108 p s A) (H : Hp w0 [A]) (k : Int) (hk : k ≤ 9223372036854775807) :
    Ret Tryz.prog 68 #[ptr p, .int .i64 k] w0 fun u w' => ∃ A' C, RdC 108 p (s.bytes k).2 A' ∧ Trs w0 w' [A] [A', C] ∧ Buf C 5 1 u (s.bytes k).1.length (byt (s.bytes k).1) := by
  have S := St.begin H
  refine zCg 10 Tryz.func68 rfl rfl (by decide) ?_; intro a E
  refine wp_seq_k ?_; intro K hK
  refine zAa ?_
  refine zAm rfl (zCk E S rfl rfl (by decide) rfl rfl ?_); clear E S a; intro a w b2 E S
  refine zAm rfl (zCk E S rfl rfl (by decide) rfl rfl ?_); clear E S a; intro a w b3 E S
  refine zp E (zAe E rfl rfl) ?_; clear E a; intro a E
  refine wpList_nil ?_
  refine zAf hK ?_; clear hK; clear K
  refine wp_seq_k ?_; intro K hK
  refine zAa ?_
  refine zAm rfl (zBr E S rfl rfl (by decide) rfl rfl rfl ?_); clear E S a; intro a w b5 E S
  refine wpList_nil ?_
  refine zAf hK ?_; clear hK; clear K
  refine wp_seq_k ?_; intro K hK
  have S := S.addNil.perm (Bs := [A, [(b3, cel [.int .i64 k] 3)], [(b2, cel [ptr p] 79)], [(b5, cel [.slice none 0 0] 24)], []]) (zAi (by repeat (first | exact pk1 | apply zAc)) (zAi (by repeat (first | exact pk1 | apply zAc)) (zAi (by repeat (first | exact pk1 | apply zAc)) (zAi (by repeat (first | exact pk1 | apply zAc)) (zAi (by repeat (first | exact pk1 | apply zAc)) (zAo _))))))
  refine zAa ?_
  refine zp E (by first | exact zAq E rfl rfl rfl (S.get (by repeat (first | exact pk1 | apply zAc))) rfl | exact zAl E rfl rfl rfl (by assumption)) ?_; clear E a; intro a E
  refine zp E (zEe E rfl rfl ⟨_, rfl⟩) ?_; clear E a; intro a E
  refine zAn E rfl rfl (by decide) rfl Tryz.func87 rfl (by kernel_rfl) rfl (zLc (s.bytes k).2 (fun Rs' => ∃ v C L, Rs'.Perm ([(b5, cel [v] 24)] :: C :: L) ∧ Buf C 5 1 v (s.bytes k).1.length (byt (s.bytes k).1)) 98 _ [ptr b3, ptr b2, ptr b5] Tryz.func98 rfl (by kernel_rfl) p s A [[(b3, cel [.int .i64 k] 3)], [(b2, cel [ptr p] 79)], [(b5, cel [.slice none 0 0] 24)], []] w hA S.hp (fun h => ⟨by simp [Rdr.bytes, h], _, [], _, pk3.trans (pk3.cons _), by simp only [Rdr.bytes, h, if_true, ne_eq, not_false_eq_true]; exact Buf.nil _ _⟩) (fun h => rbytes_body p s A w hA h b3 b2 b5 k hk S.hp)) ?_
  rintro v8 w ⟨A', Rs', hA', hT, v, C, L, hL, hB⟩; clear E a; intro a E
  have S := (S.all hT).perm (hL.cons A')
  obtain ⟨adv, cv, rfl⟩ := hB.slice
  refine wpList_nil ?_
  refine zAf hK ?_; clear hK; clear K
  refine wp_seq_k ?_; intro K hK
  refine zAa ?_
  refine zp E (by first | exact zAq E rfl rfl rfl (S.get (by repeat (first | exact pk1 | apply zAc))) rfl | exact zAl E rfl rfl rfl (by assumption)) ?_; clear E a; intro a E
  refine zp E (zAe E rfl rfl) ?_; clear E a; intro a E
  refine wpList_nil ?_
  refine zAf hK ?_; clear hK; clear K
  refine wp_ret ?_
  refine ret1 E rfl rfl ?_
  exact ⟨_, rfl, A', C, hA', (S.only (Bs := [A', C]) (zAi pk1 (zAi pk2 (zAo _)))).tr, hB⟩
theorem rtext_body (p : Nat) (s : Rdr) (A : zAs) (w0 : World) (hA : RdC 108 p s A) (he : s.e = 0) (bk bp bo : Nat) (most : Int)
    (H : Hp w0 [A, [(bk, cel [.int .i64 most] 3)], [(bp, cel [ptr p] 79)], [(bo, cel [str []] 9)]]) :
    Ret Tryz.prog 93 #[ptr bp, ptr bk, ptr bo] w0 fun u w' => ∃ (e' at' : Nat) (A' : zAs) (Rs' : List zAs), u = .int .i64 e' ∧ RdC 108 p { s with at_ := at' } A' ∧
      Trs w0 w' [A, [(bk, cel [.int .i64 most] 3)], [(bp, cel [ptr p] 79)], [(bo, cel [str []] 9)]] (A' :: Rs') ∧ (s.text most).2 = { s with at_ := at', e := e' } ∧ ∃ L, Rs'.Perm ([(bo, cel [str (s.text most).1] 9)] :: L) := by
  have S := St.begin H
  have hlen := hA.2.1
  refine zGs 40 Tryz.func93 rfl rfl (by decide) ?_; intro a E
  refine wp_seq_k ?_; intro K hK
  refine zAa ?_
  refine zp E (zAe E rfl rfl) ?_; clear E a; intro a E
  refine wpList_nil ?_
  refine zAf hK ?_; clear hK; clear K
  refine wp_seq_k ?_; intro K hK
  refine zAa ?_
  refine zp E (by first | exact zAq E rfl rfl rfl (S.get (by repeat (first | exact pk1 | apply zAc))) rfl | exact zAl E rfl rfl rfl (by assumption)) ?_; clear E a; intro a E
  refine zAn E rfl rfl (by decide) rfl Tryz.func89 rfl (by kernel_rfl) rfl (zIl p s A _ hA (S.hp.sel (zAi (by repeat (first | exact pk1 | apply zAc)) (zAo _))) 2 0 (by omega) (by omega)) ?_
  rintro v10 w ⟨hT, hres⟩; clear E a; intro a E
  have S := S.call1 (zAi (by repeat (first | exact pk1 | apply zAc)) (zAo _)) hT
  rcases hres with ⟨hlt, rfl⟩ | ⟨hle, adb, cb, rfl, hR⟩
  · skip
    refine zp E (zAd E rfl rfl) ?_; clear E a; intro a E
    iterate 2 (refine zp E (zBh E rfl rfl rfl) ?_; clear E a; intro a E)
    iterate 2 (refine zp E (zAe E rfl rfl) ?_; clear E a; intro a E)
    refine wpList_nil ?_
    refine zAf hK ?_; clear hK; clear K
    iterate 2 (refine wp_seq_k ?_; intro K hK)
    refine zAa ?_
    refine zp E (zAd E rfl rfl) ?_; clear E a; intro a E
    refine zp E (zDl E rfl rfl) ?_; clear E a; intro a E
    refine wpList_nil ?_
    refine zAf hK ?_; clear hK; clear K
    refine zBy E rfl (rfl) ?_
    refine wp_seq_k ?_; intro K hK
    refine zAa ?_
    refine zp E (zAe E rfl rfl) ?_; clear E a; intro a E
    refine wpList_nil ?_
    refine zAf hK ?_; clear hK; clear K
    refine wp_ret ?_
    refine zAv ?_; clear hK; clear K
    refine ret1 E rfl rfl ?_
    have hv : s.text most = ([], { s with e := 10 }) := by simp [Rdr.text, he, show s.bs.length < s.at_ + 2 by omega]
    exact ⟨_, rfl, 10, s.at_, A, _, rfl, hA, (S.only (Bs := [A, [(bo, cel [str []] 9)]]) (zAi (by repeat (first | exact pk1 | apply zAc)) (zAi (by repeat (first | exact pk1 | apply zAc)) (zAo _)))).tr, by rw [hv], [], by first | (rw [hv]; done) | (rw [hv]; exact pk1)⟩
  · skip
    refine zp E (zAd E rfl rfl) ?_; clear E a; intro a E
    iterate 2 (refine zp E (zBh E rfl rfl rfl) ?_; clear E a; intro a E)
    iterate 2 (refine zp E (zAe E rfl rfl) ?_; clear E a; intro a E)
    refine wpList_nil ?_
    refine zAf hK ?_; clear hK; clear K
    iterate 2 (refine wp_seq_k ?_; intro K hK)
    refine zAa ?_
    refine zp E (zAd E rfl rfl) ?_; clear E a; intro a E
    refine zp E (zDl E rfl rfl) ?_; clear E a; intro a E
    refine wpList_nil ?_
    refine zAf hK ?_; clear hK; clear K
    refine zCl E rfl (rfl) ?_
    refine wp_skip ?_
    refine zAf hK ?_; clear hK; clear K
    refine wp_seq_k ?_; intro K hK
    have hnl := zFu (s.cut 2 0)
    rw [s.cut_length 2 0 hle] at hnl
    refine zAa ?_
    refine zp E (zAd E rfl rfl) ?_; clear E a; intro a E
    refine zAn E rfl rfl (by decide) rfl Tryz.func73 rfl (by kernel_rfl) rfl (zJf A _ (s.cut 2 0) _ (by rw [s.cut_length 2 0 hle]; exact hR) (S.stab.at (by repeat (first | exact mm1 | assumption | apply List.Mem.tail))) (by rw [s.cut_length 2 0 hle]; omega)) ?_
    rintro v16 w ⟨rfl, rfl⟩; clear E a; intro a E
    refine zp E (by first | exact zBi E rfl rfl rfl rfl (by first | exact wu8 _ | exact zFj (by omega) | exact zDt (by omega) | exact w_in (by omega) | exact zCb (by omega) | exact rfl) | exact zBz E rfl rfl rfl rfl rfl (by assumption) (S.stab.at (by simp))) ?_; clear E a; intro a E
    refine zp E (zAe E rfl rfl) ?_; clear E a; intro a E
    refine wpList_nil ?_
    refine zAf hK ?_; clear hK; clear K
    iterate 2 (refine wp_seq_k ?_; intro K hK)
    refine zAa ?_
    refine zp E (zAd E rfl rfl) ?_; clear E a; intro a E
    refine zp E (by first | exact zAq E rfl rfl rfl (S.get (by repeat (first | exact pk1 | apply zAc))) rfl | exact zAl E rfl rfl rfl (by assumption)) ?_; clear E a; intro a E
    refine zp E (zEi E rfl rfl rfl) ?_; clear E a; intro a E
    refine wpList_nil ?_
    refine zAf hK ?_; clear hK; clear K
    refine zBj E rfl (fun hb => ?_) (fun hb => ?_)
    · replace hb := Nrm.nrm hb
      refine wp_seq_k ?_; intro K hK
      refine zAa ?_
      refine zp E (zAe E rfl rfl) ?_; clear E a; intro a E
      refine wpList_nil ?_
      refine zAf hK ?_; clear hK; clear K
      refine wp_ret ?_
      refine zAv ?_; clear hK; clear K
      refine ret1 E rfl rfl ?_
      have hv : s.text most = ([], { s with e := 11 }) := by simp [Rdr.text, he, show ¬ s.bs.length < s.at_ + 2 by omega, show most < (zCh (s.cut 2 0) : Int) by omega]
      exact ⟨_, rfl, 11, s.at_, A, _, rfl, hA, (S.only (Bs := [A, [(bo, cel [str []] 9)]]) (zAi (by repeat (first | exact pk1 | apply zAc)) (zAi (by repeat (first | exact pk1 | apply zAc)) (zAo _)))).tr, by rw [hv], [], by first | (rw [hv]; done) | (rw [hv]; exact pk1)⟩
    · replace hb := Nrm.nrm hb
      refine wp_skip ?_
      refine zAf hK ?_; clear hK; clear K
      refine wp_seq_k ?_; intro K hK
      refine zAa ?_
      refine zp E (by first | exact zAq E rfl rfl rfl (S.get (by repeat (first | exact pk1 | apply zAc))) rfl | exact zAl E rfl rfl rfl (by assumption)) ?_; clear E a; intro a E
      refine zp E (zAd E rfl rfl) ?_; clear E a; intro a E
      refine zAn E rfl rfl (by decide) rfl Tryz.func89 rfl (by kernel_rfl) rfl (zIl p s A _ hA (S.hp.sel (zAi (by repeat (first | exact pk1 | apply zAc)) (zAo _))) (zCh (s.cut 2 0)) 2 (by omega) (by omega)) ?_
      rintro v24 w ⟨hT, hres⟩; clear E a; intro a E
      have S := S.call1 (zAi (by repeat (first | exact pk1 | apply zAc)) (zAo _)) hT
      rcases hres with ⟨hlt, rfl⟩ | ⟨hle2, adb2, cb2, rfl, hR2⟩
      · skip
        refine zp E (zAd E rfl rfl) ?_; clear E a; intro a E
        iterate 2 (refine zp E (zBh E rfl rfl rfl) ?_; clear E a; intro a E)
        iterate 2 (refine zp E (zAe E rfl rfl) ?_; clear E a; intro a E)
        refine wpList_nil ?_
        refine zAf hK ?_; clear hK; clear K
        iterate 2 (refine wp_seq_k ?_; intro K hK)
        replace E := E.keep (e' := [(0, _), (2, _), (3, _), (5, _), (6, _), (7, _)]) (zAb rfl (zAb rfl (zAb rfl (zAb rfl (zAb rfl (zAb rfl (zAr)))))))
        refine zAa ?_
        refine zp E (zAd E rfl rfl) ?_; clear E a; intro a E
        refine zp E (zDl E rfl rfl) ?_; clear E a; intro a E
        refine wpList_nil ?_
        refine zAf hK ?_; clear hK; clear K
        refine zBy E rfl (rfl) ?_
        refine wp_seq_k ?_; intro K hK
        refine zAa ?_
        refine zp E (zAe E rfl rfl) ?_; clear E a; intro a E
        refine wpList_nil ?_
        refine zAf hK ?_; clear hK; clear K
        refine wp_ret ?_
        refine zAv ?_; clear hK; clear K
        refine ret1 E rfl rfl ?_
        have hv : s.text most = ([], { s with e := 10 }) := by simp [Rdr.text, he, show ¬ s.bs.length < s.at_ + 2 by omega, show ¬ most < (zCh (s.cut 2 0) : Int) by omega, show s.bs.length < s.at_ + 2 + zCh (s.cut 2 0) by omega]
        exact ⟨_, rfl, 10, s.at_, A, _, rfl, hA, (S.only (Bs := [A, [(bo, cel [str []] 9)]]) (zAi (by repeat (first | exact pk1 | apply zAc)) (zAi (by repeat (first | exact pk1 | apply zAc)) (zAo _)))).tr, by rw [hv], [], by first | (rw [hv]; done) | (rw [hv]; exact pk1)⟩
      · skip
        refine zp E (zAd E rfl rfl) ?_; clear E a; intro a E
        iterate 2 (refine zp E (zBh E rfl rfl rfl) ?_; clear E a; intro a E)
        iterate 2 (refine zp E (zAe E rfl rfl) ?_; clear E a; intro a E)
        refine wpList_nil ?_
        refine zAf hK ?_; clear hK; clear K
        iterate 2 (refine wp_seq_k ?_; intro K hK)
        replace E := E.keep (e' := [(0, _), (2, _), (3, _), (5, _), (6, _), (7, _)]) (zAb rfl (zAb rfl (zAb rfl (zAb rfl (zAb rfl (zAb rfl (zAr)))))))
        refine zAa ?_
        refine zp E (zAd E rfl rfl) ?_; clear E a; intro a E
        refine zp E (zDl E rfl rfl) ?_; clear E a; intro a E
        refine wpList_nil ?_
        refine zAf hK ?_; clear hK; clear K
        refine zCl E rfl (rfl) ?_
        refine wp_skip ?_
        refine zAf hK ?_; clear hK; clear K
        refine wp_seq_k ?_; intro K hK
        refine zAa ?_
        refine zp E (zAd E rfl rfl) ?_; clear E a; intro a E
        refine zp E (zBz E rfl rfl rfl rfl rfl (bs := s.cut (zCh (s.cut 2 0)) 2) (by rw [s.cut_length _ 2 hle2]; exact hR2) (S.stab.at (by repeat (first | exact mm1 | assumption | apply List.Mem.tail)))) ?_; clear E a; intro a E
        refine zAm rfl (zBk E S rfl rfl rfl rfl rfl rfl (by repeat (first | exact pk1 | apply zAc)) (by first | exact Nat.le_of_ble_eq_true rfl | (simp; done) | (simp; omega)) ?_); clear E S a; intro a w E S; try dsimp only [List.set] at S
        refine wpList_nil ?_
        obtain ⟨hat, hlen, ad, c, C, rfl, hc, hRC⟩ := hA
        have S := (S.perm (Bs := [[(p, cel [.slice ad s.bs.length c, .int .i64 s.at_, .int .i64 s.e] 108)] ++ C, _, _, _]) (zAi (by repeat (first | exact pk1 | apply zAc)) (zAi (by repeat (first | exact pk1 | apply zAc)) (zAi (by repeat (first | exact pk1 | apply zAc)) (zAi (by repeat (first | exact pk1 | apply zAc)) (zAo _)))))).split
        refine zAf hK ?_; clear hK; clear K
        refine wp_seq_k ?_; intro K hK
        refine zAa ?_
        refine zp E (by first | exact zAq E rfl rfl rfl (S.get (by repeat (first | exact pk1 | apply zAc))) rfl | exact zAl E rfl rfl rfl (by assumption)) ?_; clear E a; intro a E
        refine zp E (zBb E rfl rfl) ?_; clear E a; intro a E
        refine zp E (by first | exact zAg (q := 1) E rfl rfl rfl | exact zAh (q := 1) E rfl rfl rfl) ?_; clear E a; intro a E
        refine zp E (by first | exact zAq E rfl rfl rfl (S.get (by repeat (first | exact pk1 | apply zAc))) rfl | exact zAl E rfl rfl rfl (by assumption)) ?_; clear E a; intro a E
        refine zp E (zAd E rfl rfl) ?_; clear E a; intro a E
        refine zp E (zCc E rfl rfl rfl (by first | exact wa_lit2 (x := 2) (by omega) | exact w_in (by omega) | exact zCb (by omega) | exact rfl)) ?_; clear E a; intro a E
        refine zp E (zCc E rfl rfl rfl (by first | exact wa1 (by omega) | exact w_in (by omega) | exact zCb (by omega) | exact rfl)) ?_; clear E a; intro a E
        refine zp E (zBb E rfl rfl) ?_; clear E a; intro a E
        refine zp E (by first | exact zAg (q := 1) E rfl rfl rfl | exact zAh (q := 1) E rfl rfl rfl) ?_; clear E a; intro a E
        refine zAm rfl (zBk E S rfl rfl rfl rfl rfl rfl (by repeat (first | exact pk1 | apply zAc)) (by first | exact Nat.le_of_ble_eq_true rfl | (simp; done) | (simp; omega)) ?_); clear E S a; intro a w E S; try dsimp only [List.set] at S
        refine wpList_nil ?_
        refine zAf hK ?_; clear hK; clear K
        refine wp_seq_k ?_; intro K hK
        refine zAa ?_
        refine zp E (zAe E rfl rfl) ?_; clear E a; intro a E
        refine wpList_nil ?_
        refine zAf hK ?_; clear hK; clear K
        refine wp_ret ?_
        refine ret1 E rfl rfl ?_
        have hv : s.text most = (s.cut (zCh (s.cut 2 0)) 2, { s with at_ := s.at_ + (2 + zCh (s.cut 2 0)) }) := by simp [Rdr.text, he, show ¬ s.bs.length < s.at_ + 2 by omega, show ¬ most < (zCh (s.cut 2 0) : Int) by omega, show ¬ s.bs.length < s.at_ + 2 + zCh (s.cut 2 0) by omega]
        exact ⟨_, rfl, 0, s.at_ + (2 + zCh (s.cut 2 0)), _, _, rfl, ⟨by simp only; omega, hlen, ad, c, C, rfl, hc, hRC⟩, S.join.tr, by rw [hv, ← he], _, by first | (rw [hv]; done) | (rw [hv]; exact pk1)⟩
theorem zGe (p : Nat) (s : Rdr) (A : zAs) (w0 : World) (hA : RdC 108 p s A) (H : Hp w0 [A]) (most : Int) :
    Ret Tryz.prog 53 #[ptr p, .int .i64 most] w0 fun u w' => ∃ A', u = str (s.text most).1 ∧ RdC 108 p (s.text most).2 A' ∧ Trs w0 w' [A] [A'] := by
  have S := St.begin H
  refine zCg 10 Tryz.func53 rfl rfl (by decide) ?_; intro a E
  refine wp_seq_k ?_; intro K hK
  refine zAa ?_
  refine zAm rfl (zCk E S rfl rfl (by decide) rfl rfl ?_); clear E S a; intro a w b2 E S
  refine zAm rfl (zCk E S rfl rfl (by decide) rfl rfl ?_); clear E S a; intro a w b3 E S
  refine zp E (zAe E rfl rfl) ?_; clear E a; intro a E
  refine wpList_nil ?_
  refine zAf hK ?_; clear hK; clear K
  refine wp_seq_k ?_; intro K hK
  refine zAa ?_
  refine zAm rfl (zBr E S rfl rfl (by decide) rfl rfl rfl ?_); clear E S a; intro a w b5 E S
  refine wpList_nil ?_
  refine zAf hK ?_; clear hK; clear K
  refine wp_seq_k ?_; intro K hK
  have S := S.perm (Bs := [A, [(b3, cel [.int .i64 most] 3)], [(b2, cel [ptr p] 79)], [(b5, cel [str []] 9)]]) (zAi (by repeat (first | exact pk1 | apply zAc)) (zAi (by repeat (first | exact pk1 | apply zAc)) (zAi (by repeat (first | exact pk1 | apply zAc)) (zAi (by repeat (first | exact pk1 | apply zAc)) (zAo _)))))
  refine zAa ?_
  refine zp E (by first | exact zAq E rfl rfl rfl (S.get (by repeat (first | exact pk1 | apply zAc))) rfl | exact zAl E rfl rfl rfl (by assumption)) ?_; clear E a; intro a E
  refine zp E (zEe E rfl rfl ⟨_, rfl⟩) ?_; clear E a; intro a E
  refine zAn E rfl rfl (by decide) rfl Tryz.func87 rfl (by kernel_rfl) rfl (zLc (s.text most).2 (fun Rs' => ∃ L, Rs'.Perm ([(b5, cel [str (s.text most).1] 9)] :: L)) 93 _ [ptr b2, ptr b3, ptr b5] Tryz.func93 rfl (by kernel_rfl) p s A [[(b3, cel [.int .i64 most] 3)], [(b2, cel [ptr p] 79)], [(b5, cel [str []] 9)]] w hA S.hp (fun h => ⟨by simp [Rdr.text, h], _, by simp only [Rdr.text, h, if_true, ne_eq, not_false_eq_true]; exact pk3⟩) (fun h => rtext_body p s A w hA h b3 b2 b5 most S.hp)) ?_
  rintro v8 w ⟨A', Rs', hA', hT, L, hL⟩; clear E a; intro a E
  have S := (S.all hT).perm (hL.cons A')
  refine wpList_nil ?_
  refine zAf hK ?_; clear hK; clear K
  refine wp_seq_k ?_; intro K hK
  refine zAa ?_
  refine zp E (by first | exact zAq E rfl rfl rfl (S.get (by repeat (first | exact pk1 | apply zAc))) rfl | exact zAl E rfl rfl rfl (by assumption)) ?_; clear E a; intro a E
  refine zp E (zAe E rfl rfl) ?_; clear E a; intro a E
  refine wpList_nil ?_
  refine zAf hK ?_; clear hK; clear K
  refine wp_ret ?_
  refine ret1 E rfl rfl ?_
  exact ⟨_, rfl, A', rfl, hA', (S.only (Bs := [A']) (zAi (by repeat (first | exact pk1 | apply zAc)) (zAo _))).tr⟩
theorem left_ret (p : Nat) (s : Rdr) (A : zAs) (w0 : World) (hA : RdC 108 p s A) (H : Hp w0 [A]) :
    Ret Tryz.prog 90 #[ptr p] w0 fun u w' => u = .int .i64 s.left ∧ Trs w0 w' [A] [A] := by
  obtain ⟨hat, hlen, ad, c, C, rfl, hc, hR⟩ := hA
  have S := (St.begin H).split
  refine zDh 13 Tryz.func90 rfl rfl (by decide) ?_; intro a E
  refine wp_seq_k ?_; intro K hK
  refine zAa ?_
  refine zp E (zAe E rfl rfl) ?_; clear E a; intro a E
  refine wpList_nil ?_
  refine zAf hK ?_; clear hK; clear K
  refine wp_seq_k ?_; intro K hK
  refine zCa S (.ofL [(0, 0), (1, 0), (2, 0), (3, 0), (4, 0), (5, 0), (6, 0), (7, 0), (8, 0), (9, 0), (10, 0)]) (by kernel_rfl) (by kernel_rfl) ?_
  clear S; intro w S
  refine zm E rfl (fun w h => zAd E rfl rfl) ?_; clear E a; intro a E
  refine zm E rfl (fun w h => zBb E rfl rfl) ?_; clear E a; intro a E
  refine zm E rfl (fun w h => by first | exact zAg (q := 0) E rfl rfl rfl | exact zAh (q := 0) E rfl rfl rfl) ?_; clear E a; intro a E
  refine zm E rfl (fun w h => by first | exact zAq E rfl rfl rfl (h.one (by repeat (first | exact mm1 | assumption | apply List.Mem.tail))) rfl | exact zAl E rfl rfl rfl (by assumption)) ?_; clear E a; intro a E
  refine zm E rfl (fun w h => by first | exact zBv E rfl rfl rfl | exact zAx E rfl rfl rfl | exact zAp E rfl rfl rfl) ?_; clear E a; intro a E
  refine zm E rfl (fun w h => zAd E rfl rfl) ?_; clear E a; intro a E
  refine zm E rfl (fun w h => zBb E rfl rfl) ?_; clear E a; intro a E
  refine zm E rfl (fun w h => by first | exact zAg (q := 1) E rfl rfl rfl | exact zAh (q := 1) E rfl rfl rfl) ?_; clear E a; intro a E
  refine zm E rfl (fun w h => by first | exact zAq E rfl rfl rfl (h.one (by repeat (first | exact mm1 | assumption | apply List.Mem.tail))) rfl | exact zAl E rfl rfl rfl (by assumption)) ?_; clear E a; intro a E
  refine zm E rfl (fun w h => zEw E rfl rfl rfl (by first | exact ws1 (by omega) (by omega) | exact w_in (by omega) | exact zCb (by omega) | exact rfl)) ?_; clear E a; intro a E
  refine zm E rfl (fun w h => zAe E rfl rfl) ?_; clear E a; intro a E
  refine zCd ?_
  refine zAf hK ?_; clear hK; clear K
  refine wp_ret ?_
  refine ret1 E rfl rfl ?_
  exact ⟨_, rfl, by simp only [Rdr.left]; congr 1; omega, S.join.tr⟩
theorem rdone_ret (p : Nat) (s : Rdr) (A : zAs) (w0 : World) (hA : RdC 108 p s A) (H : Hp w0 [A]) :
    Ret Tryz.prog 46 #[ptr p] w0 fun u w' => u = .int .i64 s.done ∧ Trs w0 w' [A] [A] := by
  have hA0 := hA
  obtain ⟨hat, hlen, ad, c, C, hAe, hc, hR⟩ := hA
  have S := St.begin H
  have S := (by rw [hAe] at S; exact S.split : St w0 _ w0 ([(p, cel [.slice ad s.bs.length c, .int .i64 s.at_, .int .i64 s.e] 108)] :: C :: _))
  have hl : s.left = s.bs.length - s.at_ := rfl
  refine zDh 17 Tryz.func46 rfl rfl (by decide) ?_; intro a E
  refine wp_seq_k ?_; intro K hK
  refine zAa ?_
  refine zp E (zAe E rfl rfl) ?_; clear E a; intro a E
  refine wpList_nil ?_
  refine zAf hK ?_; clear hK; clear K
  iterate 2 (refine wp_seq_k ?_; intro K hK)
  refine zAa ?_
  refine zp E (zAd E rfl rfl) ?_; clear E a; intro a E
  refine zp E (zBb E rfl rfl) ?_; clear E a; intro a E
  refine zp E (by first | exact zAg (q := 2) E rfl rfl rfl | exact zAh (q := 2) E rfl rfl rfl) ?_; clear E a; intro a E
  refine zp E (by first | exact zAq E rfl rfl rfl (S.get (by repeat (first | exact pk1 | apply zAc))) rfl | exact zAl E rfl rfl rfl (by assumption)) ?_; clear E a; intro a E
  refine zp E (by first | exact zCe E rfl rfl rfl | exact zAt E rfl rfl rfl rfl | exact zAz E rfl rfl rfl rfl | exact zAu E rfl rfl rfl) ?_; clear E a; intro a E
  refine zp E (zAd E rfl rfl) ?_; clear E a; intro a E
  refine zAw E (t := 8) rfl (fun hb8 => ?_) (fun hb8 => ?_)
  · have hb8n := hb8; replace hb8n := Nrm.nrm hb8n
    refine zy E hb8 (zAd E rfl rfl) ?_; clear E a; intro a E
    refine zBu E rfl rfl rfl rfl hb8 ?_; refine zCm E rfl (by decide) rfl Tryz.func90 rfl (by kernel_rfl) rfl (left_ret p s A _ hA0 H) ?_
    rintro v10 w ⟨rfl, hT⟩; clear E a; intro a E
    have S := (St.begin H).call1 (zAi (by repeat (first | exact pk1 | apply zAc)) (zAo _)) hT
    have S := (by rw [hAe] at S; exact S.split : St w0 _ _ ([(p, cel [.slice ad s.bs.length c, .int .i64 s.at_, .int .i64 s.e] 108)] :: C :: _))
    refine zy E hb8 (zEi E rfl rfl rfl) ?_; clear E a; intro a E
    refine zp E (zAk E rfl rfl hb8 rfl) ?_; clear E a; intro a E
    refine wpList_nil ?_
    refine zAf hK ?_; clear hK; clear K
    refine zBj E rfl (fun hb => ?_) (fun hb => ?_)
    · replace hb := Nrm.nrm hb
      refine wp_seq_k ?_; intro K hK
      refine zAa ?_
      refine zp E (zAe E rfl rfl) ?_; clear E a; intro a E
      refine wpList_nil ?_
      refine zAf hK ?_; clear hK; clear K
      refine wp_ret ?_
      refine zAv ?_; clear hK; clear K
      refine ret1 E rfl rfl ?_
      have S := S.join; rw [← hAe] at S
      exact ⟨_, rfl, by simp only [Rdr.done]; rw [if_pos (by omega)]; rfl, S.tr⟩
    · replace hb := Nrm.nrm hb
      refine wp_skip ?_
      refine zAf hK ?_; clear hK; clear K
      refine wp_seq_k ?_; intro K hK
      refine zAa ?_
      refine zp E (zAd E rfl rfl) ?_; clear E a; intro a E
      refine zp E (zBb E rfl rfl) ?_; clear E a; intro a E
      refine zp E (by first | exact zAg (q := 2) E rfl rfl rfl | exact zAh (q := 2) E rfl rfl rfl) ?_; clear E a; intro a E
      refine zp E (by first | exact zAq E rfl rfl rfl (S.get (by repeat (first | exact pk1 | apply zAc))) rfl | exact zAl E rfl rfl rfl (by assumption)) ?_; clear E a; intro a E
      refine zp E (zAe E rfl rfl) ?_; clear E a; intro a E
      refine wpList_nil ?_
      refine zAf hK ?_; clear hK; clear K
      refine wp_ret ?_
      refine ret1 E rfl rfl ?_
      have S := S.join; rw [← hAe] at S
      exact ⟨_, rfl, by simp only [Rdr.done]; rw [if_neg (by omega)], S.tr⟩
  · have hb8n := hb8; replace hb8n := Nrm.nrm hb8n
    iterate 3 (refine zn E hb8 ?_; clear E a; intro a E)
    refine zp E (zAj E rfl rfl hb8 rfl) ?_; clear E a; intro a E
    refine wpList_nil ?_
    refine zAf hK ?_; clear hK; clear K
    refine zCl E rfl rfl ?_
    refine wp_skip ?_
    refine zAf hK ?_; clear hK; clear K
    refine wp_seq_k ?_; intro K hK
    refine zAa ?_
    refine zp E (zAd E rfl rfl) ?_; clear E a; intro a E
    refine zp E (zBb E rfl rfl) ?_; clear E a; intro a E
    refine zp E (by first | exact zAg (q := 2) E rfl rfl rfl | exact zAh (q := 2) E rfl rfl rfl) ?_; clear E a; intro a E
    refine zp E (by first | exact zAq E rfl rfl rfl (S.get (by repeat (first | exact pk1 | apply zAc))) rfl | exact zAl E rfl rfl rfl (by assumption)) ?_; clear E a; intro a E
    refine zp E (zAe E rfl rfl) ?_; clear E a; intro a E
    refine wpList_nil ?_
    refine zAf hK ?_; clear hK; clear K
    refine wp_ret ?_
    refine ret1 E rfl rfl ?_
    have S := S.join; rw [← hAe] at S
    exact ⟨_, rfl, by simp only [Rdr.done]; rw [if_neg (by omega)], S.tr⟩
end Go.Proofs.YtbogecljkaimdaaGreatDoor
namespace Go.Sl
theorem num_fits {s : Wr} {n : Nat} {k : Nat} (he : s.e = 0) (h1 : 1 ≤ k) (h8 : k ≤ 8) (hn : n < 256 ^ k) (hr : s.bs.length + k ≤ s.room) : s.num n k = { s with bs := s.bs ++ zBm n k } := by
  have hb : ¬ ((k : Int) < 1 ∨ 8 < (k : Int)) := by omega
  have hg : ¬ n ≥ 256 ^ k := by omega
  have hf : s.fits (zBm n k) = true := by simp only [Wr.fits, zBa, decide_eq_true_eq]; omega
  simp [Wr.num, Wr.lay, numE, he, hb, Wr.putE, Wr.putS, hf, Nat.not_le.2 hn]
theorem zFv {n k : Nat} (h : n < 256 ^ k) : zCh (zBm n k) = n := by rw [zHt, Nat.mod_eq_of_lt h]
theorem zLd : ∀ (b : List UInt8), zBm (zCh b) b.length = b := by
  intro b
  have key : ∀ (k n m : Nat), n % 256 ^ k = m % 256 ^ k → zBm n k = zBm m k := by
    intro k
    induction k with
    | zero => intros; rfl
    | succ k ih =>
      intro n m h
      rw [zBm, zBm, ih n m (by
        have := congrArg (· % 256 ^ k) h
        simp only [Nat.pow_succ] at this
        rwa [Nat.mod_mul_right_mod, Nat.mod_mul_right_mod] at this)]
      congr 2
      have h2 : n / 256 ^ k % 256 = m / 256 ^ k % 256 := by
        have h1 : n % (256 ^ k * 256) = m % (256 ^ k * 256) := by rw [← Nat.pow_succ]; exact h
        rw [Nat.mod_mul, Nat.mod_mul] at h1
        have h0 : n % 256 ^ k = m % 256 ^ k := by
          have := congrArg (· % 256 ^ k) h
          simp only [Nat.pow_succ] at this
          rwa [Nat.mod_mul_right_mod, Nat.mod_mul_right_mod] at this
        rw [h0] at h1
        have hp : 0 < 256 ^ k := Nat.pow_pos (by omega)
        exact Nat.eq_of_mul_eq_mul_left hp (by omega)
      rw [Nat.pow_mul]
      apply UInt8.toNat_inj.1
      simpa using h2
  have h2 : ∀ (xs : List UInt8), zBm (zCh xs) xs.length = xs := by
    intro xs
    generalize hk : xs.length = k
    induction k generalizing xs with
    | zero => simp [List.length_eq_zero_iff.1 hk, zBm]
    | succ k ih =>
      rw [zBm]
      have e : xs = xs.take k ++ [xs[k]] := by
        have := List.take_append_getElem (l := xs) (i := k) (by omega)
        rw [this, List.take_of_length_le (by omega)]
      have hlt : (xs.take k).length = k := by rw [List.length_take]; omega
      have h3 := ih (xs.take k) hlt
      have hn : zCh xs = zCh (xs.take k) + 256 ^ k * xs[k].toNat := by
        conv => lhs; rw [e]
        rw [zGd, hlt]; simp [zCh]
      have hlt2 := zFu (xs.take k)
      rw [hlt] at hlt2
      have h4 : zBm (zCh xs) k = xs.take k := by
        rw [← h3]
        refine key k _ _ ?_
        rw [hn, Nat.add_mul_mod_self_left]
      rw [h4, hn, Nat.pow_mul, Nat.add_mul_div_left _ _ (Nat.pow_pos (by omega)), Nat.div_eq_of_lt hlt2, Nat.zero_add]
      conv => rhs; rw [e]
      simp
  exact h2 b
theorem rnum_at (b : List UInt8) {q k : Nat} (h1 : 1 ≤ k) (h8 : k ≤ 8) (hl : q + k ≤ b.length) : (Rdr.mk b q 0).num k = (zCh ((b.drop q).take k), ⟨b, q + k, 0⟩) := by
  have hb : ¬ ((k : Int) < 1 ∨ 8 < (k : Int)) := by omega
  simp [Rdr.num, hb, Rdr.cut, show ¬ b.length < q + k by omega]
theorem rnum_err {s : Rdr} (h : s.e ≠ 0) (k : Int) : s.num k = (0, s) := by simp [Rdr.num, h]
theorem buf_bytes (g : Nat) (b : List UInt8) (T : TypeId) (h : b.length ≤ 4611686018427387904) : Buf [(g, cel (byt b) T)] T 1 (.slice (some ⟨g, 0, none⟩) b.length b.length) b.length (byt b) := by
  have := buf_mk (T := T) (g := g) (c := b.length) (s := 1) (m := b.length) (xs := byt b) (r := []) (by simp [zDr]) (byt_one b) (Nat.le_refl _) (by simp only [maxLen]; omega) (by simp [zDr])
  rwa [List.append_nil] at this
theorem numOf_cut (b : List UInt8) (q k : Nat) : zCh ((b.drop q).take k) < 256 ^ k :=
  Nat.lt_of_lt_of_le (zFu _) (Nat.pow_le_pow_right (by omega) (by rw [List.length_take]; omega))
theorem form_cut (b : List UInt8) {q k : Nat} (h : q + k ≤ b.length) : zBm (zCh ((b.drop q).take k)) k = (b.drop q).take k := by
  have := zLd ((b.drop q).take k)
  rwa [List.length_take, List.length_drop, Nat.min_eq_left (by omega)] at this
theorem bytes_fits {s : Wr} {b : List UInt8} (he : s.e = 0) (hr : s.bs.length + b.length ≤ s.room) : s.bytes b = { s with bs := s.bs ++ b } := by
  have hf : s.fits b = true := by simp only [Wr.fits, decide_eq_true_eq]; omega
  simp [Wr.bytes, Wr.lay, he, Wr.putE, Wr.putS, hf]
end Go.Sl
namespace Go.Proofs.YtbogecljkaimdaaGreatDoor
open Go.Sl
set_option maxRecDepth 10000
theorem zEg (p room : Nat) (bs : List UInt8) (A : zAs) (w0 : World) (hA : WrC 94 p ⟨room, bs, 0⟩ A) (n k : Nat) (H : Hp w0 [A]) (hr : room ≤ 140737488355328) (h1 : 1 ≤ k) (h8 : k ≤ 8) (hn : n < 256 ^ k) (hl : bs.length + k ≤ room) :
    Ret Tryz.prog 30 #[ptr p, .int .u64 n, .int .i64 (k : Int)] w0 fun _ w' => ∃ A', WrC 94 p ⟨room, bs ++ zBm n k, 0⟩ A' ∧ Trs w0 w' [A] [A'] := by
  refine (num_ret p _ A w0 hA n k H hr).mono fun v w' ⟨A', h, hT⟩ => ⟨A', ?_, hT⟩
  rw [num_fits rfl h1 h8 hn hl] at h
  exact h
theorem bytes_fit (p room : Nat) (bs : List UInt8) (A D : zAs) (w0 : World) (hA : WrC 94 p ⟨room, bs, 0⟩ A) (bv : Value) (b : List UInt8) (hD : Rd D 1 bv b.length (byt b)) (H : Hp w0 [A, D]) (hr : room ≤ 140737488355328) (hl : bs.length + b.length ≤ room) :
    Ret Tryz.prog 66 #[ptr p, bv] w0 fun _ w' => ∃ A', WrC 94 p ⟨room, bs ++ b, 0⟩ A' ∧ Trs w0 w' [A, D] [A', D] := by
  refine (bytes_ret p _ A D w0 hA bv b hD H hr).mono fun v w' ⟨A', h, hT⟩ => ⟨A', ?_, hT⟩
  rw [bytes_fits rfl hl] at h
  exact h
theorem done_fit (p room : Nat) (bs : List UInt8) (A : zAs) (w0 : World) (hA : WrC 94 p ⟨room, bs, 0⟩ A) (H : Hp w0 [A]) (hr : bs.length ≤ 140737488355328) :
    Ret Tryz.prog 29 #[ptr p] w0 fun u w' => ∃ g, u = .tuple #[.slice (some ⟨g, 0, none⟩) bs.length bs.length, .int .i64 0] ∧ Trs w0 w' [A] [[(g, cel (byt bs) 5)], A] := by
  refine (done_ret p _ A w0 hA H hr).mono fun v w' h => ?_
  rcases h with ⟨h, _⟩ | ⟨_, g, h, hT⟩
  · exact absurd rfl h
  · exact ⟨g, h, hT⟩
theorem rnum_fit (p : Nat) (b : List UInt8) (q : Nat) (A : zAs) (w0 : World) (hA : RdC 108 p ⟨b, q, 0⟩ A) (H : Hp w0 [A]) (k : Nat) (h1 : 1 ≤ k) (h8 : k ≤ 8) (hl : q + k ≤ b.length) :
    Ret Tryz.prog 44 #[ptr p, .int .i64 k] w0 fun u w' => ∃ A', u = .int .u64 (zCh ((b.drop q).take k)) ∧ RdC 108 p ⟨b, q + k, 0⟩ A' ∧ Trs w0 w' [A] [A'] := by
  refine (zDu p _ A w0 hA H k).mono fun v w' ⟨A', h, h2, hT⟩ => ?_
  rw [rnum_at b h1 h8 hl] at h h2
  exact ⟨A', h, h2, hT⟩
end Go.Proofs.YtbogecljkaimdaaGreatDoor
namespace Go.Sl
def zDc : List UInt8 → List (List UInt8)
  | [] => [[]]
  | c :: l => if c = 47 then [] :: zDc l else match zDc l with
    | p :: ps => (c :: p) :: ps
    | [] => [[c]]
theorem zHa (l : List UInt8) : ∃ p ps, zDc l = p :: ps := by
  cases l with
  | nil => exact ⟨_, _, rfl⟩
  | cons c l =>
    unfold zDc
    split
    · exact ⟨_, _, rfl⟩
    · split <;> exact ⟨_, _, rfl⟩
theorem zEz (l : List UInt8) : (zDc l).length = l.count 47 + 1 := by
  induction l with
  | nil => rfl
  | cons c l ih =>
    unfold zDc
    split
    · rename_i h; subst h; simp [ih]
    · rename_i h
      obtain ⟨p, ps, hp⟩ := zHa l
      rw [hp] at ih ⊢
      rw [List.count_cons_of_ne (by simpa using h)]
      simpa using ih
theorem pieces_none {l : List UInt8} (h : l.count 47 = 0) : zDc l = [l] := by
  induction l with
  | nil => rfl
  | cons c l ih =>
    have hc : c ≠ 47 := by rintro rfl; simp at h
    rw [List.count_cons_of_ne (by simpa using hc)] at h
    unfold zDc
    rw [if_neg hc, ih h]
def ahead1 (p : List UInt8) : List (List UInt8) → List (List UInt8)
  | q :: qs => (p ++ q) :: qs
  | [] => [p]
theorem pieces_step {c : UInt8} {l : List UInt8} (h : c ≠ 47) : zDc (c :: l) = ahead1 [c] (zDc l) := by
  obtain ⟨p, ps, hp⟩ := zHa l
  rw [zDc, if_neg h, hp]
  rfl
theorem zLe (l : List UInt8) : zDc (47 :: l) = [] :: zDc l := by rw [zDc, if_pos rfl]
theorem ibyte_cases (l : List UInt8) (c : UInt8) : (Lib.indexByte l c = -1 ∧ l.count c = 0) ∨
    ∃ m, ∃ h : m < l.length, Lib.indexByte l c = (m : Int) ∧ l[m] = c ∧ (l.take m).count c = 0 ∧ l.count c = 1 + (l.drop (m + 1)).count c := by
  induction l with
  | nil => exact .inl ⟨rfl, rfl⟩
  | cons b l ih =>
    by_cases hb : b = c
    · subst hb
      refine .inr ⟨0, by simp, by simp [Lib.indexByte], rfl, rfl, ?_⟩
      rw [List.count_cons_self]; simp; omega
    · have hb' : (b == c) = false := by simpa using hb
      rcases ih with ⟨h1, h2⟩ | ⟨m, hm, h1, h2, h3, h4⟩
      · refine .inl ⟨by simp [Lib.indexByte, hb', h1], ?_⟩
        rw [List.count_cons_of_ne (by simpa using hb), h2]
      · refine .inr ⟨m + 1, by simpa using hm, ?_, by simpa using h2, ?_, ?_⟩
        · simp only [Lib.indexByte, hb', h1, Bool.false_eq_true, if_false]
          rw [if_neg (by simp only [beq_iff_eq]; omega)]
          omega
        · rw [List.take_succ_cons, List.count_cons_of_ne (by simpa using hb), h3]
        · rw [List.count_cons_of_ne (by simpa using hb), h4]; simp
theorem zKg : ∀ {l : List UInt8} {m : Nat} (h : m < l.length), l[m] = 47 → (l.take m).count 47 = 0 → zDc l = l.take m :: zDc (l.drop (m + 1))
  | [], m, h, _, _ => absurd h (by simp)
  | c :: l, 0, _, hc, _ => by
    have hc : c = 47 := hc
    subst hc
    simpa using zLe l
  | c :: l, m + 1, h, hc, h0 => by
    have hne : c ≠ 47 := by rintro rfl; simp at h0
    rw [List.take_succ_cons, List.count_cons_of_ne (by simpa using hne)] at h0
    rw [pieces_step hne, zKg (l := l) (m := m) (by simpa using h) (by simpa using hc) h0]
    rfl
theorem w8c (c : UInt8) : IntKind.u8.wrap (c.toNat : Int) = (c.toNat : Int) := by rw [w8]; simp
theorem w32c (c : UInt8) : IntKind.i32.wrap (c.toNat : Int) = (c.toNat : Int) := IntWalk.i32_in _ (by have := c.toNat_lt; omega)
def letB (c : UInt8) : Bool := (97 ≤ c && c ≤ 122) || (48 ≤ c && c ≤ 57)
def dotB (c : UInt8) : Bool := c == 46 || c == 95 || c == 45
def okAt (s : List UInt8) (k : Nat) (h : k < s.length) : Prop := letB s[k] = true ∨ (k ≠ 0 ∧ dotB s[k] = true)
def partP (s : List UInt8) : Prop := 1 ≤ s.length ∧ s.length ≤ 24 ∧ ∀ k, ∀ h : k < s.length, okAt s k h
noncomputable def zGq (s : List UInt8) : Bool := @decide (partP s) (Classical.propDecidable _)
theorem partB_iff (s : List UInt8) : zGq s = true ↔ partP s := by simp [zGq]
theorem partB_no {s : List UInt8} (h : ¬ partP s) : zGq s = false := by simp [zGq, h]
theorem part_no {l : List UInt8} {i : Nat} (h : i < l.length) (h1 : letB l[i] = false) (h2 : i = 0 ∨ dotB l[i] = false) : zGq l = false :=
  partB_no fun hp => by
    rcases hp.2.2 i h with h3 | ⟨h3, h4⟩
    · rw [h1] at h3; cases h3
    · rcases h2 with rfl | h2
      · exact h3 rfl
      · rw [h2] at h4; cases h4
theorem part_end {l : List UInt8} (h : ∀ k, ∀ hk : k < l.length, okAt l k hk) : zGq l = true ↔ (1 ≤ l.length ∧ l.length ≤ 24) := by
  rw [partB_iff]
  exact ⟨fun q => ⟨q.1, q.2.1⟩, fun q => ⟨q.1, q.2, h⟩⟩
theorem ok_more {l : List UInt8} {i : Nat} (h : ∀ k, ∀ hk : k < l.length, k < i → okAt l k hk) (hi : i < l.length) (h1 : okAt l i hi) : ∀ k, ∀ hk : k < l.length, k < i + 1 → okAt l k hk := by
  intro k hk hki
  by_cases e : k = i
  · subst e; exact h1
  · exact h k hk (by omega)
def nameP (s : List UInt8) : Prop := s.length ≤ 240 ∧ (zDc s).length ≤ 8 ∧ ∀ p ∈ zDc s, zGq p = true
noncomputable def nameB (s : List UInt8) : Bool := @decide (nameP s) (Classical.propDecidable _)
theorem zHj (s : List UInt8) : nameB s = true ↔ nameP s := by simp [nameB]
def valP (s : List UInt8) : Prop := ∀ k, ∀ h : k < s.length, 32 ≤ s[k].toNat ∧ s[k].toNat ≤ 126
noncomputable def valB (s : List UInt8) : Bool := @decide (valP s) (Classical.propDecidable _)
theorem zHk (c : UInt8) : letB c = true ↔ (97 ≤ c.toNat ∧ c.toNat ≤ 122) ∨ (48 ≤ c.toNat ∧ c.toNat ≤ 57) := by
  simp [letB, UInt8.le_iff_toNat_le]
theorem dotB_iff (c : UInt8) : dotB c = true ↔ c.toNat = 46 ∨ c.toNat = 95 ∨ c.toNat = 45 := by
  have h : ∀ k : UInt8, c = k ↔ c.toNat = k.toNat := fun k => UInt8.toNat_inj.symm
  simp [dotB, h, or_assoc]
structure Prp where
  name : List UInt8
  value : List UInt8
def Prp.lay (p : Prp) : List Value := [str p.name, str p.value]
theorem Prp.lay_len (p : Prp) : p.lay.length = 2 := rfl
structure Rec where
  kind : Int
  name : List UInt8
  typ : Int
  frm : Int
  guid : Int
  origin : Int
  snap : List UInt8
  props : List Prp
  object : Int
  at_ : Int
  many : Int
  keep : List Int
  data : List UInt8
def ints (l : List Int) : List Value := l.map (.int .i64 ·)
def Rec.cells (r : Rec) (pv kv dv : Value) : List Value :=
  [.int .i64 r.kind, str r.name, .int .i64 r.typ, .int .i64 r.frm, .int .i64 r.guid, .int .i64 r.origin, str r.snap, pv, .int .i64 r.object, .int .i64 r.at_, .int .i64 r.many, kv, dv]
structure RecR (C : zAs) (r : Rec) (pv kv dv : Value) : Prop where
  pr : Rd C 2 pv r.props.length (r.props.flatMap Prp.lay)
  kr : Rd C 1 kv r.keep.length (ints r.keep)
  dr : Rd C 1 dv r.data.length (byt r.data)
structure Sml (r : Rec) : Prop where
  name : r.name.length ≤ 1048576
  snap : r.snap.length ≤ 1048576
  props : r.props.length ≤ 1048576
  prop : ∀ p ∈ r.props, p.name.length ≤ 1048576 ∧ p.value.length ≤ 1048576
  keep : r.keep.length ≤ 1048576
  data : r.data.length ≤ 1048576
def risP (l : List Int) (least most : Int) : Prop := l.length ≤ 240 ∧ ∀ k, ∀ h : k < l.length, least ≤ l[k] ∧ l[k] ≤ most ∧ ∀ h0 : 0 < k, l[k - 1] < l[k]
noncomputable def risB (l : List Int) (least most : Int) : Bool := @decide (risP l least most) (Classical.propDecidable _)
theorem risB_iff (l : List Int) (x y : Int) : risB l x y = true ↔ risP l x y := by simp [risB]
theorem risB_no {l : List Int} {x y : Int} (h : ¬ risP l x y) : risB l x y = false := by simp [risB, h]
def zJu (l : List Prp) (k : Nat) (h : k < l.length) : Prop :=
  zGq l[k].name = true ∧ 1 ≤ l[k].value.length ∧ l[k].value.length ≤ 64 ∧ valB l[k].value = true ∧ ∀ h0 : 0 < k, Op.bytesLess l[k - 1].name l[k].name = true
def prpsP (l : List Prp) : Prop := l.length ≤ 12 ∧ ∀ k, ∀ h : k < l.length, zJu l k h
noncomputable def zLf (l : List Prp) : Bool := @decide (prpsP l) (Classical.propDecidable _)
theorem prpsB_iff (l : List Prp) : zLf l = true ↔ prpsP l := by simp [zLf]
theorem prpsB_no {l : List Prp} (h : ¬ prpsP l) : zLf l = false := by simp [zLf, h]
noncomputable def behB (s : List UInt8) : Bool := match s with
  | [] => true
  | c :: l => c == 47 && nameB (120 :: c :: l)
def begP (r : Rec) : Prop :=
  behB r.name = true ∧ (1 ≤ r.typ ∧ r.typ ≤ 2) ∧ (0 ≤ r.frm ∧ r.frm ≤ 2199023255552) ∧ (1 ≤ r.guid ∧ r.guid ≤ 2199023255552) ∧ (r.origin = 0 ∨ (r.origin = 1 ∧ 0 < r.frm)) ∧ zGq r.snap = true ∧ zLf r.props = true
noncomputable def begB (r : Rec) : Bool := @decide (begP r) (Classical.propDecidable _)
theorem zDz (r : Rec) : begB r = true ↔ begP r := by simp [begB]
end Go.Sl
namespace Go.Proofs.YtbogecljkaimdaaGreatDoor
open Go.Sl
set_option maxRecDepth 10000
theorem zJg (l : List UInt8) (c : UInt8) (As : List zAs) (w0 : World) (H : Hp w0 As) :
    Ret Tryz.prog 131 #[str l, .int .u8 c.toNat] w0 fun u w' => u = .int .i64 (Lib.indexByte l c) ∧ Trs w0 w' As As := by
  have S := St.begin H
  refine zCg 8 Tryz.func131 rfl rfl (by decide) ?_; intro a E
  refine wp_seq_k ?_; intro K hK
  refine zAa ?_
  refine zp E (zAe E rfl rfl) ?_; clear E a; intro a E
  refine wpList_nil ?_
  refine zAf hK ?_; clear hK; clear K
  refine wp_seq_k ?_; intro K hK
  refine zAa ?_
  iterate 2 (refine zp E (zAd E rfl rfl) ?_; clear E a; intro a E)
  refine zAm rfl (zFs E (rn_ibyte (l := l) (c := c) E rfl Tryz.func137 (by kernel_rfl) (by kernel_rfl) (by kernel_rfl) (by kernel_rfl) rfl rfl) rfl (by decide) ?_); clear E a; intro a E
  refine zp E (zAe E rfl rfl) ?_; clear E a; intro a E
  refine wpList_nil ?_
  refine zAf hK ?_; clear hK; clear K
  refine wp_ret ?_
  refine ret1 E rfl rfl ?_
  exact ⟨_, rfl, rfl, S.tr⟩
theorem zKh (l : List UInt8) (c : UInt8) (As : List zAs) (w0 : World) (H : Hp w0 As) :
    Ret Tryz.prog 122 #[str l, .int .u8 c.toNat] w0 fun u w' => u = .int .i64 (Lib.indexByte l c) ∧ Trs w0 w' As As := by
  have S := St.begin H
  refine zCg 8 Tryz.func122 rfl rfl (by decide) ?_; intro a E
  refine wp_seq_k ?_; intro K hK
  refine zAa ?_
  refine zp E (zAe E rfl rfl) ?_; clear E a; intro a E
  refine wpList_nil ?_
  refine zAf hK ?_; clear hK; clear K
  refine wp_seq_k ?_; intro K hK
  refine zAa ?_
  iterate 2 (refine zp E (zAd E rfl rfl) ?_; clear E a; intro a E)
  refine zAn E rfl rfl (by decide) rfl Tryz.func131 rfl (by kernel_rfl) rfl (zJg l c _ _ S.hp) ?_
  rintro v7 w ⟨rfl, hT⟩; clear E a; intro a E
  have S := S.all hT
  refine zp E (zAe E rfl rfl) ?_; clear E a; intro a E
  refine wpList_nil ?_
  refine zAf hK ?_; clear hK; clear K
  refine wp_ret ?_
  refine ret1 E rfl rfl ?_
  exact ⟨_, rfl, rfl, S.tr⟩
theorem dots_small (c : UInt8) (h : c.toNat < 128) : (0 ≤ Lib.indexByte [46, 95, 45] c) ↔ dotB c = true := by
  rw [dotB_iff]
  have e : ∀ k : UInt8, (k == c) = decide (c.toNat = k.toNat) := fun k => by
    by_cases hk : k = c
    · subst hk; simp
    · have : ¬ c.toNat = k.toNat := fun hh => hk (UInt8.toNat_inj.1 hh.symm)
      simp [hk, this]
  simp only [Lib.indexByte, e, show (46 : UInt8).toNat = 46 from rfl, show (95 : UInt8).toNat = 95 from rfl, show (45 : UInt8).toNat = 45 from rfl, decide_eq_true_eq]
  by_cases h1 : c.toNat = 46
  · simp [h1]
  by_cases h2 : c.toNat = 95
  · simp [h2]
  by_cases h3 : c.toNat = 45
  · simp [h3]
  · simp [h1, h2, h3]
theorem noDash (n : Nat) : ((45 : UInt8) == UInt8.ofNat (128 + n % 64)) = false := by
  rw [beq_eq_false_iff_ne]
  intro h
  have := congrArg UInt8.toNat h
  simp at this
  omega
theorem vrune_ret (c : UInt8) (As : List zAs) (w0 : World) (H : Hp w0 As) :
    Ret Tryz.prog 123 #[.int .i32 c.toNat] w0 fun u w' => u = .bool true ∧ Trs w0 w' As As := by
  have S := St.begin H
  have hc := c.toNat_lt
  refine zDh 17 Tryz.func123 rfl rfl (by decide) ?_; intro a E
  refine wp_seq_k ?_; intro K hK
  refine zAa ?_
  refine zp E (zAe E rfl rfl) ?_; clear E a; intro a E
  refine wpList_nil ?_
  refine zAf hK ?_; clear hK; clear K
  refine wp_seq_k ?_; intro K hK
  refine wp_block ?_
  refine wp_seq_k ?_; intro K hK
  refine zAa ?_
  refine zp E (zAd E rfl rfl) ?_; clear E a; intro a E
  refine zp E (zGb E rfl rfl rfl) ?_; clear E a; intro a E
  refine zp E (zAd E rfl rfl) ?_; clear E a; intro a E
  refine zCo E (t := 6) rfl ((by simp)) (fun hb6 => ?_)
  refine zy E hb6 (zAd E rfl rfl) ?_; clear E a; intro a E
  refine zy E hb6 (zCw E rfl rfl rfl) ?_; clear E a; intro a E
  refine zp E (zAk E rfl rfl hb6 rfl) ?_; clear E a; intro a E
  refine zp E (zAe E rfl rfl) ?_; clear E a; intro a E
  refine wpList_nil ?_
  refine zAf hK ?_; clear hK; clear K
  refine zBy E rfl ((by simp only [decide_eq_true_eq]; omega)) ?_
  refine wp_seq_k ?_; intro K hK
  refine zAa ?_
  refine zp E (zAe E rfl rfl) ?_; clear E a; intro a E
  refine wpList_nil ?_
  refine zAf hK ?_; clear hK; clear K
  refine wp_ret ?_
  refine zCi ?_
  refine zAv ?_; clear hK; clear K
  refine ret1 E rfl rfl ?_
  exact ⟨_, rfl, rfl, S.tr⟩
theorem irune_ret (c : UInt8) (As : List zAs) (w0 : World) (H : Hp w0 As) :
    Ret Tryz.prog 114 #[str [46, 95, 45], .int .i32 c.toNat] w0 fun u w' => ∃ i : Int, u = .int .i64 i ∧ (0 ≤ i ↔ dotB c = true) ∧ Trs w0 w' As As := by
  have S := St.begin H
  have hc := c.toNat_lt
  refine zCg 187 Tryz.func114 rfl rfl (by decide) ?_; intro a E
  refine wp_seq_k ?_; intro K hK
  refine zAa ?_
  refine zp E (zAe E rfl rfl) ?_; clear E a; intro a E
  refine wpList_nil ?_
  refine zAf hK ?_; clear hK; clear K
  refine wp_block ?_
  refine wp_seq_k ?_; intro K hK
  refine zAa ?_
  refine zp E (zAd E rfl rfl) ?_; clear E a; intro a E
  refine zp E (zGb E rfl rfl rfl) ?_; clear E a; intro a E
  refine zp E (zAd E rfl rfl) ?_; clear E a; intro a E
  refine zCo E (t := 163) rfl ((by simp)) (fun hb163 => ?_)
  refine zy E hb163 (zAd E rfl rfl) ?_; clear E a; intro a E
  refine zy E hb163 (zCw E rfl rfl rfl) ?_; clear E a; intro a E
  refine zp E (zAk E rfl rfl hb163 rfl) ?_; clear E a; intro a E
  refine zp E (zAe E rfl rfl) ?_; clear E a; intro a E
  refine wpList_nil ?_
  refine zAf hK ?_; clear hK; clear K
  refine zBj E rfl (fun hb => ?_) (fun hb => ?_)
  · replace hb := Nrm.nrm hb
    refine wp_seq_k ?_; intro K hK
    refine zAa ?_
    iterate 2 (refine zp E (zAd E rfl rfl) ?_; clear E a; intro a E)
    refine zp E (zBi E rfl rfl rfl rfl (w8c _)) ?_; clear E a; intro a E
    refine zAn E rfl rfl (by decide) rfl Tryz.func122 rfl (by kernel_rfl) rfl (zKh [46, 95, 45] c _ _ S.hp) ?_
    rintro v170 w ⟨rfl, hT⟩; clear E a; intro a E
    have S := S.all hT
    refine zp E (zAe E rfl rfl) ?_; clear E a; intro a E
    refine wpList_nil ?_
    refine zAf hK ?_; clear hK; clear K
    refine wp_ret ?_
    refine zCi ?_
    refine ret1 E rfl rfl ?_
    exact ⟨_, rfl, _, rfl, dots_small c (by omega), S.tr⟩
  · replace hb := Nrm.nrm hb
    have hge : 128 ≤ c.toNat := (by omega)
    refine wp_seq_k ?_; intro K hK
    refine zAa ?_
    refine zp E (zAd E rfl rfl) ?_; clear E a; intro a E
    refine zp E (by first | exact zCe E rfl rfl rfl | exact zAt E rfl rfl rfl rfl | exact zAz E rfl rfl rfl rfl | exact zAu E rfl rfl rfl) ?_; clear E a; intro a E
    refine zp E (zAe E rfl rfl) ?_; clear E a; intro a E
    refine wpList_nil ?_
    refine zAf hK ?_; clear hK; clear K
    refine zBj E rfl (fun hb => ?_) (fun hb => ?_)
    · replace hb := Nrm.nrm hb
      exfalso; omega
    · replace hb := Nrm.nrm hb
      refine wp_seq_k ?_; intro K hK
      refine zAa ?_
      refine zp E (zAd E rfl rfl) ?_; clear E a; intro a E
      refine zAn E rfl rfl (by decide) rfl Tryz.func123 rfl (by kernel_rfl) rfl (vrune_ret c _ _ S.hp) ?_
      rintro v185 w ⟨rfl, hT⟩; clear E a; intro a E
      have S := S.all hT
      refine zp E (zDl E rfl rfl) ?_; clear E a; intro a E
      refine zp E (zAe E rfl rfl) ?_; clear E a; intro a E
      refine wpList_nil ?_
      refine zAf hK ?_; clear hK; clear K
      refine zCl E rfl ((by rfl)) ?_
      refine wp_scope1 ?_
      refine wp_seq_k ?_; intro K hK
      refine zAa ?_
      refine zp E (zAd E rfl rfl) ?_; clear E a; intro a E
      refine zp E (rn_itos E rfl rfl rfl rfl (by omega) (by omega)) ?_; clear E a; intro a E
      refine zp E (zAe E rfl rfl) ?_; clear E a; intro a E
      refine wpList_nil ?_
      refine zAf hK ?_; clear hK; clear K
      refine wp_seq_k ?_; intro K hK
      refine zAa ?_
      refine zp E (zAd E rfl rfl) ?_; clear E a; intro a E
      refine zp E (by first | exact zBv E rfl rfl rfl | exact zAx E rfl rfl rfl | exact zAp E rfl rfl rfl) ?_; clear E a; intro a E
      refine zp E (zEw E rfl rfl rfl (by first | exact zIc (y := 1) (by omega) (by omega) | exact w_in (by omega) | exact zCb (by omega) | exact rfl)) ?_; clear E a; intro a E
      refine zp E (zAe E rfl rfl) ?_; clear E a; intro a E
      refine wpList_nil ?_
      refine zAf hK ?_; clear hK; clear K
      refine wp_seq_k ?_; intro K hK
      replace E := E.keep (e' := [(0, _), (1, _), (4, _), (7, _), (8, _)]) (zAb rfl (zAb rfl (zAb rfl (zAb rfl (zAb rfl (zAr))))))
      refine zAa ?_
      refine zp E (zAd E rfl rfl) ?_; clear E a; intro a E
      refine zp E (zAe E rfl rfl) ?_; clear E a; intro a E
      refine wpList_nil ?_
      refine zAf hK ?_; clear hK; clear K
      refine wp_seq_k ?_; intro K hK
      refine zAa ?_
      refine zp E (zAe E rfl rfl) ?_; clear E a; intro a E
      refine wpList_nil ?_
      refine zAf hK ?_; clear hK; clear K
      refine wp_seq_k ?_; intro K hK
      refine wp_block ?_
      refine wp_loop_ghost (fun (m : Nat) (a : Act) (w' : World) => m = 0 ∧ St w0 As w' As ∧ Fr a 187 [(0, str [46, 95, 45]), (1, .int .i32 c.toNat), (7, str [UInt8.ofNat (192 + c.toNat / 64), UInt8.ofNat (128 + c.toNat % 64)]), (8, .int .i64 1), (9, .int .i64 1), (10, .int .i64 0)]) (0) ?_ ?_
      · exact ⟨rfl, S, E.keep (zAb rfl (zAb rfl (zAb rfl (zAb rfl (zAb rfl (zAb rfl zAr))))))⟩
      clear E; clear a; (try clear S); rintro m a w ⟨rfl, S, E⟩
      iterate 2 (refine wp_seq_k ?_; intro K hK)
      refine zAa ?_
      iterate 2 (refine zp E (zAd E rfl rfl) ?_; clear E a; intro a E)
      refine zp E (by first | exact zBv E rfl rfl rfl | exact zAx E rfl rfl rfl | exact zAp E rfl rfl rfl) ?_; clear E a; intro a E
      refine zp E (zCw E rfl rfl rfl) ?_; clear E a; intro a E
      refine wpList_nil ?_
      refine zAf hK ?_; clear hK; clear K
      refine zBy E rfl ((by rfl)) ?_
      refine wp_skip ?_
      refine zAf hK ?_; clear hK; clear K
      refine wp_block ?_
      refine wp_scope1 ?_
      iterate 2 (refine wp_seq_k ?_; intro K hK)
      refine zCa S (.ofL [(0, 0), (1, 0), (2, 0), (3, 0), (4, 0), (5, 0), (6, 0)]) (by kernel_rfl) (by kernel_rfl) ?_
      clear S; intro w S
      iterate 2 (refine zm E rfl (fun w h => zAd E rfl rfl) ?_; clear E a; intro a E)
      refine zm E rfl (fun w h => zDy (l := [46, 95, 45]) (i := 1) E rfl rfl rfl rfl rfl (by decide)) ?_; clear E a; intro a E
      iterate 2 (refine zm E rfl (fun w h => zAd E rfl rfl) ?_; clear E a; intro a E)
      refine zm E rfl (fun w h => zDy (l := [UInt8.ofNat (192 + c.toNat / 64), UInt8.ofNat (128 + c.toNat % 64)]) (i := 1) E rfl rfl rfl rfl rfl (Nat.le_of_ble_eq_true rfl)) ?_; clear E a; intro a E
      refine zm E rfl (fun w h => by first | exact zDa E rfl rfl rfl | exact zBc E rfl rfl rfl rfl | exact zBl E rfl rfl rfl rfl | exact zBg E rfl rfl rfl) ?_; clear E a; intro a E
      refine zCd ?_
      refine zAf hK ?_; clear hK; clear K
      refine zBy E rfl ((by simp; omega)) ?_
      refine wp_seq_k ?_; intro K hK
      refine zCa S (.ofL [(0, 0), (1, 0), (2, 0), (3, 0), (4, 0), (5, 0), (6, 0), (7, 3), (8, 2)]) (by kernel_rfl) (by kernel_rfl) ?_
      clear S; intro w S
      iterate 2 (refine zm E rfl (fun w h => zAd E rfl rfl) ?_; clear E a; intro a E)
      refine zm E rfl (fun w h => zCc E rfl rfl rfl (by first | exact zCt (y := 1) (by omega) | exact w_in (by omega) | exact zCb (by omega) | exact rfl)) ?_; clear E a; intro a E
      refine zm E rfl (fun w h => rn_str_l (lo := 2) E rfl rfl rfl rfl rfl (Nat.le_of_ble_eq_true rfl)) ?_; clear E a; intro a E
      iterate 2 (refine zm E rfl (fun w h => zAd E rfl rfl) ?_; clear E a; intro a E)
      refine zm E rfl (fun w h => zDy (l := [UInt8.ofNat (192 + c.toNat / 64), UInt8.ofNat (128 + c.toNat % 64)]) (i := 1) E rfl rfl rfl rfl rfl (Nat.le_of_ble_eq_true rfl)) ?_; clear E a; intro a E
      refine zGc E rfl rfl rfl (by decide) rfl Tryz.func122 rfl (by kernel_rfl) rfl (zKh [45] (UInt8.ofNat (128 + c.toNat % 64)) _ _ S.hp) ?_
      rintro v41 w ⟨rfl, hT⟩; clear E a; intro a E
      have S := S.all hT
      refine zCs E rfl rfl rfl (by decide) (fun w => zAe E rfl rfl) ?_; clear E a; intro a E
      refine zCd ?_
      refine zAf hK ?_; clear hK; clear K
      iterate 2 (refine wp_seq_k ?_; intro K hK)
      refine zAa ?_
      refine zp E (zAd E rfl rfl) ?_; clear E a; intro a E
      refine zp E (zCw E rfl rfl rfl) ?_; clear E a; intro a E
      refine wpList_nil ?_
      refine zAf hK ?_; clear hK; clear K
      refine zBy E rfl ((by simp only [Lib.indexByte, noDash c.toNat]; rfl)) ?_
      refine wp_seq_k ?_; intro K hK
      refine zAa ?_
      refine zp E (zAe E rfl rfl) ?_; clear E a; intro a E
      refine wpList_nil ?_
      refine zAf hK ?_; clear hK; clear K
      refine wp_ret ?_
      iterate 2 (refine zAv ?_; clear hK; clear K)
      refine sc_ret ?_
      refine zCi ?_
      refine zAv ?_
      refine zCi ?_
      refine zAv ?_; clear hK; clear K
      refine sc_ret ?_
      refine zCi ?_
      refine ret1 E rfl rfl ?_
      exact ⟨_, rfl, _, rfl, by rw [dotB_iff]; omega, S.tr⟩
theorem crune_ret (c : UInt8) (As : List zAs) (w0 : World) (H : Hp w0 As) :
    Ret Tryz.prog 91 #[str [46, 95, 45], .int .i32 c.toNat] w0 fun u w' => u = .bool (dotB c) ∧ Trs w0 w' As As := by
  have S := St.begin H
  refine zCg 9 Tryz.func91 rfl rfl (by decide) ?_; intro a E
  refine wp_seq_k ?_; intro K hK
  refine zAa ?_
  refine zp E (zAe E rfl rfl) ?_; clear E a; intro a E
  refine wpList_nil ?_
  refine zAf hK ?_; clear hK; clear K
  refine wp_seq_k ?_; intro K hK
  refine zAa ?_
  iterate 2 (refine zp E (zAd E rfl rfl) ?_; clear E a; intro a E)
  refine zAn E rfl rfl (by decide) rfl Tryz.func114 rfl (by kernel_rfl) rfl (irune_ret c _ _ S.hp) ?_
  rintro v7 w ⟨i, rfl, hi, hT⟩; clear E a; intro a E
  have S := S.all hT
  refine zp E (zGt E rfl rfl rfl) ?_; clear E a; intro a E
  refine zp E (zAe E rfl rfl) ?_; clear E a; intro a E
  refine wpList_nil ?_
  refine zAf hK ?_; clear hK; clear K
  refine wp_ret ?_
  refine ret1 E rfl rfl ?_
  exact ⟨_, rfl, by congr 1; rw [Bool.eq_iff_iff, decide_eq_true_eq]; exact hi, S.tr⟩
end Go.Proofs.YtbogecljkaimdaaGreatDoor
