/-
  Texts put together (13).
-/
import Derived.Test.YtpjidiaekifmbaaGreatDoorZParityRows12
set_option maxHeartbeats 1000000
namespace Go.Sl
theorem rn_lost {P : Program} {o : Oper} {a : Act} {w : World} {n : Nat} {e : List (Nat × Value)} {ds : List Deferred} {x y : Operand} (E : Fr a n e ds) {t kt et : TypeId} {r : Nat} {ti : TypeInfo} (q : Option Nat) (i : Nat) (ho : o.op = .lookup t x y false) (hx : ev e x = some (.map (some r))) (hy : ev e y = some (.int .i64 (i : Int))) (ht : P.underlying t = some (.map kt et))
  (hk : P.underlying kt = some (.int .i64)) (hi : P.info? et = some ti) (hz : ti.zero = some (.bool false)) (hb : w.heap[r]? = some (zHt q)) : zAu P o a w (.bool (decide (q = some i))) w := by
 cases q with
 | none => exact zFo (v := .bool false) E ho hx hy ht hk hi hz hb rfl
 | some j =>
  by_cases h : j = i
  ·subst h
   rw [decide_eq_true rfl]
   exact rn_lookup1 (v := .bool true) E ho hx hy ht hk hb (find_is (k := .i64) (m := ⟨(j : Int), .bool true, 0⟩) (A := []) (B := []) 0 (fun z hz => absurd hz (by simp)))
  ·rw [decide_eq_false (fun q => h (Option.some.inj q))]
   exact zFo (v := .bool false) E ho hx hy ht hk hi hz hb (find_not (k := .i64) (L := [⟨(j : Int), .bool true, 0⟩]) 0 (fun m hm => by rw [List.mem_singleton.1 hm]; show (j : Int) ≠ (i : Int); omega))
theorem zHu (w : Nat) : ∀ (i : Nat) (l l' : List (List UInt8)), Secs l → Secs l' → l.length = l'.length → (blkF w i l).length = (blkF w i l').length
 | _, [], [], _, _, _ => rfl
 | i, s :: l, s' :: l', h, h', he => by
  have ih := zHu w (i + 1) l l' (fun t ht => h t (List.mem_cons_of_mem _ ht)) (fun t ht => h' t (List.mem_cons_of_mem _ ht)) (by simpa using he)
  have h1 := h s (List.mem_cons_self ..)
  have h2 := h' s' (List.mem_cons_self ..)
  rw [blkF, blkF, List.length_append, List.length_append, ih]
  split <;> omega
 | _, [], _ :: _, _, _, h => by simp at h
 | _, _ :: _, [], _, _, h => by simp at h
end Go.Sl
namespace Go.Proofs.YtpjidiaekifmbaaGreatDoor
open Go.Sl
set_option maxRecDepth 10000
def Cand (wd at_ N : Nat) (q : Option Nat) (col : Nat) : Prop := col < wd ∧ (q = none ∨ q = some col) ∧ zGi wd at_ col N = true
section
variable (t : Nat) (ad : Option Addr) (wd c : Nat) (vk : Value) (hw : 3 ≤ wd ∧ wd ≤ 5) (g at_ mb N : Nat) (vS : Value) (CS D : zAj) (vs : List Value) (ss : List (List UInt8)) (hCS : Buf CS 22 1 vS N vs) (hD : zCv D vs ss) (hsl : ss.length = N) (hN : N ≤ 12) (hat : at_ ≤ 1000)
 (G : zAj) (hG : Tab [G] 2 shaK)
include hw hCS hD hsl hN hat hG
theorem pfound_ret (q : Option Nat) (n : Nat) (hn : 1 ≤ n ∧ n ≤ (blkF wd 0 ss).length) (kind : Int) (s : Fs)
  (hfind : (q = none ∧ chkK kind s ((blkF wd 0 ss).take n) = true) ∨ ∃ col, Cand wd at_ N q col ∧ chkK kind s ((blkF wd 0 (rebF wd at_ col ss)).take n) = true) (w0 : World) (H : Hp w0 [[(g, zDv t at_ vS mb)], [(mb, zHt q)], CS, D, [(t, ptcl (.slice ad wd c) vk 32)], G]) :
  Ret Tryz.prog 79 #[ptr g, .int .i64 n, .int .i64 kind, s.agg] w0 fun u w' => ∃ (vl : Value) (col : Int) (DD : zAj) (vsl : List Value) (l : List (List UInt8)), u = .tuple #[vl, .int .i64 col, .bool true] ∧ Rd DD 1 vl N vsl ∧ zCv DD vsl l ∧ Rd DD 1 vS N vs ∧ zCv DD vs ss ∧
   chkK kind s ((blkF wd 0 l).take n) = true ∧ ((col = -1 ∧ q = none ∧ l = ss) ∨ ∃ cn : Nat, Cand wd at_ N q cn ∧ col = cn ∧ l = rebF wd at_ cn ss) ∧ (q = none → chkK kind s ((blkF wd 0 ss).take n) = true → col = -1) ∧
   Trs w0 w' [[(g, zDv t at_ vS mb)], [(mb, zHt q)], CS, D, [(t, ptcl (.slice ad wd c) vk 32)], G] [[(g, zDv t at_ vS mb)], [(mb, zHt q)], DD, [(t, ptcl (.slice ad wd c) vk 32)], G] := by
 have S := St.begin H
 have hvl : vs.length = N := by rw [hD.1, hsl]
 have hss := hD.secs
 have hble := blkF_le wd 0 ss hss
 have hbll : ((blkF wd 0 ss).take n).length = n := by rw [List.length_take]; omega
 have hrl : ∀ col, (blkF wd 0 (rebF wd at_ col ss)).length = (blkF wd 0 ss).length := fun col => zHu wd 0 _ _ (rebF_secs hss) hss (zDo ..)
 have hrll : ∀ col, ((blkF wd 0 (rebF wd at_ col ss)).take n).length = n := fun col => by rw [List.length_take, hrl]; omega
 obtain ⟨adS, cS, rfl⟩ := hCS.slice
 have hcap := hCS.cap_le
 refine enter4 90 Tryz.func79 rfl rfl dZ ?_; intro a E
 refine wp_seq_k ?_; intro K hK
 refine zAa ?_
 refine zAf rfl (zBz E S rfl rfl dZ rfl rfl ?_); clear E S a; intro a w b7 E S
 iterate 3 (refine zd E ?_; clear E a; intro a E)
 refine wpList_nil ?_
 refine zAb hK ?_; clear hK K
 iterate 2 (refine wp_seq_k ?_; intro K hK)
 refine zAa ?_
 rcases q with _ | j0
 ·skip
  iterate 2 (refine zd E ?_; clear E a; intro a E)
  refine zp E (by first | exact zAc (q := 3) E rfl rfl rfl | exact zAd (q := 3) E rfl rfl rfl) ?_; clear E a; intro a E
  refine zd E ?_; clear E a; intro a E
  refine zp E (zCz E rfl rfl rfl (S.get pZ)) ?_; clear E a; intro a E
  refine zd E ?_; clear E a; intro a E
  refine wpList_nil ?_
  refine zAb hK ?_; clear hK K
  refine zAt E rfl (rfl) ?_
  refine wp_skip ?_
  refine zAb hK ?_; clear hK K
  iterate 2 (refine wp_seq_k ?_; intro K hK)
  refine zAw S (.ofL [(0, 0), (1, 0), (2, 0), (3, 0), (4, 0), (5, 0), (6, 0), (7, 0), (8, 0), (9, 0), (10, 0), (11, 0), (12, 0), (13, 0), (14, 0), (15, 0), (16, 0), (17, 0), (18, 1), (19, 3), (20, 2)]) yZ yZ ?_
  clear S; intro w S
  iterate 2 (refine zmd E ?_; clear E a; intro a E)
  refine zm E rfl (fun w h => by first | exact zAc (q := 3) E rfl rfl rfl | exact zAd (q := 3) E rfl rfl rfl) ?_; clear E a; intro a E
  refine zmd E ?_; clear E a; intro a E
  refine zm E rfl (fun w h => zCz E rfl rfl rfl (h.one mZ)) ?_; clear E a; intro a E
  iterate 2 (refine zmd E ?_; clear E a; intro a E)
  refine zCb E (t := 26) rfl (rfl) (fun hb26 => ?_)
  refine zAe E rfl rfl rfl rfl rfl hb26 rfl dZ (fun w h => zCp E rfl rfl) ?_; clear E a; intro a E
  refine zAe E rfl rfl rfl rfl rfl hb26 rfl dZ (fun w h => zBf (vs := [_, _, _, _]) E rfl rfl rfl (h.one mZ) rfl rfl) ?_; clear E a; intro a E
  refine zAe E rfl rfl rfl rfl rfl hb26 rfl dZ (fun w h => zCp E rfl rfl) ?_; clear E a; intro a E
  refine zAe E rfl rfl rfl rfl rfl hb26 rfl dZ (fun w h => zCu E rfl rfl) ?_; clear E a; intro a E
  refine zAe E rfl rfl rfl rfl rfl hb26 rfl dZ (fun w h => by first | exact zAc (q := 0) E rfl rfl rfl | exact zAd (q := 0) E rfl rfl rfl) ?_; clear E a; intro a E
  refine zAe E rfl rfl rfl rfl rfl hb26 rfl dZ (fun w h => by first | exact zCl E rfl rfl rfl (h.one mZ) rfl | exact zAo E rfl rfl rfl (by assumption)) ?_; clear E a; intro a E
  refine zAe E rfl rfl rfl rfl rfl hb26 rfl dZ (fun w h => zCp E rfl rfl) ?_; clear E a; intro a E
  refine zAe E rfl rfl rfl rfl rfl hb26 rfl dZ (fun w h => zCu E rfl rfl) ?_; clear E a; intro a E
  refine zAe E rfl rfl rfl rfl rfl hb26 rfl dZ (fun w h => by first | exact zAc (q := 2) E rfl rfl rfl | exact zAd (q := 2) E rfl rfl rfl) ?_; clear E a; intro a E
  refine zAe E rfl rfl rfl rfl rfl hb26 rfl dZ (fun w h => by first | exact zCl E rfl rfl rfl (h.one mZ) rfl | exact zAo E rfl rfl rfl (by assumption)) ?_; clear E a; intro a E
  refine zAe E rfl rfl rfl rfl rfl hb26 rfl dZ (fun w h => zCp E rfl rfl) ?_; clear E a; intro a E
  refine zEu E rfl rfl rfl rfl rfl hb26 ?_; refine zCe E rfl dZ rfl Tryz.func43 rfl yZ rfl (zEh t ad wd c vk 32 _ mZ hw _ CS D vs ss (by rw [hvl]; exact hCS.rd) hD oZ mZ mZ n hn _ S.hp) ?_
  rintro v38 w ⟨gb, Cb, rfl, hRb, hT⟩; clear E a; intro a E
  have S := S.all hT
  refine ⟨S.stab.sub (by first | (simp; done) | (simp +contextual; done) | (simp [*]; done)), ?_⟩
  refine zEi E rfl rfl rfl rfl rfl hb26 ?_; refine zCe E rfl dZ rfl Tryz.func93 rfl yZ rfl (chkK_ret Cb _ ((blkF wd 0 ss).take n) (by rw [hbll]; exact hRb) oZ _ mZ (hG.sub (fun Q hQ => by rw [List.mem_singleton.1 hQ]; exact mZ)) kind s _ S.hp) ?_
  rintro v39 w ⟨rfl, hT⟩; clear E a; intro a E
  have S := S.all hT
  refine zBp E rfl rfl rfl dZ (fun w => zAi E rfl rfl hb26 rfl) ?_; clear E a; intro a E
  refine zBd ?_
  refine zAb hK ?_; clear hK K
  refine zAs E rfl (fun hb => ?_) (fun hb => ?_)
  ·replace hb := Nrm.nrm hb
   skip
   refine wp_seq_k ?_; intro K hK
   replace E := E.keep (e' := [(0, _), (1, _), (2, _), (7, _), (8, _), (9, _), (10, _)]) (kE7 rfl rfl rfl rfl rfl rfl rfl)
   refine zAa ?_
   iterate 2 (refine zd E ?_; clear E a; intro a E)
   refine zp E (by first | exact zAc (q := 2) E rfl rfl rfl | exact zAd (q := 2) E rfl rfl rfl) ?_; clear E a; intro a E
   iterate 4 (refine zd E ?_; clear E a; intro a E)
   refine wpList_nil ?_
   refine zAb hK ?_; clear hK K
   refine wp_ret ?_
   refine zBc ?_; clear hK K
   refine ret3 E rfl rfl rfl rfl ?_
   refine ⟨_, rfl, .slice adS N cS, -1, D ++ CS, vs, ss, rfl, hCS.rd.sub fun q hq => List.mem_append_right _ hq, hD.sub fun q hq => List.mem_append_left _ hq, hCS.rd.sub fun q hq => List.mem_append_right _ hq, hD.sub fun q hq => List.mem_append_left _ hq, by simpa using hb, .inl ⟨rfl, rfl, rfl⟩, fun _ _ => rfl, ((S.gather (A := D) (B := CS) pZ pZ).only (Bs := [[(g, _)], [(mb, _)], D ++ CS, [(t, _)], G]) sZ).tr⟩
  ·replace hb := Nrm.nrm hb
   have hdir : chkK kind s ((blkF wd 0 ss).take n) = false := (by simpa using hb)
   refine wp_skip ?_
   refine zAb hK ?_; clear hK K
   iterate 2 (refine wp_seq_k ?_; intro K hK)
   replace E := E.keep (e' := [(0, _), (1, _), (2, _), (7, _), (8, _), (9, _), (10, _)]) (kE7 rfl rfl rfl rfl rfl rfl rfl)
   refine zAa ?_
   iterate 2 (refine zd E ?_; clear E a; intro a E)
   refine zp E (by first | exact zAc (q := 0) E rfl rfl rfl | exact zAd (q := 0) E rfl rfl rfl) ?_; clear E a; intro a E
   refine zd E ?_; clear E a; intro a E
   refine zAg E rfl rfl dZ rfl Tryz.func36 rfl yZ rfl (zCt t ad wd c vk 32 _ mZ _ S.hp) ?_
   rintro v49 w ⟨rfl, hT⟩; clear E a; intro a E
   have S := S.all hT
   refine zd E ?_; clear E a; intro a E
   refine wpList_nil ?_
   refine zAb hK ?_; clear hK K
   refine wp_block ?_
   refine wp_loop_ghost (fun (m : Nat) (a : Act) (w' : World) => ∃ (i : Nat) (D' : zAj), m = wd - i ∧ i ≤ wd ∧ zCv D' vs ss ∧ (∀ col, col < i → Cand wd at_ N (none) col → chkK kind s ((blkF wd 0 (rebF wd at_ col ss)).take n) = false) ∧ St w0 [[(g, zDv t at_ (.slice adS N cS) mb)], [(mb, zHt (none))], CS, D, [(t, ptcl (.slice ad wd c) vk 32)], G] w' [[(b7, cel [.int .u64 s.a, .int .u64 s.b, .int .u64 s.c, .int .u64 s.d] 29)], [(g, zDv t at_ (.slice adS N cS) mb)], [(mb, zHt (none))], CS, D', [(t, ptcl (.slice ad wd c) vk 32)], G] ∧ Fr a 90 [(0, ptr g), (1, .int .i64 n), (2, .int .i64 kind), (7, ptr b7), (49, .int .i64 wd), (50, .int .i64 i)]) (wd - 0) ?_ ?_
   ·exact ⟨0, D, rfl, by omega, hD, fun col h => absurd h oZ, S.only sZ, E.keep (kE6 rfl rfl rfl rfl rfl rfl)⟩
   clear E; clear a; (try clear S); rintro m a w ⟨i, D', rfl, hi, hD', hno, S, E⟩
   refine wp_seq_k ?_; intro K hK
   refine zAa ?_
   refine zd E ?_; clear E a; intro a E
   refine wpList_nil ?_
   refine zAb hK ?_; clear hK K
   refine wp_seq_k ?_; intro K hK
   refine zAs E rfl (fun hb => ?_) (fun hb => ?_)
   ·replace hb := Nrm.nrm hb
    refine wp_skip ?_
    refine zAb hK ?_; clear hK K
    refine wp_seq_k ?_; intro K hK
    refine wp_block ?_
    refine wp_seq_k ?_; intro K hK
    refine zAa ?_
    iterate 2 (refine zd E ?_; clear E a; intro a E)
    refine wpList_nil ?_
    refine zAb hK ?_; clear hK K
    iterate 2 (refine wp_seq_k ?_; intro K hK)
    refine zAa ?_
    iterate 2 (refine zd E ?_; clear E a; intro a E)
    refine zp E (by first | exact zAc (q := 3) E rfl rfl rfl | exact zAd (q := 3) E rfl rfl rfl) ?_; clear E a; intro a E
    refine zd E ?_; clear E a; intro a E
    refine zp E (zCz E rfl rfl rfl (S.get pZ)) ?_; clear E a; intro a E
    iterate 2 (refine zd E ?_; clear E a; intro a E)
    refine zBg E (t := 59) rfl (rfl) (fun hb59 => ?_)
    iterate 7 (refine zn E hb59 ?_; clear E a; intro a E)
    refine zp E (zAk E rfl rfl hb59 rfl) ?_; clear E a; intro a E
    refine wpList_nil ?_
    refine zAb hK ?_; clear hK K
    refine zAt E rfl rfl ?_
    refine wp_skip ?_
    refine zAb hK ?_; clear hK K
    refine wp_seq_k ?_; intro K hK
    refine zAa ?_
    iterate 2 (refine zd E ?_; clear E a; intro a E)
    refine zAg E rfl rfl dZ rfl Tryz.func94 rfl yZ rfl (zJf t ad wd c vk hw g at_ mb N _ CS D' vs ss hCS hD' hsl hN hat i oZ _ (S.hp.sel sZ)) ?_
    rintro v71 w ⟨vo, Co, D2, vs2, rfl, hCo, hR2, hD2, hT⟩; clear E a; intro a E
    have S := S.call sZ hT; simp only [List.cons_append, List.nil_append] at S; obtain ⟨ado, co, rfl⟩ := hCo.slice; have hvl2 : vs2.length = N := (by rw [hR2.1, zDo, hsl])
    iterate 5 (refine zd E ?_; clear E a; intro a E)
    refine wpList_nil ?_
    refine zAb hK ?_; clear hK K
    refine wp_seq_k ?_; intro K hK
    refine zDl (fun (a : Act) (w' : World) => ∃ bt : Bool, (bt = true ↔ zGi wd at_ i N = true ∧ chkK kind s ((blkF wd 0 (rebF wd at_ i ss)).take n) = true) ∧ St w0 [[(g, zDv t at_ (.slice adS N cS) mb)], [(mb, zHt (none))], CS, D, [(t, ptcl (.slice ad wd c) vk 32)], G] w' [Co, [(b7, cel [.int .u64 s.a, .int .u64 s.b, .int .u64 s.c, .int .u64 s.d] 29)], [(g, zDv t at_ (.slice adS N cS) mb)], [(mb, zHt (none))], CS, D2, [(t, ptcl (.slice ad wd c) vk 32)], G] ∧ Fr a 90 [(0, ptr g), (1, .int .i64 n), (2, .int .i64 kind), (7, ptr b7), (11, .int .i64 i), (12, .slice ado N co), (49, .int .i64 wd), (50, .int .i64 i), (86, .bool bt)]) ?_ ?_
    ·skip
     refine zAw S (.ofL [(0, 0), (1, 0), (2, 0), (3, 0), (4, 0), (5, 0), (6, 0), (7, 0), (8, 0), (9, 0), (10, 1), (11, 3), (12, 2)]) yZ yZ ?_
     clear S; intro w S
     iterate 2 (refine zmd E ?_; clear E a; intro a E)
     refine zAr E (t := 75) rfl (fun hb75 => ?_) (fun hb75 => ?_)
     ·have hb75n := hb75; replace hb75n := Nrm.nrm hb75n
      refine zAe E rfl rfl rfl rfl rfl hb75 rfl dZ (fun w h => zCp E rfl rfl) ?_; clear E a; intro a E
      refine zAe E rfl rfl rfl rfl rfl hb75 rfl dZ (fun w h => zBf (vs := [_, _, _, _]) E rfl rfl rfl (h.one mZ) rfl rfl) ?_; clear E a; intro a E
      refine zAe E rfl rfl rfl rfl rfl hb75 rfl dZ (fun w h => zCp E rfl rfl) ?_; clear E a; intro a E
      refine zAe E rfl rfl rfl rfl rfl hb75 rfl dZ (fun w h => zCu E rfl rfl) ?_; clear E a; intro a E
      refine zAe E rfl rfl rfl rfl rfl hb75 rfl dZ (fun w h => by first | exact zAc (q := 0) E rfl rfl rfl | exact zAd (q := 0) E rfl rfl rfl) ?_; clear E a; intro a E
      refine zAe E rfl rfl rfl rfl rfl hb75 rfl dZ (fun w h => by first | exact zCl E rfl rfl rfl (h.one mZ) rfl | exact zAo E rfl rfl rfl (by assumption)) ?_; clear E a; intro a E
      iterate 2 (refine zAe E rfl rfl rfl rfl rfl hb75 rfl dZ (fun w h => zCp E rfl rfl) ?_; clear E a; intro a E)
      refine zEu E rfl rfl rfl rfl rfl hb75 ?_; refine zCe E rfl dZ rfl Tryz.func43 rfl yZ rfl (zEh t ad wd c vk 32 _ mZ hw _ Co D2 vs2 (rebF wd at_ i ss) (by rw [hvl2]; exact hCo.rd) hR2 (by rw [zDo]; omega) mZ mZ n (by rw [hrl]; exact hn) _ S.hp) ?_
      rintro v84 w ⟨gb, Cb, rfl, hRb, hT⟩; clear E a; intro a E
      have S := S.all hT
      refine ⟨S.stab.sub (by first | (simp; done) | (simp +contextual; done) | (simp [*]; done)), ?_⟩
      refine zEi E rfl rfl rfl rfl rfl hb75 ?_; refine zCe E rfl dZ rfl Tryz.func93 rfl yZ rfl (chkK_ret Cb _ ((blkF wd 0 (rebF wd at_ i ss)).take n) (by rw [hrll]; exact hRb) (by rw [hrll]; omega) _ mZ (hG.sub (fun Q hQ => by rw [List.mem_singleton.1 hQ]; exact mZ)) kind s _ S.hp) ?_
      rintro v85 w ⟨rfl, hT⟩; clear E a; intro a E
      have S := S.all hT
      refine zBp E rfl rfl rfl dZ (fun w => zAi E rfl rfl hb75 rfl) ?_; clear E a; intro a E
      refine zBd ?_
      refine zAx ?_
      exact ⟨_, by simp_all, S.only sZ, E.keep (kE9 rfl rfl rfl rfl rfl rfl rfl rfl rfl)⟩
     ·have hb75n := hb75; replace hb75n := Nrm.nrm hb75n
      iterate 8 (refine zBb E rfl rfl rfl rfl rfl hb75 rfl dZ ?_; clear E a; intro a E)
      refine zDt E rfl rfl rfl rfl rfl hb75 rfl dZ (S.stab.sub (by first | (simp; done) | (simp +contextual; done) | (simp [*]; done))) ?_; clear E a; intro a E
      refine zDm E rfl rfl rfl rfl rfl hb75 rfl dZ ?_; clear E a; intro a E
      refine zBp E rfl rfl rfl dZ (fun w => zAk E rfl rfl hb75 rfl) ?_; clear E a; intro a E
      refine zBd ?_
      refine zAx ?_
      exact ⟨_, by simp_all, S.only sZ, E.keep (kE9 rfl rfl rfl rfl rfl rfl rfl rfl rfl)⟩
    ·clear E S a; intro a w J; obtain ⟨bt, hbt, S, E⟩ := J
     refine zAb hK ?_; clear hK K
     refine zAs E rfl (fun hb => ?_) (fun hb => ?_)
     ·replace hb := Nrm.nrm hb
      obtain ⟨ha1, ha2⟩ := hbt.1 hb
      refine wp_seq_k ?_; intro K hK
      refine zAa ?_
      iterate 5 (refine zd E ?_; clear E a; intro a E)
      refine wpList_nil ?_
      refine zAb hK ?_; clear hK K
      refine wp_ret ?_
      refine zDr ?_
      refine zBc ?_; clear hK K
      refine zBc ?_
      refine zDr ?_
      refine zBc ?_; clear hK K
      refine ret3 E rfl rfl rfl rfl ?_
      refine ⟨_, rfl, .slice ado N co, i, D2 ++ CS ++ Co, vs2, rebF wd at_ i ss, rfl, hCo.rd.sub fun q hq => List.mem_append_right _ hq, hR2.sub fun q hq => List.mem_append_left _ (List.mem_append_left _ hq), hCS.rd.sub fun q hq => List.mem_append_left _ (List.mem_append_right _ hq), hD2.sub fun q hq => List.mem_append_left _ (List.mem_append_left _ hq), ha2, .inr ⟨i, ⟨by omega, .inl rfl, ha1⟩, rfl, rfl⟩, fun _ h => (by rw [hdir] at h; cases h), (((S.gather (A := D2) (B := CS) pZ pZ).gather (A := D2 ++ CS) (B := Co) pZ pZ).only (Bs := [[(g, _)], [(mb, _)], D2 ++ CS ++ Co, [(t, _)], G]) sZ).tr⟩
     ·replace hb := Nrm.nrm hb
      have hstop : ¬ (zGi wd at_ i N = true ∧ chkK kind s ((blkF wd 0 (rebF wd at_ i ss)).take n) = true) := (fun q => by rw [hbt.2 q] at hb; cases hb)
      refine wp_skip ?_
      refine zAq ?_
      refine zAb hK ?_; clear hK K
      refine zAa ?_
      refine zp E (zAy E rfl rfl rfl (w_in oZ)) ?_; clear E a; intro a E
      refine zd E ?_; clear E a; intro a E
      refine wpList_nil ?_
      refine zAn ?_
      exact ⟨_, by omega, i + 1, D2, rfl, by omega, hD2, fun col hc hcd => (by by_cases q : col = i; (subst q; cases hx : chkK kind s ((blkF wd 0 (rebF wd at_ col ss)).take n); rfl; exact absurd ⟨hcd.2.2, hx⟩ hstop); exact hno col oZ hcd), S.only sZ, E.keep (kE6 rfl rfl rfl rfl rfl rfl)⟩
   ·replace hb := Nrm.nrm hb
    refine wp_exit ?_
    refine zAl ?_; clear hK K
    refine zAl ?_
    refine zBi ?_
    refine zAb hK ?_; clear hK K
    refine wp_seq_k ?_; intro K hK
    refine zAa ?_
    iterate 3 (refine zd E ?_; clear E a; intro a E)
    refine wpList_nil ?_
    refine zAb hK ?_; clear hK K
    refine wp_ret ?_
    refine ret3 E rfl rfl rfl rfl ?_
    exfalso
    rcases hfind with ⟨q1, q2⟩ | ⟨col, hcd, hx⟩
    ·simp_all
    ·have := hno col (by have := hcd.1; omega) hcd
     rw [hx] at this; cases this
 ·skip
  iterate 2 (refine zd E ?_; clear E a; intro a E)
  refine zp E (by first | exact zAc (q := 3) E rfl rfl rfl | exact zAd (q := 3) E rfl rfl rfl) ?_; clear E a; intro a E
  refine zd E ?_; clear E a; intro a E
  refine zp E (zCz E rfl rfl rfl (S.get pZ)) ?_; clear E a; intro a E
  refine zd E ?_; clear E a; intro a E
  refine wpList_nil ?_
  refine zAb hK ?_; clear hK K
  refine zAt E rfl (rfl) ?_
  refine wp_skip ?_
  refine zAb hK ?_; clear hK K
  iterate 2 (refine wp_seq_k ?_; intro K hK)
  refine zAw S (.ofL [(0, 0), (1, 0), (2, 0), (3, 0), (4, 0), (5, 0), (6, 0), (7, 0), (8, 0), (9, 0), (10, 0), (11, 0), (12, 0), (13, 0), (14, 0), (15, 0), (16, 0), (17, 0), (18, 1), (19, 3), (20, 2)]) yZ yZ ?_
  clear S; intro w S
  iterate 2 (refine zmd E ?_; clear E a; intro a E)
  refine zm E rfl (fun w h => by first | exact zAc (q := 3) E rfl rfl rfl | exact zAd (q := 3) E rfl rfl rfl) ?_; clear E a; intro a E
  refine zmd E ?_; clear E a; intro a E
  refine zm E rfl (fun w h => zCz E rfl rfl rfl (h.one mZ)) ?_; clear E a; intro a E
  iterate 2 (refine zmd E ?_; clear E a; intro a E)
  refine zBg E (t := 26) rfl (rfl) (fun hb26 => ?_)
  iterate 11 (refine zBb E rfl rfl rfl rfl rfl hb26 rfl dZ ?_; clear E a; intro a E)
  refine zDt E rfl rfl rfl rfl rfl hb26 rfl dZ (S.stab.sub (by first | (simp; done) | (simp +contextual; done) | (simp [*]; done))) ?_; clear E a; intro a E
  refine zDm E rfl rfl rfl rfl rfl hb26 rfl dZ ?_; clear E a; intro a E
  refine zBp E rfl rfl rfl dZ (fun w => zAk E rfl rfl hb26 rfl) ?_; clear E a; intro a E
  refine zBd ?_
  refine zAb hK ?_; clear hK K
  refine zAt E rfl rfl ?_
  refine wp_skip ?_
  refine zAb hK ?_; clear hK K
  iterate 2 (refine wp_seq_k ?_; intro K hK)
  replace E := E.keep (e' := [(0, _), (1, _), (2, _), (7, _), (8, _), (9, _), (10, _)]) (kE7 rfl rfl rfl rfl rfl rfl rfl)
  refine zAa ?_
  iterate 2 (refine zd E ?_; clear E a; intro a E)
  refine zp E (by first | exact zAc (q := 0) E rfl rfl rfl | exact zAd (q := 0) E rfl rfl rfl) ?_; clear E a; intro a E
  refine zd E ?_; clear E a; intro a E
  refine zAg E rfl rfl dZ rfl Tryz.func36 rfl yZ rfl (zCt t ad wd c vk 32 _ mZ _ S.hp) ?_
  rintro v49 w ⟨rfl, hT⟩; clear E a; intro a E
  have S := S.all hT
  refine zd E ?_; clear E a; intro a E
  refine wpList_nil ?_
  refine zAb hK ?_; clear hK K
  refine wp_block ?_
  refine wp_loop_ghost (fun (m : Nat) (a : Act) (w' : World) => ∃ (i : Nat) (D' : zAj), m = wd - i ∧ i ≤ wd ∧ zCv D' vs ss ∧ (∀ col, col < i → Cand wd at_ N (some j0) col → chkK kind s ((blkF wd 0 (rebF wd at_ col ss)).take n) = false) ∧ St w0 [[(g, zDv t at_ (.slice adS N cS) mb)], [(mb, zHt (some j0))], CS, D, [(t, ptcl (.slice ad wd c) vk 32)], G] w' [[(b7, cel [.int .u64 s.a, .int .u64 s.b, .int .u64 s.c, .int .u64 s.d] 29)], [(g, zDv t at_ (.slice adS N cS) mb)], [(mb, zHt (some j0))], CS, D', [(t, ptcl (.slice ad wd c) vk 32)], G] ∧ Fr a 90 [(0, ptr g), (1, .int .i64 n), (2, .int .i64 kind), (7, ptr b7), (49, .int .i64 wd), (50, .int .i64 i)]) (wd - 0) ?_ ?_
  ·exact ⟨0, D, rfl, by omega, hD, fun col h => absurd h oZ, S.only sZ, E.keep (kE6 rfl rfl rfl rfl rfl rfl)⟩
  clear E; clear a; (try clear S); rintro m a w ⟨i, D', rfl, hi, hD', hno, S, E⟩
  refine wp_seq_k ?_; intro K hK
  refine zAa ?_
  refine zd E ?_; clear E a; intro a E
  refine wpList_nil ?_
  refine zAb hK ?_; clear hK K
  refine wp_seq_k ?_; intro K hK
  refine zAs E rfl (fun hb => ?_) (fun hb => ?_)
  ·replace hb := Nrm.nrm hb
   refine wp_skip ?_
   refine zAb hK ?_; clear hK K
   refine wp_seq_k ?_; intro K hK
   refine wp_block ?_
   refine wp_seq_k ?_; intro K hK
   refine zAa ?_
   iterate 2 (refine zd E ?_; clear E a; intro a E)
   refine wpList_nil ?_
   refine zAb hK ?_; clear hK K
   iterate 2 (refine wp_seq_k ?_; intro K hK)
   refine zAa ?_
   iterate 2 (refine zd E ?_; clear E a; intro a E)
   refine zp E (by first | exact zAc (q := 3) E rfl rfl rfl | exact zAd (q := 3) E rfl rfl rfl) ?_; clear E a; intro a E
   refine zd E ?_; clear E a; intro a E
   refine zp E (zCz E rfl rfl rfl (S.get pZ)) ?_; clear E a; intro a E
   iterate 2 (refine zd E ?_; clear E a; intro a E)
   refine zCb E (t := 59) rfl (rfl) (fun hb59 => ?_)
   iterate 2 (refine zyd E hb59 ?_; clear E a; intro a E)
   refine zy E hb59 (by first | exact zAc (q := 3) E rfl rfl rfl | exact zAd (q := 3) E rfl rfl rfl) ?_; clear E a; intro a E
   iterate 2 (refine zyd E hb59 ?_; clear E a; intro a E)
   refine zy E hb59 (rn_lost E (some j0) i rfl rfl rfl rfl rfl rfl rfl (S.get pZ)) ?_; clear E a; intro a E
   refine zyd E hb59 ?_; clear E a; intro a E
   refine zp E (zAi E rfl rfl hb59 rfl) ?_; clear E a; intro a E
   refine wpList_nil ?_
   refine zAb hK ?_; clear hK K
   refine zAs E rfl (fun hb => ?_) (fun hb => ?_)
   ·replace hb := Nrm.nrm hb
    have hne : j0 ≠ i := (by simpa using hb)
    refine wp_exit ?_
    refine zAl ?_; clear hK K
    refine zBi ?_
    refine zAb hK ?_; clear hK K
    refine zAa ?_
    refine zp E (zAy E rfl rfl rfl (w_in oZ)) ?_; clear E a; intro a E
    refine zd E ?_; clear E a; intro a E
    refine wpList_nil ?_
    refine zAn ?_
    exact ⟨_, by omega, i + 1, D', rfl, by omega, hD', fun col hc hcd => (by by_cases q : col = i; (subst q; exact absurd (hcd.2.1.resolve_left (by simp)) (by simpa using hne)); exact hno col oZ hcd), S.only sZ, E.keep (kE6 rfl rfl rfl rfl rfl rfl)⟩
   ·replace hb := Nrm.nrm hb
    have hij : j0 = i := (by simpa using hb)
    refine wp_skip ?_
    refine zAb hK ?_; clear hK K
    refine wp_seq_k ?_; intro K hK
    refine zAa ?_
    iterate 2 (refine zd E ?_; clear E a; intro a E)
    refine zAg E rfl rfl dZ rfl Tryz.func94 rfl yZ rfl (zJf t ad wd c vk hw g at_ mb N _ CS D' vs ss hCS hD' hsl hN hat i oZ _ (S.hp.sel sZ)) ?_
    rintro v71 w ⟨vo, Co, D2, vs2, rfl, hCo, hR2, hD2, hT⟩; clear E a; intro a E
    have S := S.call sZ hT; simp only [List.cons_append, List.nil_append] at S; obtain ⟨ado, co, rfl⟩ := hCo.slice; have hvl2 : vs2.length = N := (by rw [hR2.1, zDo, hsl])
    iterate 5 (refine zd E ?_; clear E a; intro a E)
    refine wpList_nil ?_
    refine zAb hK ?_; clear hK K
    refine wp_seq_k ?_; intro K hK
    refine zDl (fun (a : Act) (w' : World) => ∃ bt : Bool, (bt = true ↔ zGi wd at_ i N = true ∧ chkK kind s ((blkF wd 0 (rebF wd at_ i ss)).take n) = true) ∧ St w0 [[(g, zDv t at_ (.slice adS N cS) mb)], [(mb, zHt (some j0))], CS, D, [(t, ptcl (.slice ad wd c) vk 32)], G] w' [Co, [(b7, cel [.int .u64 s.a, .int .u64 s.b, .int .u64 s.c, .int .u64 s.d] 29)], [(g, zDv t at_ (.slice adS N cS) mb)], [(mb, zHt (some j0))], CS, D2, [(t, ptcl (.slice ad wd c) vk 32)], G] ∧ Fr a 90 [(0, ptr g), (1, .int .i64 n), (2, .int .i64 kind), (7, ptr b7), (11, .int .i64 i), (12, .slice ado N co), (49, .int .i64 wd), (50, .int .i64 i), (86, .bool bt)]) ?_ ?_
    ·skip
     refine zAw S (.ofL [(0, 0), (1, 0), (2, 0), (3, 0), (4, 0), (5, 0), (6, 0), (7, 0), (8, 0), (9, 0), (10, 1), (11, 3), (12, 2)]) yZ yZ ?_
     clear S; intro w S
     iterate 2 (refine zmd E ?_; clear E a; intro a E)
     refine zAr E (t := 75) rfl (fun hb75 => ?_) (fun hb75 => ?_)
     ·have hb75n := hb75; replace hb75n := Nrm.nrm hb75n
      refine zAe E rfl rfl rfl rfl rfl hb75 rfl dZ (fun w h => zCp E rfl rfl) ?_; clear E a; intro a E
      refine zAe E rfl rfl rfl rfl rfl hb75 rfl dZ (fun w h => zBf (vs := [_, _, _, _]) E rfl rfl rfl (h.one mZ) rfl rfl) ?_; clear E a; intro a E
      refine zAe E rfl rfl rfl rfl rfl hb75 rfl dZ (fun w h => zCp E rfl rfl) ?_; clear E a; intro a E
      refine zAe E rfl rfl rfl rfl rfl hb75 rfl dZ (fun w h => zCu E rfl rfl) ?_; clear E a; intro a E
      refine zAe E rfl rfl rfl rfl rfl hb75 rfl dZ (fun w h => by first | exact zAc (q := 0) E rfl rfl rfl | exact zAd (q := 0) E rfl rfl rfl) ?_; clear E a; intro a E
      refine zAe E rfl rfl rfl rfl rfl hb75 rfl dZ (fun w h => by first | exact zCl E rfl rfl rfl (h.one mZ) rfl | exact zAo E rfl rfl rfl (by assumption)) ?_; clear E a; intro a E
      iterate 2 (refine zAe E rfl rfl rfl rfl rfl hb75 rfl dZ (fun w h => zCp E rfl rfl) ?_; clear E a; intro a E)
      refine zEu E rfl rfl rfl rfl rfl hb75 ?_; refine zCe E rfl dZ rfl Tryz.func43 rfl yZ rfl (zEh t ad wd c vk 32 _ mZ hw _ Co D2 vs2 (rebF wd at_ i ss) (by rw [hvl2]; exact hCo.rd) hR2 (by rw [zDo]; omega) mZ mZ n (by rw [hrl]; exact hn) _ S.hp) ?_
      rintro v84 w ⟨gb, Cb, rfl, hRb, hT⟩; clear E a; intro a E
      have S := S.all hT
      refine ⟨S.stab.sub (by first | (simp; done) | (simp +contextual; done) | (simp [*]; done)), ?_⟩
      refine zEi E rfl rfl rfl rfl rfl hb75 ?_; refine zCe E rfl dZ rfl Tryz.func93 rfl yZ rfl (chkK_ret Cb _ ((blkF wd 0 (rebF wd at_ i ss)).take n) (by rw [hrll]; exact hRb) (by rw [hrll]; omega) _ mZ (hG.sub (fun Q hQ => by rw [List.mem_singleton.1 hQ]; exact mZ)) kind s _ S.hp) ?_
      rintro v85 w ⟨rfl, hT⟩; clear E a; intro a E
      have S := S.all hT
      refine zBp E rfl rfl rfl dZ (fun w => zAi E rfl rfl hb75 rfl) ?_; clear E a; intro a E
      refine zBd ?_
      refine zAx ?_
      exact ⟨_, by simp_all, S.only sZ, E.keep (kE9 rfl rfl rfl rfl rfl rfl rfl rfl rfl)⟩
     ·have hb75n := hb75; replace hb75n := Nrm.nrm hb75n
      iterate 8 (refine zBb E rfl rfl rfl rfl rfl hb75 rfl dZ ?_; clear E a; intro a E)
      refine zDt E rfl rfl rfl rfl rfl hb75 rfl dZ (S.stab.sub (by first | (simp; done) | (simp +contextual; done) | (simp [*]; done))) ?_; clear E a; intro a E
      refine zDm E rfl rfl rfl rfl rfl hb75 rfl dZ ?_; clear E a; intro a E
      refine zBp E rfl rfl rfl dZ (fun w => zAk E rfl rfl hb75 rfl) ?_; clear E a; intro a E
      refine zBd ?_
      refine zAx ?_
      exact ⟨_, by simp_all, S.only sZ, E.keep (kE9 rfl rfl rfl rfl rfl rfl rfl rfl rfl)⟩
    ·clear E S a; intro a w J; obtain ⟨bt, hbt, S, E⟩ := J
     refine zAb hK ?_; clear hK K
     refine zAs E rfl (fun hb => ?_) (fun hb => ?_)
     ·replace hb := Nrm.nrm hb
      obtain ⟨ha1, ha2⟩ := hbt.1 hb
      refine wp_seq_k ?_; intro K hK
      refine zAa ?_
      iterate 5 (refine zd E ?_; clear E a; intro a E)
      refine wpList_nil ?_
      refine zAb hK ?_; clear hK K
      refine wp_ret ?_
      refine zDr ?_
      refine zBc ?_; clear hK K
      refine zBc ?_
      refine zDr ?_
      refine zBc ?_; clear hK K
      refine ret3 E rfl rfl rfl rfl ?_
      refine ⟨_, rfl, .slice ado N co, i, D2 ++ CS ++ Co, vs2, rebF wd at_ i ss, rfl, hCo.rd.sub fun q hq => List.mem_append_right _ hq, hR2.sub fun q hq => List.mem_append_left _ (List.mem_append_left _ hq), hCS.rd.sub fun q hq => List.mem_append_left _ (List.mem_append_right _ hq), hD2.sub fun q hq => List.mem_append_left _ (List.mem_append_left _ hq), ha2, .inr ⟨i, ⟨by omega, .inr (by rw [hij]), ha1⟩, rfl, rfl⟩, fun h => (by cases h), (((S.gather (A := D2) (B := CS) pZ pZ).gather (A := D2 ++ CS) (B := Co) pZ pZ).only (Bs := [[(g, _)], [(mb, _)], D2 ++ CS ++ Co, [(t, _)], G]) sZ).tr⟩
     ·replace hb := Nrm.nrm hb
      have hstop : ¬ (zGi wd at_ i N = true ∧ chkK kind s ((blkF wd 0 (rebF wd at_ i ss)).take n) = true) := (fun q => by rw [hbt.2 q] at hb; cases hb)
      refine wp_skip ?_
      refine zAq ?_
      refine zAb hK ?_; clear hK K
      refine zAa ?_
      refine zp E (zAy E rfl rfl rfl (w_in oZ)) ?_; clear E a; intro a E
      refine zd E ?_; clear E a; intro a E
      refine wpList_nil ?_
      refine zAn ?_
      exact ⟨_, by omega, i + 1, D2, rfl, by omega, hD2, fun col hc hcd => (by by_cases q : col = i; (subst q; cases hx : chkK kind s ((blkF wd 0 (rebF wd at_ col ss)).take n); rfl; exact absurd ⟨hcd.2.2, hx⟩ hstop); exact hno col oZ hcd), S.only sZ, E.keep (kE6 rfl rfl rfl rfl rfl rfl)⟩
  ·replace hb := Nrm.nrm hb
   refine wp_exit ?_
   refine zAl ?_; clear hK K
   refine zAl ?_
   refine zBi ?_
   refine zAb hK ?_; clear hK K
   refine wp_seq_k ?_; intro K hK
   refine zAa ?_
   iterate 3 (refine zd E ?_; clear E a; intro a E)
   refine wpList_nil ?_
   refine zAb hK ?_; clear hK K
   refine wp_ret ?_
   refine ret3 E rfl rfl rfl rfl ?_
   exfalso
   rcases hfind with ⟨q1, q2⟩ | ⟨col, hcd, hx⟩
   ·simp_all
   ·have := hno col (by have := hcd.1; omega) hcd
    rw [hx] at this; cases this
end
end Go.Proofs.YtpjidiaekifmbaaGreatDoor
namespace Go.Proofs.YtpjidiaekifmbaaGreatDoor
open Go.Sl
set_option maxRecDepth 10000
theorem pequal_ret (D E' : zAj) (v u : Value) (p q : List UInt8) (hv : SecV D v p) (hu : SecV E' u q) (As : List zAj) (hDA : D ∈ As) (hEA : E' ∈ As) (w0 : World) (H : Hp w0 As) : Ret Tryz.prog 44 #[v, u] w0 fun z w' => z = .bool (decide (p = q)) ∧ Trs w0 w' As As := by
 have S := St.begin H
 refine zBx 10 Tryz.func44 rfl rfl dZ ?_; intro a E
 refine wp_seq_k ?_; intro K hK
 refine zAa ?_
 refine zd E ?_; clear E a; intro a E
 refine wpList_nil ?_
 refine zAb hK ?_; clear hK K
 refine wp_seq_k ?_; intro K hK
 refine zAa ?_
 refine zd E ?_; clear E a; intro a E
 refine zp E (zCc E rfl rfl rfl rfl rfl (bs := p) hv.rd (S.stab.at hDA)) ?_; clear E a; intro a E
 refine zd E ?_; clear E a; intro a E
 refine zp E (zCc E rfl rfl rfl rfl rfl (bs := q) hu.rd (S.stab.at hEA)) ?_; clear E a; intro a E
 iterate 2 (refine zd E ?_; clear E a; intro a E)
 refine wpList_nil ?_
 refine zAb hK ?_; clear hK K
 refine wp_ret ?_
 refine ret1 E rfl rfl ?_
 exact ⟨_, rfl, rfl, S.tr⟩
section
variable (P : Nat) (R : Rk) (C : zAj) (hC : RkC P R C) (xs : List (Nat × Nat)) (k : Nat) (hU : Up R xs k) (hk : k ≤ 800) (hw : 3 ≤ xs.length ∧ xs.length ≤ 5) (hnd : (xs.map Prod.snd).Nodup) (Lv : zAj) (hLv : LvC (lvs xs) Lv)
 (t : Nat) (ad : Option Addr) (c : Nat) (vk : Value) (CL : zAj) (hCL : Buf CL 53 1 (.slice ad xs.length c) xs.length (xs.map fun y => ptr y.1))
include hC hU hk hw hnd hLv hCL
theorem pput_ret (g at_ mb N : Nat) (hN : at_ + N ≤ xs.length * 32 ∧ N ≤ 12) (vS vl : Value) (DD : zAj) (vs vsl : List Value) (ss l : List (List UInt8)) (hl : Rd DD 1 vl N vsl) (hlv : zCv DD vsl l) (hs : Rd DD 1 vS N vs) (hsv : zCv DD vs ss) (hsl : ss.length = N) (hll : l.length = N)
  (hnl : ∀ i, i < N → zFp R xs (at_ + i) = false) (hsec : ∀ i (h : i < ss.length), secP R xs (at_ + i) = ss[i]) (w0 : World) (H : Hp w0 [C, Lv, [(t, ptcl (.slice ad xs.length c) vk 32)], CL, [(g, zDv t at_ vS mb)], DD]) :
  Ret Tryz.prog 42 #[ptr g, vl] w0 fun u w' => u = .int .i64 0 ∧ ∃ R' C' Lv', RkC P R' C' ∧ LvC (lvs xs) Lv' ∧ Up R' xs (k + 96) ∧ (∀ y ∈ xs, (dkOf R' y.2).failed = (dkOf R y.2).failed) ∧ Lies R' xs at_ l N ∧
   Trs w0 w' [C, Lv, [(t, ptcl (.slice ad xs.length c) vk 32)], CL, [(g, zDv t at_ vS mb)], DD] [C', Lv', [(t, ptcl (.slice ad xs.length c) vk 32)], CL, [(g, zDv t at_ vS mb)], DD] := by
 have S := St.begin H
 have hvl : vsl.length = N := by rw [hlv.1, hll]
 have hat40 : xs.length * 32 ≤ 160 := by omega
 have hdv : ∀ i, i < N → (at_ + i) / xs.length < 32 := fun i hi => (Nat.div_lt_iff_lt_mul oZ).2 (by rw [Nat.mul_comm]; omega)
 obtain ⟨adl, cl, rfl⟩ := hl.slice
 obtain ⟨adS, cS, rfl⟩ := hs.slice
 refine zBx 40 Tryz.func42 rfl rfl dZ ?_; intro a E
 refine wp_seq_k ?_; intro K hK
 refine zAa ?_
 refine zd E ?_; clear E a; intro a E
 refine wpList_nil ?_
 refine zAb hK ?_; clear hK K
 iterate 2 (refine wp_seq_k ?_; intro K hK)
 refine zAa ?_
 iterate 3 (refine zd E ?_; clear E a; intro a E)
 refine wpList_nil ?_
 refine zAb hK ?_; clear hK K
 refine wp_block ?_
 refine wp_loop_ghost (fun (m : Nat) (a : Act) (w' : World) => ∃ (i : Nat) (R' : Rk) (C' Lv' : zAj), m = N - i ∧ i ≤ N ∧ RkC P R' C' ∧ LvC (lvs xs) Lv' ∧ Up R' xs (k + 8 * i) ∧ (∀ y ∈ xs, (dkOf R' y.2).failed = (dkOf R y.2).failed) ∧ Lies R' xs at_ l i ∧ (∀ j (h : j < ss.length), i ≤ j → secP R' xs (at_ + j) = ss[j]) ∧
  St w0 [C, Lv, [(t, ptcl (.slice ad xs.length c) vk 32)], CL, [(g, zDv t at_ (.slice adS N cS) mb)], DD] w' [C', Lv', [(t, ptcl (.slice ad xs.length c) vk 32)], CL, [(g, zDv t at_ (.slice adS N cS) mb)], DD] ∧ Fr a 40 [(0, ptr g), (7, .slice adl N cl), (8, .int .i64 N), (9, .int .i64 i)]) (N - 0) ?_ ?_
 ·exact ⟨0, R, C, Lv, rfl, by omega, hC, hLv, hU, fun y hy => rfl, fun j h q => absurd q oZ, fun j h _ => hsec j h, S, E.keep (kE4 rfl rfl rfl rfl)⟩
 clear E; clear a; (try clear S); rintro m a w ⟨i, R', C', Lv', rfl, hi, hC', hLv', hU', hf', hLi, hrest, S, E⟩
 refine wp_seq_k ?_; intro K hK
 refine zAa ?_
 refine zd E ?_; clear E a; intro a E
 refine wpList_nil ?_
 refine zAb hK ?_; clear hK K
 refine wp_seq_k ?_; intro K hK
 refine zAs E rfl (fun hb => ?_) (fun hb => ?_)
 ·replace hb := Nrm.nrm hb
  refine wp_skip ?_
  refine zAb hK ?_; clear hK K
  refine wp_seq_k ?_; intro K hK
  refine wp_block ?_
  refine wp_seq_k ?_; intro K hK
  have hil : i < l.length := by omega
  have his : i < ss.length := by omega
  obtain ⟨vi, hvi, hiv⟩ := hlv.at hil
  obtain ⟨ui, hui, hiu⟩ := hsv.at his
  obtain ⟨gl, ol, rfl⟩ := hl.addr oZ
  obtain ⟨gS, oS, rfl⟩ := hs.addr oZ
  obtain ⟨g1, o1, c1, rfl, hc1⟩ := hiv.addr
  obtain ⟨g2, o2, c2, rfl, hc2⟩ := hiu.addr
  have hdi := hdv i oZ
  have hfi : (dkOf R' (onX xs (at_ + i)).2).failed = false := by rw [hf' _ (zEg oZ _).1]; exact hnl i oZ
  refine zAa ?_
  refine zd E ?_; clear E a; intro a E
  refine zp E (by first | exact zAp E rfl rfl rfl rfl rfl rfl oZ | exact zAz E rfl rfl rfl rfl rfl rfl oZ | exact zAm E rfl rfl rfl rfl rfl rfl oZ) ?_; clear E a; intro a E
  refine zp E (zAo E rfl rfl rfl (hl.cells (S.stab.at mZ) rfl i _ hvi)) ?_; clear E a; intro a E
  iterate 2 (refine zd E ?_; clear E a; intro a E)
  refine wpList_nil ?_
  refine zAb hK ?_; clear hK K
  refine wp_seq_k ?_; intro K hK
  refine zDl (fun (a : Act) (w' : World) => ∃ (R2 : Rk) (C2 Lv2 : zAj), RkC P R2 C2 ∧ LvC (lvs xs) Lv2 ∧ Up R2 xs (k + 8 * i + 8) ∧ (∀ y ∈ xs, (dkOf R2 y.2).failed = (dkOf R' y.2).failed) ∧ (∀ j, j < N → secP R2 xs (at_ + j) = if j = i then l[i] else secP R' xs (at_ + j)) ∧
   St w0 [C, Lv, [(t, ptcl (.slice ad xs.length c) vk 32)], CL, [(g, zDv t at_ (.slice (some ⟨gS, oS, none⟩) N cS) mb)], DD] w' [C2, Lv2, [(t, ptcl (.slice ad xs.length c) vk 32)], CL, [(g, zDv t at_ (.slice (some ⟨gS, oS, none⟩) N cS) mb)], DD] ∧ Fr a 40 [(0, ptr g), (7, .slice (some ⟨gl, ol, none⟩) N cl), (8, .int .i64 N), (9, .int .i64 i), (38, .bool false)]) ?_ ?_
  ·skip
   refine zDe S (.ofL [(0, 0), (1, 0), (2, 0), (3, 0), (4, 0), (5, 0), (6, 0), (7, 0), (8, 1), (9, 0), (10, 0), (11, 0), (12, 0), (13, 0), (14, 0), (15, 0), (16, 0), (17, 0), (18, 0), (19, 0), (20, 0), (21, 0), (22, 3), (23, 2), (24, 2)]) [[(g, zDv t at_ (.slice (some ⟨gS, oS, none⟩) N cS) mb)], DD] (fun h => h.sub (by first | (simp; done) | (simp +contextual; done) | (simp [*]; done))) yZ yZ ?_
   clear S; intro w S
   iterate 3 (refine zmd E ?_; clear E a; intro a E)
   refine zm E rfl (fun w h => by first | exact zAc (q := 2) E rfl rfl rfl | exact zAd (q := 2) E rfl rfl rfl) ?_; clear E a; intro a E
   iterate 2 (refine zmd E ?_; clear E a; intro a E)
   refine zm E rfl (fun w h => zAp (i := i) E rfl rfl rfl rfl rfl rfl oZ) ?_; clear E a; intro a E
   refine zm E rfl (fun w h => zAo E rfl rfl rfl (hs.cells (h.at mZ) rfl i _ hui)) ?_; clear E a; intro a E
   refine zBo E rfl rfl rfl dZ rfl Tryz.func44 rfl yZ rfl (pequal_ret DD DD _ _ l[i] ss[i] hiv hiu _ mZ mZ _ S.hp) ?_
   rintro v22 w ⟨rfl, hT⟩; clear E a; intro a E
   have S := S.all hT
   refine ⟨S.stab.sub (by first | (simp; done) | (simp +contextual; done) | (simp [*]; done)), ?_⟩
   iterate 2 (refine zmd E ?_; clear E a; intro a E)
   refine zAr E (t := 24) rfl (fun hb24 => ?_) (fun hb24 => ?_)
   ·have hb24n := hb24; replace hb24n := Nrm.nrm hb24n
    refine zAe E rfl rfl rfl rfl rfl hb24 rfl dZ (fun w h => zCp E rfl rfl) ?_; clear E a; intro a E
    refine zAe E rfl rfl rfl rfl rfl hb24 rfl dZ (fun w h => zCu E rfl rfl) ?_; clear E a; intro a E
    refine zAe E rfl rfl rfl rfl rfl hb24 rfl dZ (fun w h => by first | exact zAc (q := 0) E rfl rfl rfl | exact zAd (q := 0) E rfl rfl rfl) ?_; clear E a; intro a E
    refine zAe E rfl rfl rfl rfl rfl hb24 rfl dZ (fun w h => by first | exact zCl E rfl rfl rfl (h.one mZ) rfl | exact zAo E rfl rfl rfl (by assumption)) ?_; clear E a; intro a E
    refine zAe E rfl rfl rfl rfl rfl hb24 rfl dZ (fun w h => zCp E rfl rfl) ?_; clear E a; intro a E
    refine zAe E rfl rfl rfl rfl rfl hb24 rfl dZ (fun w h => zCu E rfl rfl) ?_; clear E a; intro a E
    refine zAe E rfl rfl rfl rfl rfl hb24 rfl dZ (fun w h => by first | exact zAc (q := 1) E rfl rfl rfl | exact zAd (q := 1) E rfl rfl rfl) ?_; clear E a; intro a E
    refine zAe E rfl rfl rfl rfl rfl hb24 rfl dZ (fun w h => by first | exact zCl E rfl rfl rfl (h.one mZ) rfl | exact zAo E rfl rfl rfl (by assumption)) ?_; clear E a; intro a E
    refine zAe E rfl rfl rfl rfl rfl hb24 rfl dZ (fun w h => zCp E rfl rfl) ?_; clear E a; intro a E
    refine zAe E rfl rfl rfl rfl rfl hb24 rfl dZ (fun w h => zAy E rfl rfl rfl (w_in oZ)) ?_; clear E a; intro a E
    refine zAe E rfl rfl rfl rfl rfl hb24 rfl dZ (fun w h => zCp E rfl rfl) ?_; clear E a; intro a E
    refine zEi E rfl rfl rfl rfl rfl hb24 ?_; refine zCe E rfl dZ rfl Tryz.func35 rfl yZ rfl (zKw P R' C' hC' xs (k + 8 * i) hU' oZ hw hnd Lv' hLv' t ad c vk CL hCL (at_ + i) hdi oZ hfi _ l[i] DD hiv _ (S.hp.sel sZ)) ?_
    rintro v36 w ⟨rfl, R2, C2, Lv2, hC2, hLv2, hU2, hf2, hs2, hT⟩; clear E a; intro a E
    have S := S.call sZ hT; simp only [List.cons_append, List.nil_append] at S
    refine zLc E rfl rfl rfl rfl rfl hb24 rfl dZ (fun w => by first | exact rn_eql E rfl rfl rfl | exact zEj E rfl rfl rfl rfl | exact zFx E rfl rfl rfl rfl | exact zEv E rfl rfl rfl) ?_; clear E a; intro a E
    refine zBp E rfl rfl rfl dZ (fun w => zAi E rfl rfl hb24 rfl) ?_; clear E a; intro a E
    refine zBd ?_
    refine zAx ?_
    refine ⟨R2, C2, Lv2, hC2, hLv2, hU2, hf2, fun j hj => ?_, S.only sZ, E.keep (kE5 rfl rfl rfl rfl rfl)⟩
    rw [hs2 _ (hdv j hj)]
    by_cases q : j = i
    ·subst q; rw [if_pos rfl, if_pos rfl]
    ·rw [if_neg oZ, if_neg q]
   ·have hb24n := hb24; replace hb24n := Nrm.nrm hb24n
    iterate 11 (refine zBb E rfl rfl rfl rfl rfl hb24 rfl dZ ?_; clear E a; intro a E)
    refine zDm E rfl rfl rfl rfl rfl hb24 rfl dZ ?_; clear E a; intro a E
    refine mix_guard_no2 E rfl rfl rfl rfl rfl hb24 rfl dZ ?_; clear E a; intro a E
    refine zBp E rfl rfl rfl dZ (fun w => zAk E rfl rfl hb24 rfl) ?_; clear E a; intro a E
    refine zBd ?_
    refine zAx ?_
    have heq : l[i] = ss[i] := by simpa using hb24
    refine ⟨R', C', Lv', hC', hLv', ⟨hU'.on, hU'.nd, hU'.has, hU'.pl, hU'.nw, by have := hU'.ws; omega, by have := hU'.wr; omega⟩, fun y hy => rfl, fun j hj => ?_, S.only sZ, E.keep (kE5 rfl rfl rfl rfl rfl)⟩
    by_cases q : j = i
    ·subst q; rw [if_pos rfl, heq]; exact hrest j his (Nat.le_refl _)
    ·rw [if_neg q]
  ·clear E S a; intro a w J; obtain ⟨R2, C2, Lv2, hC2, hLv2, hU2, hf2, hs2, S, E⟩ := J
   refine zAb hK ?_; clear hK K
   refine zAt E rfl (rfl) ?_
   refine wp_skip ?_
   refine zAq ?_
   refine zAb hK ?_; clear hK K
   refine zAa ?_
   refine zp E (zAy E rfl rfl rfl (w_in oZ)) ?_; clear E a; intro a E
   refine zd E ?_; clear E a; intro a E
   refine wpList_nil ?_
   refine zAn ?_
   refine ⟨_, by omega, i + 1, R2, C2, Lv2, rfl, by omega, hC2, hLv2, by rw [show k + 8 * (i + 1) = k + 8 * i + 8 by omega]; exact hU2, fun y hy => (hf2 y hy).trans (hf' y hy), fun j hj hji => ?_, fun j hj hji => ?_, S, E.keep (kE4 rfl rfl rfl rfl)⟩
   ·rw [hs2 j oZ]
    by_cases q : j = i
    ·subst q; rw [if_pos rfl]
    ·rw [if_neg q]; exact hLi j hj oZ
   ·rw [hs2 j oZ, if_neg oZ]; exact hrest j hj oZ
 ·replace hb := Nrm.nrm hb
  refine wp_exit ?_
  refine zAl ?_; clear hK K
  refine zAl ?_
  refine zBi ?_
  refine zAb hK ?_; clear hK K
  refine wp_seq_k ?_; intro K hK
  obtain rfl : i = N := by omega
  refine zAa ?_
  refine zd E ?_; clear E a; intro a E
  refine wpList_nil ?_
  refine zAb hK ?_; clear hK K
  refine wp_ret ?_
  refine ret1 E rfl rfl ?_
  refine ⟨_, rfl, rfl, R', C', Lv', hC', hLv', ?_, hf', hLi, S.tr⟩
  exact ⟨hU'.on, hU'.nd, hU'.has, hU'.pl, hU'.nw, by have := hU'.ws; omega, by have := hU'.wr; omega⟩
end
end Go.Proofs.YtpjidiaekifmbaaGreatDoor
namespace Go.Sl
theorem ret4 {P : Program} {fn : Func} {R : Ending → World → Prop} {w : World} {a : Act} {n : Nat} {e : List (Nat × Value)} (E : Fr a n e) {t s u q : Nat} {v x y z : Value} (hr : fn.results = #[.tmp t, .tmp s, .tmp u, .tmp q]) (hv : lk e t = some v) (hx : lk e s = some x) (hy : lk e u = some y) (hz : lk e q = some z)
  (h : R (.returned (.tuple #[v, x, y, z])) w) : bodyPost P fn R .ret a w :=
 ⟨E.nod, .tuple #[v, x, y, z], by
  have h1 := E.get t v hv
  have h2 := E.get s x hx
  have h3 := E.get u y hy
  have h4 := E.get q z hz
  simp [results, hr, h1, h2, h3, h4], h⟩
section
variable {w : Nat} {b : List UInt8} (hw : 3 ≤ w ∧ w ≤ 5) (hb : 1 ≤ b.length ∧ b.length ≤ 1024)
include hb in
theorem padM_secs : Secs (dsP (zDq b.length).toNat (padM b)) := dsP_secs (zHr (by have := zHa b.length; omega))
include hb in
theorem zGv : Secs (layP w b) := layG_secs w _ _ (padM_secs hb)
include hw hb
theorem layP_blk : blkF w 0 (layP w b) = padM b := by
 unfold layP layL
 rw [layG_blk oZ _ _ (Nat.le_refl _), dsP_flat _ _ (zHr (by have := zHa b.length; omega))]
theorem layP_row : ∀ r, xall (((layP w b).drop (r * w)).take w) = z128 := layG_row oZ _ _ (padM_secs hb) (Nat.le_refl _)
theorem zFn : zFf w b.length = (layP w b).length ∧ (layP w b).length ≤ 12 ∧ 1 ≤ (layP w b).length := by
 have h := zHa b.length
 obtain ⟨k, hk⟩ : ∃ k : Nat, zDq b.length = k := ⟨(zDq b.length).toNat, by omega⟩
 have e : (layP w b).length = k + (k + (w - 2)) / (w - 1) := by
  unfold layP layL
  rw [layG_len oZ _ _ (Nat.le_refl _), dsP_len, hk, Int.toNat_natCast]
 have h2 : zFf w b.length = ((k + (k + (w - 2)) / (w - 1) : Nat) : Int) := by
  unfold zFf; rw [hk]
  rcases (show w = 3 ∨ w = 4 ∨ w = 5 by omega) with rfl | rfl | rfl <;> omega
 have h3 := zEz hw b.length
 rw [h2] at h3
 rw [e]
 refine ⟨h2, by omega, by omega⟩
theorem zFw : (blkF w 0 (layP w b)).take b.length = b := by rw [layP_blk hw hb, padM, List.take_left]
theorem blk_long {l : List (List UInt8)} (hl : l.length = (layP w b).length) (hs : Secs l) : 1 ≤ b.length ∧ b.length ≤ (blkF w 0 l).length := by
 rw [zHu w 0 l (layP w b) hs (zGv hb) hl, layP_blk hw hb, padM, List.length_append]
 omega
end
end Go.Sl
namespace Go.Proofs.YtpjidiaekifmbaaGreatDoor
open Go.Sl
set_option maxRecDepth 10000
theorem zIm {R : Rk} {xs : List (Nat × Nat)} {k at_ N : Nat} (hU : Up R xs k) (hw : 3 ≤ xs.length) (hN : at_ + N ≤ xs.length * 32) : Secs (rdTo R xs at_ N) := fun s hs => by
 unfold rdTo at hs
 obtain ⟨i, hi, rfl⟩ := List.mem_map.1 hs
 rw [List.mem_range] at hi
 split
 ·exact zEb
 ·exact secP_len hU oZ ((Nat.div_lt_iff_lt_mul oZ).2 (by rw [Nat.mul_comm]; omega))
def zKz (R : Rk) (xs : List (Nat × Nat)) (at_ N n : Nat) (kind : Int) (s : Fs) (col : Int) (l : List (List UInt8)) : Prop :=
 chkK kind s ((blkF xs.length 0 l).take n) = true ∧ ((col = -1 ∧ lsTo R xs at_ N = none ∧ l = rdTo R xs at_ N) ∨ ∃ cn : Nat, Cand xs.length at_ N (lsTo R xs at_ N) cn ∧ col = cn ∧ l = rebF xs.length at_ cn (rdTo R xs at_ N)) ∧
  (lsTo R xs at_ N = none → chkK kind s ((blkF xs.length 0 (rdTo R xs at_ N)).take n) = true → col = -1)
section
variable (P : Nat) (R : Rk) (C : zAj) (hC : RkC P R C) (xs : List (Nat × Nat)) (k : Nat) (hU : Up R xs k) (hw : 3 ≤ xs.length ∧ xs.length ≤ 5) (Lv : zAj) (hLv : LvC (lvs xs) Lv)
 (t : Nat) (ad : Option Addr) (c : Nat) (vk : Value) (CL : zAj) (hCL : Buf CL 53 1 (.slice ad xs.length c) xs.length (xs.map fun y => ptr y.1)) (h1 : zIt R xs) (G : zAj) (hG : Tab [G] 2 shaK)
 (at_ : Nat) (b : List UInt8) (hb : 1 ≤ b.length ∧ b.length ≤ 1024) (hN : at_ + (layP xs.length b).length ≤ xs.length * 32) (kind : Int) (hkd : kind = 1 ∨ kind = 2) (s : Fs)
include hC hU hw hLv hCL h1 hG hb hN hkd
theorem plook_ret (hfind : (lsTo R xs at_ (layP xs.length b).length = none ∧ chkK kind s ((blkF xs.length 0 (rdTo R xs at_ (layP xs.length b).length)).take b.length) = true) ∨ ∃ col, Cand xs.length at_ (layP xs.length b).length (lsTo R xs at_ (layP xs.length b).length) col ∧ chkK kind s ((blkF xs.length 0 (rebF xs.length at_ col (rdTo R xs at_ (layP xs.length b).length))).take b.length) = true)
  (w0 : World) (H : Hp w0 [C, Lv, [(t, ptcl (.slice ad xs.length c) vk 32)], CL, G]) :
  Ret Tryz.prog 40 #[ptr t, .int .i64 at_, .int .i64 b.length, .int .i64 kind, s.agg] w0 fun u w' => ∃ (g : Nat) (vl : Value) (col : Int) (mb : Nat) (Lv' DD : zAj) (vs vsl : List Value) (vS : Value) (l : List (List UInt8)), u = .tuple #[ptr g, vl, .int .i64 col, .int .i64 0] ∧ LvC (lvs xs) Lv' ∧
   Rd DD 1 vl (layP xs.length b).length vsl ∧ zCv DD vsl l ∧ Rd DD 1 vS (layP xs.length b).length vs ∧ zCv DD vs (rdTo R xs at_ (layP xs.length b).length) ∧ zKz R xs at_ (layP xs.length b).length b.length kind s col l ∧
   Trs w0 w' [C, Lv, [(t, ptcl (.slice ad xs.length c) vk 32)], CL, G] [[(g, zDv t at_ vS mb)], [(mb, zHt (lsTo R xs at_ (layP xs.length b).length))], DD, C, Lv', [(t, ptcl (.slice ad xs.length c) vk 32)], CL, G] := by
 have S := St.begin H
 obtain ⟨e1, e2, e3⟩ := zFn hw hb
 have hsec := zIm hU hw.1 hN
 have hlong := blk_long hw hb (l := rdTo R xs at_ (layP xs.length b).length) (zDp ..) hsec
 obtain ⟨N, hNe⟩ : ∃ N, N = (layP xs.length b).length := ⟨_, rfl⟩
 rw [← hNe] at hN hfind e1 e2 e3 hsec hlong ⊢
 have hfit : zIh xs.length 32 at_ b.length := by
  unfold zIh; rw [e1]
  rcases (show xs.length = 3 ∨ xs.length = 4 ∨ xs.length = 5 by omega) with q | q | q <;> (rw [q] at hN ⊢; omega)
 refine enter5 56 Tryz.func40 rfl rfl dZ ?_; intro a E
 refine wp_seq_k ?_; intro K hK
 refine zAa ?_
 refine zAf rfl (zBz E S rfl rfl dZ rfl rfl ?_); clear E S a; intro a w b9 E S
 iterate 4 (refine zd E ?_; clear E a; intro a E)
 refine wpList_nil ?_
 refine zAb hK ?_; clear hK K
 iterate 2 (refine wp_seq_k ?_; intro K hK)
 refine zAa ?_
 iterate 3 (refine zd E ?_; clear E a; intro a E)
 refine zAg E rfl rfl dZ rfl Tryz.func33 rfl yZ rfl (zKu t ad xs.length c vk 32 _ mZ hw oZ at_ b.length oZ _ S.hp) ?_
 rintro v22 w ⟨rfl, hT⟩; clear E a; intro a E
 have S := S.all hT; rw [decide_eq_true hfit] at E
 iterate 2 (refine zd E ?_; clear E a; intro a E)
 refine zBg E (t := 24) rfl (rfl) (fun hb24 => ?_)
 iterate 3 (refine zyd E hb24 ?_; clear E a; intro a E)
 refine zAr E (t := 27) rfl (fun hb27 => ?_) (fun hb27 => ?_)
 ·have hb27n := hb27; replace hb27n := Nrm.nrm hb27n
  iterate 2 (refine zyd E hb27 ?_; clear E a; intro a E)
  refine zy E hb24 (zAi E rfl rfl hb27 rfl) ?_; clear E a; intro a E
  refine zp E (zAk E rfl rfl hb24 rfl) ?_; clear E a; intro a E
  refine wpList_nil ?_
  refine zAb hK ?_; clear hK K
  refine zAt E rfl ((by first | rfl | (rcases hkd with rfl | rfl <;> simp_all))) ?_
  refine wp_skip ?_
  refine zAb hK ?_; clear hK K
  refine wp_seq_k ?_; intro K hK
  refine zAa ?_
  iterate 3 (refine zd E ?_; clear E a; intro a E)
  refine zAg E rfl rfl dZ rfl Tryz.func78 rfl yZ rfl (pread_ret P R C hC xs k hU hw Lv hLv t ad c vk CL hCL h1 at_ b.length N e1 ⟨hN, e2⟩ _ (S.hp.sel sZ)) ?_
  rintro v36 w ⟨g, vS, CS, D, vs, mb, Lv2, rfl, hCS, hD, hLv2, hT⟩; clear E a; intro a E
  have S := S.call sZ hT; simp only [List.cons_append, List.nil_append] at S
  iterate 5 (refine zd E ?_; clear E a; intro a E)
  refine wpList_nil ?_
  refine zAb hK ?_; clear hK K
  iterate 2 (refine wp_seq_k ?_; intro K hK)
  replace E := E.keep (e' := [(2, _), (3, _), (9, _), (10, _), (11, _), (12, _), (13, _), (14, _), (15, _)]) (kE9 rfl rfl rfl rfl rfl rfl rfl rfl rfl)
  refine zAa ?_
  iterate 2 (refine zd E ?_; clear E a; intro a E)
  refine wpList_nil ?_
  refine zAb hK ?_; clear hK K
  refine zAt E rfl (rfl) ?_
  refine wp_skip ?_
  refine zAb hK ?_; clear hK K
  refine wp_seq_k ?_; intro K hK
  refine zAa ?_
  iterate 3 (refine zd E ?_; clear E a; intro a E)
  refine zp E (zBf (vs := [_, _, _, _]) E rfl rfl rfl (S.get pZ) rfl rfl) ?_; clear E a; intro a E
  refine zAg E rfl rfl dZ rfl Tryz.func79 rfl yZ rfl (pfound_ret t ad xs.length c vk hw g at_ mb N vS CS D vs _ hCS hD (zDp ..) e2 oZ G hG _ b.length hlong kind s hfind _ (S.hp.sel sZ)) ?_
  rintro v47 w ⟨vl, col, DD, vsl, l, rfl, hl1, hl2, hl3, hl4, hok, hcol, hdir, hT⟩; clear E a; intro a E
  have S := S.call sZ hT; simp only [List.cons_append, List.nil_append] at S
  iterate 7 (refine zd E ?_; clear E a; intro a E)
  refine wpList_nil ?_
  refine zAb hK ?_; clear hK K
  iterate 2 (refine wp_seq_k ?_; intro K hK)
  refine zAa ?_
  iterate 2 (refine zd E ?_; clear E a; intro a E)
  refine wpList_nil ?_
  refine zAb hK ?_; clear hK K
  refine zAt E rfl (rfl) ?_
  refine wp_skip ?_
  refine zAb hK ?_; clear hK K
  refine wp_seq_k ?_; intro K hK
  replace E := E.keep (e' := [(10, _), (11, _), (12, _), (13, _), (14, _), (16, _), (17, _)]) (kE7 rfl rfl rfl rfl rfl rfl rfl)
  refine zAa ?_
  iterate 7 (refine zd E ?_; clear E a; intro a E)
  refine wpList_nil ?_
  refine zAb hK ?_; clear hK K
  refine wp_ret ?_
  refine ret4 E rfl rfl rfl rfl rfl ?_
  exact ⟨_, rfl, g, vl, col, mb, Lv2, DD, vs, vsl, vS, l, rfl, hLv2, hl1, hl2, hl3, hl4, ⟨hok, hcol, hdir⟩, (S.only (Bs := [[(g, _)], [(mb, _)], DD, C, Lv2, [(t, _)], CL, G]) sZ).tr⟩
 ·have hb27n := hb27; replace hb27n := Nrm.nrm hb27n
  iterate 2 (refine zn E hb27 ?_; clear E a; intro a E)
  refine zy E hb24 (zAk E rfl rfl hb27 rfl) ?_; clear E a; intro a E
  refine zp E (zAk E rfl rfl hb24 rfl) ?_; clear E a; intro a E
  refine wpList_nil ?_
  refine zAb hK ?_; clear hK K
  refine zAt E rfl rfl ?_
  refine wp_skip ?_
  refine zAb hK ?_; clear hK K
  refine wp_seq_k ?_; intro K hK
  refine zAa ?_
  iterate 3 (refine zd E ?_; clear E a; intro a E)
  refine zAg E rfl rfl dZ rfl Tryz.func78 rfl yZ rfl (pread_ret P R C hC xs k hU hw Lv hLv t ad c vk CL hCL h1 at_ b.length N e1 ⟨hN, e2⟩ _ (S.hp.sel sZ)) ?_
  rintro v36 w ⟨g, vS, CS, D, vs, mb, Lv2, rfl, hCS, hD, hLv2, hT⟩; clear E a; intro a E
  have S := S.call sZ hT; simp only [List.cons_append, List.nil_append] at S
  iterate 5 (refine zd E ?_; clear E a; intro a E)
  refine wpList_nil ?_
  refine zAb hK ?_; clear hK K
  iterate 2 (refine wp_seq_k ?_; intro K hK)
  replace E := E.keep (e' := [(2, _), (3, _), (9, _), (10, _), (11, _), (12, _), (13, _), (14, _), (15, _)]) (kE9 rfl rfl rfl rfl rfl rfl rfl rfl rfl)
  refine zAa ?_
  iterate 2 (refine zd E ?_; clear E a; intro a E)
  refine wpList_nil ?_
  refine zAb hK ?_; clear hK K
  refine zAt E rfl (rfl) ?_
  refine wp_skip ?_
  refine zAb hK ?_; clear hK K
  refine wp_seq_k ?_; intro K hK
  refine zAa ?_
  iterate 3 (refine zd E ?_; clear E a; intro a E)
  refine zp E (zBf (vs := [_, _, _, _]) E rfl rfl rfl (S.get pZ) rfl rfl) ?_; clear E a; intro a E
  refine zAg E rfl rfl dZ rfl Tryz.func79 rfl yZ rfl (pfound_ret t ad xs.length c vk hw g at_ mb N vS CS D vs _ hCS hD (zDp ..) e2 oZ G hG _ b.length hlong kind s hfind _ (S.hp.sel sZ)) ?_
  rintro v47 w ⟨vl, col, DD, vsl, l, rfl, hl1, hl2, hl3, hl4, hok, hcol, hdir, hT⟩; clear E a; intro a E
  have S := S.call sZ hT; simp only [List.cons_append, List.nil_append] at S
  iterate 7 (refine zd E ?_; clear E a; intro a E)
  refine wpList_nil ?_
  refine zAb hK ?_; clear hK K
  iterate 2 (refine wp_seq_k ?_; intro K hK)
  refine zAa ?_
  iterate 2 (refine zd E ?_; clear E a; intro a E)
  refine wpList_nil ?_
  refine zAb hK ?_; clear hK K
  refine zAt E rfl (rfl) ?_
  refine wp_skip ?_
  refine zAb hK ?_; clear hK K
  refine wp_seq_k ?_; intro K hK
  replace E := E.keep (e' := [(10, _), (11, _), (12, _), (13, _), (14, _), (16, _), (17, _)]) (kE7 rfl rfl rfl rfl rfl rfl rfl)
  refine zAa ?_
  iterate 7 (refine zd E ?_; clear E a; intro a E)
  refine wpList_nil ?_
  refine zAb hK ?_; clear hK K
  refine wp_ret ?_
  refine ret4 E rfl rfl rfl rfl rfl ?_
  exact ⟨_, rfl, g, vl, col, mb, Lv2, DD, vs, vsl, vS, l, rfl, hLv2, hl1, hl2, hl3, hl4, ⟨hok, hcol, hdir⟩, (S.only (Bs := [[(g, _)], [(mb, _)], DD, C, Lv2, [(t, _)], CL, G]) sZ).tr⟩
end
end Go.Proofs.YtpjidiaekifmbaaGreatDoor
namespace Go.Proofs.YtpjidiaekifmbaaGreatDoor
open Go.Sl
set_option maxRecDepth 10000
theorem zKz.facts {R : Rk} {xs : List (Nat × Nat)} {at_ N n : Nat} {kind : Int} {s : Fs} {col : Int} {l : List (List UInt8)} (h : zKz R xs at_ N n kind s col l) (hs : Secs (rdTo R xs at_ N)) : l.length = N ∧ Secs l := by
 rcases h.2.1 with ⟨_, _, rfl⟩ | ⟨cn, _, _, rfl⟩
 ·exact ⟨zDp .., hs⟩
 ·exact ⟨by rw [zDo, zDp], rebF_secs hs⟩
section
variable (P : Nat) (R : Rk) (C : zAj) (hC : RkC P R C) (xs : List (Nat × Nat)) (k : Nat) (hU : Up R xs k) (hk : k ≤ 800) (hw : 3 ≤ xs.length ∧ xs.length ≤ 5) (hnd : (xs.map Prod.snd).Nodup) (Lv : zAj) (hLv : LvC (lvs xs) Lv)
 (t : Nat) (ad : Option Addr) (c : Nat) (vk : Value) (CL : zAj) (hCL : Buf CL 53 1 (.slice ad xs.length c) xs.length (xs.map fun y => ptr y.1)) (h1 : zIt R xs) (G : zAj) (hG : Tab [G] 2 shaK)
 (at_ : Nat) (b : List UInt8) (hb : 1 ≤ b.length ∧ b.length ≤ 1024) (hN : at_ + (layP xs.length b).length ≤ xs.length * 32) (kind : Int) (hkd : kind = 1 ∨ kind = 2) (s : Fs)
include hC hU hk hw hnd hLv hCL h1 hG hb hN hkd
theorem pRead_good (hfind : (lsTo R xs at_ (layP xs.length b).length = none ∧ chkK kind s ((blkF xs.length 0 (rdTo R xs at_ (layP xs.length b).length)).take b.length) = true) ∨ ∃ col, Cand xs.length at_ (layP xs.length b).length (lsTo R xs at_ (layP xs.length b).length) col ∧ chkK kind s ((blkF xs.length 0 (rebF xs.length at_ col (rdTo R xs at_ (layP xs.length b).length))).take b.length) = true)
  (hgood : ∀ col l, zKz R xs at_ (layP xs.length b).length b.length kind s col l → (blkF xs.length 0 l).take b.length = b) (w0 : World) (H : Hp w0 [C, Lv, [(t, ptcl (.slice ad xs.length c) vk 32)], CL, G]) :
  Ret Tryz.prog 13 #[ptr t, .int .i64 at_, .int .i64 b.length, .int .i64 kind, s.agg] w0 fun u w' => ∃ (v : Value) (Cv : zAj) (R' : Rk) (C' Lv' : zAj), u = .tuple #[v, .int .i64 0] ∧ Rd Cv 1 v b.length (byt b) ∧ RkC P R' C' ∧ LvC (lvs xs) Lv' ∧ Up R' xs (k + 96) ∧ (∀ y ∈ xs, (dkOf R' y.2).failed = (dkOf R y.2).failed) ∧
   (R' = R ∧ (lsTo R xs at_ (layP xs.length b).length = none → chkK kind s ((blkF xs.length 0 (rdTo R xs at_ (layP xs.length b).length)).take b.length) = true) ∨ (lsTo R xs at_ (layP xs.length b).length = none ∧ ∃ l, l.length = (layP xs.length b).length ∧ Secs l ∧ (blkF xs.length 0 l).take b.length = b ∧ Lies R' xs at_ l (layP xs.length b).length)) ∧
   Trs w0 w' [C, Lv, [(t, ptcl (.slice ad xs.length c) vk 32)], CL, G] [Cv, C', Lv', [(t, ptcl (.slice ad xs.length c) vk 32)], CL, G] := by
 have S := St.begin H
 obtain ⟨e1, e2, e3⟩ := zFn hw hb
 have hsec := zIm hU hw.1 hN
 have hlg : ∀ l, l.length = (layP xs.length b).length → Secs l → 1 ≤ b.length ∧ b.length ≤ (blkF xs.length 0 l).length := fun l h1 h2 => blk_long hw hb h1 h2
 have hlook := plook_ret P R C hC xs k hU hw Lv hLv t ad c vk CL hCL h1 G hG at_ b hb hN kind hkd s hfind
 obtain ⟨N, hNe⟩ : ∃ N, N = (layP xs.length b).length := ⟨_, rfl⟩
 rw [← hNe] at hN hfind e1 e2 e3 hsec hlg hgood hlook ⊢
 obtain ⟨gl, rfl⟩ := hCL.addr oZ
 have hup : Up R xs (k + 96) := ⟨hU.on, hU.nd, hU.has, hU.pl, hU.nw, by have := hU.ws; omega, by have := hU.wr; omega⟩
 refine enter5 59 Tryz.func13 rfl rfl dZ ?_; intro a E
 refine wp_seq_k ?_; intro K hK
 refine zAa ?_
 refine zAf rfl (zBz E S rfl rfl dZ rfl rfl ?_); clear E S a; intro a w b9 E S
 iterate 2 (refine zd E ?_; clear E a; intro a E)
 refine wpList_nil ?_
 refine zAb hK ?_; clear hK K
 refine wp_seq_k ?_; intro K hK
 refine zAa ?_
 iterate 4 (refine zd E ?_; clear E a; intro a E)
 refine zp E (zBf (vs := [_, _, _, _]) E rfl rfl rfl (S.get pZ) rfl rfl) ?_; clear E a; intro a E
 refine zAg E rfl rfl dZ rfl Tryz.func40 rfl yZ rfl (hlook _ (S.hp.sel sZ)) ?_
 rintro v23 w ⟨g, vl, col, mb, Lv2, DD, vs, vsl, vS, l, rfl, hLv2, hl1, hl2, hl3, hl4, hok, hT⟩; clear E a; intro a E
 have S := S.call sZ hT; simp only [List.cons_append, List.nil_append] at S
 obtain ⟨hln, hls⟩ := hok.facts hsec
 have hbl := hgood col l hok
 have hll2 := hlg l hln hls
 have hvll : vsl.length = N := by rw [hl2.1, hln]
 iterate 9 (refine zd E ?_; clear E a; intro a E)
 refine wpList_nil ?_
 refine zAb hK ?_; clear hK K
 iterate 2 (refine wp_seq_k ?_; intro K hK)
 refine zAa ?_
 iterate 2 (refine zd E ?_; clear E a; intro a E)
 refine wpList_nil ?_
 refine zAb hK ?_; clear hK K
 refine zAt E rfl (rfl) ?_
 refine wp_skip ?_
 refine zAb hK ?_; clear hK K
 iterate 2 (refine wp_seq_k ?_; intro K hK)
 replace E := E.keep (e' := [(0, _), (2, _), (10, _), (11, _), (12, _), (13, _), (14, _)]) (kE7 rfl rfl rfl rfl rfl rfl rfl)
 refine zAa ?_
 rcases (show (col = -1 ∧ lsTo R xs at_ N = none ∧ l = rdTo R xs at_ N) ∨ (∃ cn : Nat, cn < xs.length ∧ col = cn ∧ lsTo R xs at_ N = none) ∨ (∃ cn : Nat, ∃ j : Nat, col = cn ∧ lsTo R xs at_ N = some j) by rcases hok.2.1 with q | ⟨cn, ⟨q1, q2, q3⟩, q4, q5⟩; exact .inl q; (rcases hq : lsTo R xs at_ N with _ | j; exact .inr (.inl ⟨cn, q1, q4, rfl⟩); exact .inr (.inr ⟨cn, j, q4, rfl⟩))) with ⟨hc1, hq, hc3⟩ | ⟨cn, hc1, hc2, hq⟩ | ⟨cn, j0, hc2, hq⟩
 ·skip
  rw [hq] at S
  iterate 3 (refine zd E ?_; clear E a; intro a E)
  refine zBg E (t := 33) rfl ((by rw [hc1]; rfl)) (fun hb33 => ?_)
  iterate 6 (refine zn E hb33 ?_; clear E a; intro a E)
  refine zp E (zAk E rfl rfl hb33 rfl) ?_; clear E a; intro a E
  refine wpList_nil ?_
  refine zAb hK ?_; clear hK K
  refine zAt E rfl rfl ?_
  refine wp_skip ?_
  refine zAb hK ?_; clear hK K
  refine wp_seq_k ?_; intro K hK
  refine zAa ?_
  iterate 3 (refine zd E ?_; clear E a; intro a E)
  refine zAg E rfl rfl dZ rfl Tryz.func43 rfl yZ rfl (zEh t _ xs.length c vk 32 _ mZ hw vl DD DD vsl l (by rw [hvll]; exact hl1) hl2 oZ mZ mZ b.length hll2 _ S.hp) ?_
  rintro v58 w ⟨gb, Cb, rfl, hRb, hT⟩; clear E a; intro a E
  have S := S.all hT; rw [hbl] at hRb
  iterate 2 (refine zd E ?_; clear E a; intro a E)
  refine wpList_nil ?_
  refine zAb hK ?_; clear hK K
  refine wp_ret ?_
  refine ret2 E rfl rfl rfl ?_
  exact ⟨_, rfl, _, Cb, R, C, Lv2, rfl, hRb, hC, hLv2, hup, fun y hy => rfl, .inl ⟨rfl, fun _ => by have := hok.1; rwa [hc3] at this⟩, (S.only (Bs := [Cb, C, Lv2, [(t, _)], CL, G]) sZ).tr⟩
 ·skip
  rw [hq] at S
  iterate 3 (refine zd E ?_; clear E a; intro a E)
  refine zCb E (t := 33) rfl ((by rw [hc2]; simp)) (fun hb33 => ?_)
  iterate 2 (refine zyd E hb33 ?_; clear E a; intro a E)
  refine zy E hb33 (by first | exact zAc (q := 3) E rfl rfl rfl | exact zAd (q := 3) E rfl rfl rfl) ?_; clear E a; intro a E
  refine zyd E hb33 ?_; clear E a; intro a E
  refine zy E hb33 (zCz E rfl rfl rfl (S.get pZ)) ?_; clear E a; intro a E
  refine zyd E hb33 ?_; clear E a; intro a E
  refine zp E (zAi E rfl rfl hb33 rfl) ?_; clear E a; intro a E
  refine wpList_nil ?_
  refine zAb hK ?_; clear hK K
  refine zCk E rfl (rfl) ?_
  refine wp_seq_k ?_; intro K hK
  have hatc : xs[cn]? = some xs[cn] := List.getElem?_eq_getElem hc1
  have hcell : (xs.map fun y => ptr y.1)[cn]? = some (ptr xs[cn].1) := by rw [List.getElem?_map, hatc]; rfl
  have hnone := zIk hq
  have hsecs2 : ∀ i (h : i < (rdTo R xs at_ N).length), secP R xs (at_ + i) = (rdTo R xs at_ N)[i] := fun i h => by
   have hi : i < N := by rw [zDp] at h; exact h
   simp [rdTo, hnone i hi]
  refine zAa ?_
  iterate 2 (refine zd E ?_; clear E a; intro a E)
  refine zp E (by first | exact zAc (q := 0) E rfl rfl rfl | exact zAd (q := 0) E rfl rfl rfl) ?_; clear E a; intro a E
  iterate 2 (refine zd E ?_; clear E a; intro a E)
  refine zp E (zAp (i := cn) E rfl rfl rfl rfl rfl hc2 oZ) ?_; clear E a; intro a E
  refine zp E (zAo E rfl rfl rfl (hCL.rd.cells (S.stab.at mZ) rfl cn _ hcell)) ?_; clear E a; intro a E
  refine zAg E rfl rfl dZ rfl Tryz.func41 rfl yZ rfl (blame_in (lvs xs) Lv2 hLv2 cn xs[cn] (zKs hc1) _ (S.hp.sel sZ)) ?_
  rintro v48 w ⟨Lv3, hLv3, hT⟩; clear E a; intro a E
  have S := S.call1 sZ hT
  refine wpList_nil ?_
  refine zAb hK ?_; clear hK K
  refine wp_seq_k ?_; intro K hK
  replace E := E.keep (e' := [(0, _), (2, _), (10, _), (11, _), (12, _), (13, _)]) (kE6 rfl rfl rfl rfl rfl rfl)
  refine zAa ?_
  iterate 2 (refine zd E ?_; clear E a; intro a E)
  refine zAg E rfl rfl dZ rfl Tryz.func42 rfl yZ rfl (pput_ret P R C hC xs k hU hk hw hnd Lv3 hLv3 t _ c vk CL hCL g at_ mb N ⟨hN, e2⟩ vS vl DD vs vsl _ l hl1 hl2 hl3 hl4 (zDp ..) hln hnone hsecs2 _ (S.hp.sel sZ)) ?_
  rintro v51 w ⟨rfl, R2, C2, Lv4, hC2, hLv4, hU2, hf2, hLi, hT⟩; clear E a; intro a E
  have S := S.call sZ hT; simp only [List.cons_append, List.nil_append] at S
  refine zd E ?_; clear E a; intro a E
  refine wpList_nil ?_
  refine zAb hK ?_; clear hK K
  refine wp_seq_k ?_; intro K hK
  refine zAa ?_
  iterate 2 (refine zd E ?_; clear E a; intro a E)
  refine wpList_nil ?_
  refine zAb hK ?_; clear hK K
  refine zAt E rfl (rfl) ?_
  refine wp_skip ?_
  refine zAb hK ?_; clear hK K
  refine wp_seq_k ?_; intro K hK
  refine zAa ?_
  iterate 3 (refine zd E ?_; clear E a; intro a E)
  refine zAg E rfl rfl dZ rfl Tryz.func43 rfl yZ rfl (zEh t _ xs.length c vk 32 _ mZ hw vl DD DD vsl l (by rw [hvll]; exact hl1) hl2 oZ mZ mZ b.length hll2 _ S.hp) ?_
  rintro v58 w ⟨gb, Cb, rfl, hRb, hT⟩; clear E a; intro a E
  have S := S.all hT; rw [hbl] at hRb
  iterate 2 (refine zd E ?_; clear E a; intro a E)
  refine wpList_nil ?_
  refine zAb hK ?_; clear hK K
  refine wp_ret ?_
  refine ret2 E rfl rfl rfl ?_
  exact ⟨_, rfl, _, Cb, R2, C2, Lv4, rfl, hRb, hC2, hLv4, hU2, hf2, .inr ⟨hq, l, hln, hls, hbl, hLi⟩, (S.only (Bs := [Cb, C2, Lv4, [(t, _)], CL, G]) sZ).tr⟩
 ·skip
  rw [hq] at S
  iterate 3 (refine zd E ?_; clear E a; intro a E)
  refine zCb E (t := 33) rfl ((by rw [hc2]; simp)) (fun hb33 => ?_)
  iterate 2 (refine zyd E hb33 ?_; clear E a; intro a E)
  refine zy E hb33 (by first | exact zAc (q := 3) E rfl rfl rfl | exact zAd (q := 3) E rfl rfl rfl) ?_; clear E a; intro a E
  refine zyd E hb33 ?_; clear E a; intro a E
  refine zy E hb33 (zCz E rfl rfl rfl (S.get pZ)) ?_; clear E a; intro a E
  refine zyd E hb33 ?_; clear E a; intro a E
  refine zp E (zAi E rfl rfl hb33 rfl) ?_; clear E a; intro a E
  refine wpList_nil ?_
  refine zAb hK ?_; clear hK K
  refine zAt E rfl (rfl) ?_
  refine wp_skip ?_
  refine zAb hK ?_; clear hK K
  refine wp_seq_k ?_; intro K hK
  refine zAa ?_
  iterate 3 (refine zd E ?_; clear E a; intro a E)
  refine zAg E rfl rfl dZ rfl Tryz.func43 rfl yZ rfl (zEh t _ xs.length c vk 32 _ mZ hw vl DD DD vsl l (by rw [hvll]; exact hl1) hl2 oZ mZ mZ b.length hll2 _ S.hp) ?_
  rintro v58 w ⟨gb, Cb, rfl, hRb, hT⟩; clear E a; intro a E
  have S := S.all hT; rw [hbl] at hRb
  iterate 2 (refine zd E ?_; clear E a; intro a E)
  refine wpList_nil ?_
  refine zAb hK ?_; clear hK K
  refine wp_ret ?_
  refine ret2 E rfl rfl rfl ?_
  exact ⟨_, rfl, _, Cb, R, C, Lv2, rfl, hRb, hC, hLv2, hup, fun y hy => rfl, .inl ⟨rfl, fun h => by rw [hq] at h; cases h⟩, (S.only (Bs := [Cb, C, Lv2, [(t, _)], CL, G]) sZ).tr⟩
end
end Go.Proofs.YtpjidiaekifmbaaGreatDoor
namespace Go.Proofs.YtpjidiaekifmbaaGreatDoor
open Go.Sl
set_option maxRecDepth 10000
section
variable (P : Nat) (R : Rk) (C : zAj) (hC : RkC P R C) (xs : List (Nat × Nat)) (k : Nat) (hU : Up R xs k) (hk : k ≤ 800) (hw : 3 ≤ xs.length ∧ xs.length ≤ 5) (hnd : (xs.map Prod.snd).Nodup) (Lv : zAj) (hLv : LvC (lvs xs) Lv)
 (t : Nat) (ad : Option Addr) (c : Nat) (vk : Value) (CL : zAj) (hCL : Buf CL 53 1 (.slice ad xs.length c) xs.length (xs.map fun y => ptr y.1)) (h1 : zIt R xs) (G : zAj) (hG : Tab [G] 2 shaK)
 (at_ : Nat) (b : List UInt8) (hb : 1 ≤ b.length ∧ b.length ≤ 1024) (hN : at_ + (layP xs.length b).length ≤ xs.length * 32) (kind : Int) (hkd : kind = 1 ∨ kind = 2) (s : Fs)
include hC hU hk hw hnd hLv hCL h1 hG hb hN hkd
theorem pScrub_good (hfind : (lsTo R xs at_ (layP xs.length b).length = none ∧ chkK kind s ((blkF xs.length 0 (rdTo R xs at_ (layP xs.length b).length)).take b.length) = true) ∨ ∃ col, Cand xs.length at_ (layP xs.length b).length (lsTo R xs at_ (layP xs.length b).length) col ∧ chkK kind s ((blkF xs.length 0 (rebF xs.length at_ col (rdTo R xs at_ (layP xs.length b).length))).take b.length) = true)
  (hgood : ∀ col l, zKz R xs at_ (layP xs.length b).length b.length kind s col l → (blkF xs.length 0 l).take b.length = b) (w0 : World) (H : Hp w0 [C, Lv, [(t, ptcl (.slice ad xs.length c) vk 32)], CL, G]) :
  Ret Tryz.prog 14 #[ptr t, .int .i64 at_, .int .i64 b.length, .int .i64 kind, s.agg] w0 fun u w' => ∃ (n : Nat) (R' : Rk) (C' Lv' : zAj), u = .tuple #[.int .i64 n, .int .i64 0] ∧ RkC P R' C' ∧ LvC (lvs xs) Lv' ∧ Up R' xs (k + 96) ∧ (∀ y ∈ xs, (dkOf R' y.2).failed = (dkOf R y.2).failed) ∧
   ((R' = R ∧ lsTo R xs at_ (layP xs.length b).length ≠ none) ∨ (lsTo R xs at_ (layP xs.length b).length = none ∧ Lies R' xs at_ (layP xs.length b) (layP xs.length b).length)) ∧
   Trs w0 w' [C, Lv, [(t, ptcl (.slice ad xs.length c) vk 32)], CL, G] [C', Lv', [(t, ptcl (.slice ad xs.length c) vk 32)], CL, G] := by
 have S := St.begin H
 obtain ⟨e1, e2, e3⟩ := zFn hw hb
 have hsec := zIm hU hw.1 hN
 have hlg : ∀ l, l.length = (layP xs.length b).length → Secs l → 1 ≤ b.length ∧ b.length ≤ (blkF xs.length 0 l).length := fun l h1 h2 => blk_long hw hb h1 h2
 have hlook := plook_ret P R C hC xs k hU hw Lv hLv t ad c vk CL hCL h1 G hG at_ b hb hN kind hkd s hfind
 obtain ⟨N, hNe⟩ : ∃ N, N = (layP xs.length b).length := ⟨_, rfl⟩
 rw [← hNe] at hN hfind e1 e2 e3 hsec hlg hgood hlook ⊢
 obtain ⟨gl, rfl⟩ := hCL.addr oZ
 have hat40 : xs.length * 32 ≤ 160 := by omega
 have hup : Up R xs (k + 96) := ⟨hU.on, hU.nd, hU.has, hU.pl, hU.nw, by have := hU.ws; omega, by have := hU.wr; omega⟩
 refine enter5 107 Tryz.func14 rfl rfl dZ ?_; intro a E
 refine wp_seq_k ?_; intro K hK
 refine zAa ?_
 refine zAf rfl (zBz E S rfl rfl dZ rfl rfl ?_); clear E S a; intro a w b9 E S
 iterate 2 (refine zd E ?_; clear E a; intro a E)
 refine wpList_nil ?_
 refine zAb hK ?_; clear hK K
 refine wp_seq_k ?_; intro K hK
 refine zAa ?_
 iterate 4 (refine zd E ?_; clear E a; intro a E)
 refine zp E (zBf (vs := [_, _, _, _]) E rfl rfl rfl (S.get pZ) rfl rfl) ?_; clear E a; intro a E
 refine zAg E rfl rfl dZ rfl Tryz.func40 rfl yZ rfl (hlook _ (S.hp.sel sZ)) ?_
 rintro v30 w ⟨g, vl, col, mb, Lv2, DD, vs, vsl, vS, l, rfl, hLv2, hl1, hl2, hl3, hl4, hok, hT⟩; clear E a; intro a E
 have S := S.call sZ hT; simp only [List.cons_append, List.nil_append] at S
 obtain ⟨hln, hls⟩ := hok.facts hsec
 have hbl := hgood col l hok
 have hll2 := hlg l hln hls
 have hvll : vsl.length = N := by rw [hl2.1, hln]
 iterate 9 (refine zd E ?_; clear E a; intro a E)
 refine wpList_nil ?_
 refine zAb hK ?_; clear hK K
 iterate 2 (refine wp_seq_k ?_; intro K hK)
 refine zAa ?_
 rcases hq : lsTo R xs at_ N with _ | j0
 ·skip
  rw [hq] at S
  iterate 3 (refine zd E ?_; clear E a; intro a E)
  refine zBg E (t := 37) rfl (rfl) (fun hb37 => ?_)
  iterate 2 (refine zyd E hb37 ?_; clear E a; intro a E)
  refine zy E hb37 (by first | exact zAc (q := 3) E rfl rfl rfl | exact zAd (q := 3) E rfl rfl rfl) ?_; clear E a; intro a E
  refine zyd E hb37 ?_; clear E a; intro a E
  refine zy E hb37 (zCz E rfl rfl rfl (S.get pZ)) ?_; clear E a; intro a E
  refine zyd E hb37 ?_; clear E a; intro a E
  refine zp E (zAk E rfl rfl hb37 rfl) ?_; clear E a; intro a E
  refine wpList_nil ?_
  refine zAb hK ?_; clear hK K
  refine zAt E rfl (rfl) ?_
  refine wp_skip ?_
  refine zAb hK ?_; clear hK K
  refine wp_seq_k ?_; intro K hK
  replace E := E.keep (e' := [(0, _), (1, _), (2, _), (10, _), (11, _), (12, _), (13, _)]) (kE7 rfl rfl rfl rfl rfl rfl rfl)
  refine zAa ?_
  iterate 4 (refine zd E ?_; clear E a; intro a E)
  refine zAg E rfl rfl dZ rfl Tryz.func43 rfl yZ rfl (zEh t _ xs.length c vk 32 _ mZ hw vl DD DD vsl l (by rw [hvll]; exact hl1) hl2 oZ mZ mZ b.length hll2 _ S.hp) ?_
  rintro v50 w ⟨gb, Cb, rfl, hRb, hT⟩; clear E a; intro a E
  have S := S.all hT; rw [hbl] at hRb
  refine zAg E rfl rfl dZ rfl Tryz.func34 rfl yZ rfl (zKv t _ xs.length c vk 32 _ mZ hw _ b Cb hRb mZ hb _ S.hp) ?_
  rintro v51 w ⟨vo, Co, D, vso, rfl, hCo, hDo, hT⟩; clear E a; intro a E
  have S := S.all hT; rw [← hNe] at hCo; obtain ⟨ado, co, rfl⟩ := hCo.slice; have hvol : vso.length = N := (by rw [hDo.1, hNe])
  refine zd E ?_; clear E a; intro a E
  refine wpList_nil ?_
  refine zAb hK ?_; clear hK K
  refine wp_seq_k ?_; intro K hK
  refine zAa ?_
  refine zd E ?_; clear E a; intro a E
  refine zAg E rfl rfl dZ rfl Tryz.func36 rfl yZ rfl (zCt t _ xs.length c vk 32 _ mZ _ S.hp) ?_
  rintro v53 w ⟨rfl, hT⟩; clear E a; intro a E
  have S := S.all hT
  refine zAf rfl (zCn (by' := 1) E S rfl rfl dZ rfl rfl rfl rfl rfl rfl rfl rfl rfl rfl rfl (by first | exact mkb oZ | exact mkb8 oZ | exact mkbn rfl oZ) (by simp only [maxLen]; omega) ?_); clear E S a; intro a w g54 E S
  refine zd E ?_; clear E a; intro a E
  refine wpList_nil ?_
  refine zAb hK ?_; clear hK K
  iterate 2 (refine wp_seq_k ?_; intro K hK)
  have hnone := zIk hq
  have hsecs2 : ∀ i (h : i < (rdTo R xs at_ N).length), secP R xs (at_ + i) = (rdTo R xs at_ N)[i] := fun i h => by
   have hi : i < N := by rw [zDp] at h; exact h
   simp [rdTo, hnone i hi]
  obtain ⟨adS, cS, rfl⟩ := hl3.slice
  refine zAa ?_
  iterate 3 (refine zd E ?_; clear E a; intro a E)
  refine wpList_nil ?_
  refine zAb hK ?_; clear hK K
  refine wp_block ?_
  refine wp_loop_ghost (fun (m : Nat) (a : Act) (w' : World) => ∃ (i : Nat) (W : List Bool), m = N - i ∧ i ≤ N ∧ W.length = xs.length ∧ St w0 [C, Lv, [(t, ptcl (.slice (some ⟨gl, 0, none⟩) xs.length c) vk 32)], CL, G] w' [[(g54, cel (W.map Value.bool) 4)], Co, D, [(g, zDv t at_ (.slice adS N cS) mb)], DD, C, Lv2, [(t, ptcl (.slice (some ⟨gl, 0, none⟩) xs.length c) vk 32)], CL, G] ∧ Fr a 107 [(0, ptr t), (1, .int .i64 at_), (12, ptr g), (16, .slice ado N co), (17, .slice (some ⟨g54, 0, none⟩) xs.length xs.length), (55, .slice ado N co), (56, .int .i64 N), (57, .int .i64 i)]) (N - 0) ?_ ?_
  ·exact ⟨0, List.replicate xs.length false, rfl, by omega, List.length_replicate, by rw [List.map_replicate]; exact S.only sZ, E.keep (kE8 rfl rfl rfl rfl rfl rfl rfl rfl)⟩
  clear E; clear a; (try clear S); rintro m a w ⟨i, W, rfl, hi, hWl, S, E⟩
  refine wp_seq_k ?_; intro K hK
  refine zAa ?_
  refine zd E ?_; clear E a; intro a E
  refine wpList_nil ?_
  refine zAb hK ?_; clear hK K
  refine wp_seq_k ?_; intro K hK
  refine zAs E rfl (fun hb => ?_) (fun hb => ?_)
  ·replace hb := Nrm.nrm hb
   refine wp_skip ?_
   refine zAb hK ?_; clear hK K
   refine wp_seq_k ?_; intro K hK
   refine wp_block ?_
   refine wp_seq_k ?_; intro K hK
   have hil : i < (layP xs.length b).length := by omega
   have his : i < (rdTo R xs at_ N).length := by rw [zDp]; omega
   obtain ⟨vi, hvi, hiv⟩ := hDo.at hil
   obtain ⟨ui, hui, hiu⟩ := hl4.at his
   obtain ⟨go, rfl⟩ := hCo.addr oZ
   obtain ⟨gS, oS, rfl⟩ := hl3.addr oZ
   obtain ⟨g1, o1, c1, rfl, hc1⟩ := hiv.addr
   obtain ⟨g2, o2, c2, rfl, hc2⟩ := hiu.addr
   have hml := Nat.mod_lt (at_ + i) (show 0 < xs.length by omega)
   obtain ⟨xm, hxm⟩ : ∃ xm, xm = (at_ + i) % xs.length := ⟨_, rfl⟩
   rw [← hxm] at hml
   refine zAa ?_
   refine zd E ?_; clear E a; intro a E
   refine zp E (by first | exact zAp E rfl rfl rfl rfl rfl rfl oZ | exact zAz E rfl rfl rfl rfl rfl rfl oZ | exact zAm E rfl rfl rfl rfl rfl rfl oZ) ?_; clear E a; intro a E
   refine zp E (zAo E rfl rfl rfl (hCo.rd.cells (S.stab.at mZ) rfl i _ hvi)) ?_; clear E a; intro a E
   iterate 2 (refine zd E ?_; clear E a; intro a E)
   refine wpList_nil ?_
   refine zAb hK ?_; clear hK K
   refine wp_seq_k ?_; intro K hK
   refine zAa ?_
   iterate 3 (refine zd E ?_; clear E a; intro a E)
   refine zp E (by first | exact zAc (q := 2) E rfl rfl rfl | exact zAd (q := 2) E rfl rfl rfl) ?_; clear E a; intro a E
   iterate 2 (refine zd E ?_; clear E a; intro a E)
   refine zp E (zAp (i := i) E rfl rfl rfl rfl rfl rfl oZ) ?_; clear E a; intro a E
   refine zp E (zAo E rfl rfl rfl (hl3.cells (S.stab.at mZ) rfl i _ hui)) ?_; clear E a; intro a E
   refine zAg E rfl rfl dZ rfl Tryz.func44 rfl yZ rfl (pequal_ret D DD _ _ _ _ hiv hiu _ mZ mZ _ S.hp) ?_
   rintro v70 w ⟨rfl, hT⟩; clear E a; intro a E
   have S := S.all hT
   refine zd E ?_; clear E a; intro a E
   refine wpList_nil ?_
   refine zAb hK ?_; clear hK K
   refine zAs E rfl (fun hb => ?_) (fun hb => ?_)
   ·replace hb := Nrm.nrm hb
    skip
    refine zAa ?_
    iterate 3 (refine zd E ?_; clear E a; intro a E)
    refine zp E (zAy E rfl rfl rfl (show IntKind.i64.wrap ((at_ : Int) + i) = ((at_ + i : Nat) : Int) by rw [show (at_ : Int) + i = ((at_ + i : Nat) : Int) by omega]; exact w_in oZ)) ?_; clear E a; intro a E
    refine zd E ?_; clear E a; intro a E
    refine zAg E rfl rfl dZ rfl Tryz.func36 rfl yZ rfl (zCt t _ xs.length c vk 32 _ mZ _ S.hp) ?_
    rintro v77 w ⟨rfl, hT⟩; clear E a; intro a E
    have S := S.all hT
    refine zp E (zGh E rfl rfl rfl (by first | decide | omega) (show ((at_ + i : Nat) : Int).tmod xs.length = ((xm : Nat) : Int) by rw [zIi, ← hxm])) ?_; clear E a; intro a E
    refine zp E (zHn (i := xm) E rfl rfl rfl rfl rfl rfl oZ) ?_; clear E a; intro a E
    refine zAf rfl (zBa E S rfl rfl rfl rfl rfl rfl pZ (by rw [List.length_map]; omega) ?_); clear E S a; intro a w E S; try dsimp only [List.set] at S
    refine wpList_nil ?_
    refine zAq ?_
    refine zAb hK ?_; clear hK K
    refine zAa ?_
    refine zp E (zAy E rfl rfl rfl (w_in oZ)) ?_; clear E a; intro a E
    refine zd E ?_; clear E a; intro a E
    refine wpList_nil ?_
    refine zAn ?_
    exact ⟨_, by omega, i + 1, W.set xm true, rfl, by omega, by rw [List.length_set]; exact hWl, by rw [List.map_set]; exact S.only sZ, E.keep (kE8 rfl rfl rfl rfl rfl rfl rfl rfl)⟩
   ·replace hb := Nrm.nrm hb
    skip
    refine wp_skip ?_
    refine zAq ?_
    refine zAb hK ?_; clear hK K
    refine zAa ?_
    refine zp E (zAy E rfl rfl rfl (w_in oZ)) ?_; clear E a; intro a E
    refine zd E ?_; clear E a; intro a E
    refine wpList_nil ?_
    refine zAn ?_
    exact ⟨_, by omega, i + 1, W, rfl, by omega, hWl, S, E.keep (kE8 rfl rfl rfl rfl rfl rfl rfl rfl)⟩
  ·replace hb := Nrm.nrm hb
   refine wp_exit ?_
   refine zAl ?_; clear hK K
   refine zAl ?_
   refine zBi ?_
   refine zAb hK ?_; clear hK K
   refine wp_seq_k ?_; intro K hK
   refine zAa ?_
   refine zd E ?_; clear E a; intro a E
   refine wpList_nil ?_
   refine zAb hK ?_; clear hK K
   iterate 2 (refine wp_seq_k ?_; intro K hK)
   refine zAa ?_
   iterate 3 (refine zd E ?_; clear E a; intro a E)
   refine wpList_nil ?_
   refine zAb hK ?_; clear hK K
   refine wp_block ?_
   refine wp_loop_ghost (fun (m : Nat) (a : Act) (w' : World) => ∃ (j many : Nat) (Lv' : zAj), m = xs.length - j ∧ j ≤ xs.length ∧ many ≤ j ∧ LvC (lvs xs) Lv' ∧ St w0 [C, Lv, [(t, ptcl (.slice (some ⟨gl, 0, none⟩) xs.length c) vk 32)], CL, G] w' [[(g54, cel (W.map Value.bool) 4)], Co, D, [(g, zDv t at_ (.slice adS N cS) mb)], DD, C, Lv', [(t, ptcl (.slice (some ⟨gl, 0, none⟩) xs.length c) vk 32)], CL, G] ∧ Fr a 107 [(0, ptr t), (12, ptr g), (16, .slice ado N co), (20, .int .i64 many), (81, .slice (some ⟨g54, 0, none⟩) xs.length xs.length), (82, .int .i64 xs.length), (83, .int .i64 j)]) (xs.length - 0) ?_ ?_
   ·exact ⟨0, 0, Lv2, rfl, by omega, by omega, hLv2, S, E.keep (kE7 rfl rfl rfl rfl rfl rfl rfl)⟩
   clear E; clear a; (try clear S); rintro m a w ⟨j, many, Lv', rfl, hj, hmany, hLv', S, E⟩
   refine wp_seq_k ?_; intro K hK
   refine zAa ?_
   refine zd E ?_; clear E a; intro a E
   refine wpList_nil ?_
   refine zAb hK ?_; clear hK K
   refine wp_seq_k ?_; intro K hK
   refine zAs E rfl (fun hb => ?_) (fun hb => ?_)
   ·replace hb := Nrm.nrm hb
    refine wp_skip ?_
    refine zAb hK ?_; clear hK K
    refine wp_seq_k ?_; intro K hK
    refine wp_block ?_
    refine wp_seq_k ?_; intro K hK
    have hjl : j < xs.length := by omega
    obtain ⟨wj, hwj⟩ : ∃ wj, W[j]? = some wj := ⟨_, List.getElem?_eq_getElem oZ⟩
    have hwc : (W.map Value.bool)[j]? = some (.bool wj) := by rw [List.getElem?_map, hwj]; rfl
    have hcell : (xs.map fun y => ptr y.1)[j]? = some (ptr xs[j].1) := by rw [List.getElem?_map, List.getElem?_eq_getElem hjl]; rfl
    refine zAa ?_
    refine zd E ?_; clear E a; intro a E
    refine zp E (zHn (i := j) E rfl rfl rfl rfl rfl rfl oZ) ?_; clear E a; intro a E
    refine zp E (zAo E rfl rfl rfl (zBv (j := j) (S.get pZ) hwc)) ?_; clear E a; intro a E
    iterate 2 (refine zd E ?_; clear E a; intro a E)
    refine wpList_nil ?_
    refine zAb hK ?_; clear hK K
    refine wp_seq_k ?_; intro K hK
    refine zAa ?_
    refine zd E ?_; clear E a; intro a E
    refine wpList_nil ?_
    refine zAb hK ?_; clear hK K
    refine zAs E rfl (fun hb => ?_) (fun hb => ?_)
    ·replace hb := Nrm.nrm hb
     skip
     refine wp_seq_k ?_; intro K hK
     refine zAa ?_
     iterate 2 (refine zd E ?_; clear E a; intro a E)
     refine zp E (by first | exact zAc (q := 0) E rfl rfl rfl | exact zAd (q := 0) E rfl rfl rfl) ?_; clear E a; intro a E
     iterate 2 (refine zd E ?_; clear E a; intro a E)
     refine zp E (zAp (i := j) E rfl rfl rfl rfl rfl rfl oZ) ?_; clear E a; intro a E
     refine zp E (zAo E rfl rfl rfl (hCL.rd.cells (S.stab.at mZ) rfl j _ hcell)) ?_; clear E a; intro a E
     refine zAg E rfl rfl dZ rfl Tryz.func41 rfl yZ rfl (blame_in (lvs xs) Lv' hLv' j xs[j] (zKs hjl) _ (S.hp.sel sZ)) ?_
     rintro v96 w ⟨Lv3, hLv3, hT⟩; clear E a; intro a E
     have S := S.call1 sZ hT
     refine wpList_nil ?_
     refine zAb hK ?_; clear hK K
     refine zAa ?_
     refine zd E ?_; clear E a; intro a E
     refine zp E (zAy E rfl rfl rfl (w_in oZ)) ?_; clear E a; intro a E
     refine zd E ?_; clear E a; intro a E
     refine wpList_nil ?_
     refine zAq ?_
     refine zAb hK ?_; clear hK K
     refine zAa ?_
     refine zp E (zAy E rfl rfl rfl (w_in oZ)) ?_; clear E a; intro a E
     refine zd E ?_; clear E a; intro a E
     refine wpList_nil ?_
     refine zAn ?_
     exact ⟨_, by omega, j + 1, many + 1, Lv3, rfl, by omega, by omega, hLv3, S.only sZ, E.keep (kE7 rfl rfl rfl rfl rfl rfl rfl)⟩
    ·replace hb := Nrm.nrm hb
     skip
     refine wp_skip ?_
     refine zAq ?_
     refine zAb hK ?_; clear hK K
     refine zAa ?_
     refine zp E (zAy E rfl rfl rfl (w_in oZ)) ?_; clear E a; intro a E
     refine zd E ?_; clear E a; intro a E
     refine wpList_nil ?_
     refine zAn ?_
     exact ⟨_, by omega, j + 1, many, Lv', rfl, by omega, by omega, hLv', S, E.keep (kE7 rfl rfl rfl rfl rfl rfl rfl)⟩
   ·replace hb := Nrm.nrm hb
    refine wp_exit ?_
    refine zAl ?_; clear hK K
    refine zAl ?_
    refine zBi ?_
    refine zAb hK ?_; clear hK K
    iterate 2 (refine wp_seq_k ?_; intro K hK)
    have S := (S.gather (A := DD) (B := Co) pZ pZ).gather (A := DD ++ Co) (B := D) pZ pZ
    obtain ⟨D3, hD3⟩ : ∃ D3, D3 = DD ++ Co ++ D := ⟨_, rfl⟩
    rw [← hD3] at S
    have k1 : ∀ q ∈ DD, q ∈ D3 := fun q hq => by rw [hD3]; exact List.mem_append_left _ (List.mem_append_left _ hq)
    have k2 : ∀ q ∈ Co, q ∈ D3 := fun q hq => by rw [hD3]; exact List.mem_append_left _ (List.mem_append_right _ hq)
    have k3 : ∀ q ∈ D, q ∈ D3 := fun q hq => by rw [hD3]; exact List.mem_append_right _ hq
    refine zAa ?_
    iterate 2 (refine zd E ?_; clear E a; intro a E)
    refine zAg E rfl rfl dZ rfl Tryz.func42 rfl yZ rfl (pput_ret P R C hC xs k hU hk hw hnd Lv' hLv' t _ c vk CL hCL g at_ mb N ⟨hN, e2⟩ _ _ D3 vs vso _ (layP xs.length b) (hCo.rd.sub k2) (hDo.sub k3) (hl3.sub k1) (hl4.sub k1) (zDp ..) hNe.symm hnone hsecs2 _ (S.hp.sel sZ)) ?_
    rintro v102 w ⟨rfl, R2, C2, Lv4, hC2, hLv4, hU2, hf2, hLi, hT⟩; clear E a; intro a E
    have S := S.call sZ hT; simp only [List.cons_append, List.nil_append] at S
    refine zd E ?_; clear E a; intro a E
    refine wpList_nil ?_
    refine zAb hK ?_; clear hK K
    refine wp_seq_k ?_; intro K hK
    refine zAa ?_
    iterate 2 (refine zd E ?_; clear E a; intro a E)
    refine wpList_nil ?_
    refine zAb hK ?_; clear hK K
    refine zAt E rfl (rfl) ?_
    refine wp_skip ?_
    refine zAb hK ?_; clear hK K
    refine wp_seq_k ?_; intro K hK
    refine zAa ?_
    iterate 3 (refine zd E ?_; clear E a; intro a E)
    refine wpList_nil ?_
    refine zAb hK ?_; clear hK K
    refine wp_ret ?_
    refine ret2 E rfl rfl rfl ?_
    exact ⟨_, rfl, many, R2, C2, Lv4, rfl, hC2, hLv4, hU2, hf2, .inr ⟨hq, hLi⟩, (S.only (Bs := [C2, Lv4, [(t, _)], CL, G]) sZ).tr⟩
 ·skip
  rw [hq] at S
  iterate 3 (refine zd E ?_; clear E a; intro a E)
  refine zBg E (t := 37) rfl (rfl) (fun hb37 => ?_)
  iterate 2 (refine zyd E hb37 ?_; clear E a; intro a E)
  refine zy E hb37 (by first | exact zAc (q := 3) E rfl rfl rfl | exact zAd (q := 3) E rfl rfl rfl) ?_; clear E a; intro a E
  refine zyd E hb37 ?_; clear E a; intro a E
  refine zy E hb37 (zCz E rfl rfl rfl (S.get pZ)) ?_; clear E a; intro a E
  refine zyd E hb37 ?_; clear E a; intro a E
  refine zp E (zAk E rfl rfl hb37 rfl) ?_; clear E a; intro a E
  refine wpList_nil ?_
  refine zAb hK ?_; clear hK K
  refine zCk E rfl (rfl) ?_
  refine wp_seq_k ?_; intro K hK
  replace E := E.keep (e' := [(0, _), (1, _), (2, _), (10, _), (11, _), (12, _), (13, _), (15, _)]) (kE8 rfl rfl rfl rfl rfl rfl rfl rfl)
  refine zAa ?_
  iterate 3 (refine zd E ?_; clear E a; intro a E)
  refine wpList_nil ?_
  refine zAb hK ?_; clear hK K
  refine wp_ret ?_
  refine zBc ?_; clear hK K
  refine ret2 E rfl rfl rfl ?_
  exact ⟨_, rfl, 0, R, C, Lv2, rfl, hC, hLv2, hup, fun y hy => rfl, .inl ⟨rfl, by rw [hq]; simp⟩, (S.only (Bs := [C, Lv2, [(t, _)], CL, G]) sZ).tr⟩
end
end Go.Proofs.YtpjidiaekifmbaaGreatDoor
