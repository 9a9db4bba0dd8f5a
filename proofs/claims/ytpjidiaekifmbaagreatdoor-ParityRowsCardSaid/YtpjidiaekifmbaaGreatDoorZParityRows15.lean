/-
  Texts put together (15).
-/
import Derived.Test.YtpjidiaekifmbaaGreatDoorZParityRows14
set_option maxHeartbeats 1000000
namespace Go.Proofs.YtpjidiaekifmbaaGreatDoor
open Go.Sl
set_option maxRecDepth 10000
set_option maxHeartbeats 4000000 in
theorem rows7_walk (O : zAj) (hL : Lay3 O) (n at_ : Int) (ha : -9223372036854775808 ≤ at_ ∧ at_ ≤ 9223372036854775807) (v : Value) (b : List UInt8) (hb0 : Rd O 1 v b.length (byt b)) (hbl : b.length ≤ 140737488352000) (w0 : World) (H : Hp w0 [O]) :
  Ret Tryz.prog 4 #[.int .i64 n, .int .i64 at_, v] w0 fun u w' => u = .bool true ∧ Trs w0 w' [O] [O] := by
 have S := St.begin H
 have hz : List.replicate 128 (.int .u8 0) = byt z128 := (zFd 128).symm
 obtain ⟨adb, cb, rfl⟩ := hb0.slice
 refine zDi 203 Tryz.func4 rfl rfl dZ ?_; intro a E
 refine wp_seq_k ?_; intro K hK
 refine zAa ?_
 refine zd E ?_; clear E a; intro a E
 refine wpList_nil ?_
 refine zAb hK ?_; clear hK K
 refine wp_seq_k ?_; intro K hK
 refine zAa ?_
 refine zAg E rfl rfl dZ rfl Tryz.func5 rfl yZ rfl (awake7_ret O hL.1 _ S.hp) ?_
 rintro v27 w ⟨rfl, hT⟩; clear E a; intro a E
 have S := S.all hT
 refine zd E ?_; clear E a; intro a E
 refine wpList_nil ?_
 refine zAb hK ?_; clear hK K
 iterate 2 (refine wp_seq_k ?_; intro K hK)
 refine zDl (fun (a : Act) (w' : World) => ∃ bt : Bool, (bt = true ↔ ¬ (3 ≤ n ∧ n ≤ 5)) ∧ St w0 [O] w' [O] ∧ Fr a 203 [(0, .int .i64 n), (1, .int .i64 at_), (2, .slice adb b.length cb), (7, .bool true), (33, .bool bt)]) ?_ ?_
 ·skip
  refine zAa ?_
  iterate 3 (refine zd E ?_; clear E a; intro a E)
  refine zAr E (t := 30) rfl (fun hb30 => ?_) (fun hb30 => ?_)
  ·have hb30n := hb30; replace hb30n := Nrm.nrm hb30n
   iterate 2 (refine zn E hb30 ?_; clear E a; intro a E)
   refine zp E (zAi E rfl rfl hb30 rfl) ?_; clear E a; intro a E
   refine wpList_nil ?_
   refine zAx ?_
   exact ⟨_, by first | (simp; omega) | (simp only [decide_eq_true_eq]; omega), S, E.keep (kE5 rfl rfl rfl rfl rfl)⟩
  ·have hb30n := hb30; replace hb30n := Nrm.nrm hb30n
   iterate 2 (refine zyd E hb30 ?_; clear E a; intro a E)
   refine zp E (zAk E rfl rfl hb30 rfl) ?_; clear E a; intro a E
   refine wpList_nil ?_
   refine zAx ?_
   exact ⟨_, by first | (simp; omega) | (simp only [decide_eq_true_eq]; omega), S, E.keep (kE5 rfl rfl rfl rfl rfl)⟩
 ·clear E S a; intro a w J; obtain ⟨bt, hbt, S, E⟩ := J
  refine zAb hK ?_; clear hK K
  refine zAs E rfl (fun hb => ?_) (fun hb => ?_)
  ·replace hb := Nrm.nrm hb
   skip
   refine wp_seq_k ?_; intro K hK
   refine zAa ?_
   iterate 2 (refine zd E ?_; clear E a; intro a E)
   refine wpList_nil ?_
   refine zAb hK ?_; clear hK K
   refine wp_ret ?_
   refine zBc ?_; clear hK K
   refine ret1 E rfl rfl ?_
   exact ⟨_, rfl, rfl, S.tr⟩
  ·replace hb := Nrm.nrm hb
   have hp : 3 ≤ n ∧ n ≤ 5 := (by have := mt hbt.2 (by simp [hb]); exact Classical.not_not.1 this)
   refine wp_skip ?_
   refine zAb hK ?_; clear hK K
   refine wp_seq_k ?_; intro K hK
   obtain ⟨nn, rfl⟩ : ∃ nn : Nat, n = nn := ⟨n.toNat, by omega⟩
   refine zAa ?_
   refine zd E ?_; clear E a; intro a E
   refine zAg E rfl rfl dZ rfl Tryz.func6 rfl yZ rfl (zIu nn oZ _) ?_
   rintro v37 w ⟨x, p, t, R, C, xs, Lv, vl, vk, CL, CK, vD, CD, vL, CLs, v4, v5, v6, v7, rfl, hGk, hCL, hCK, hCD, hCLs, hT⟩; clear E a; intro a E
   have S := S.call sZ hT; simp only [List.cons_append, List.nil_append] at S; have hU := hGk.up oZ; have hlen := hGk.len; have hnd := hGk.nd; have hnf := fun x hx => (hGk.dk x hx).1; obtain ⟨hC, _, _, _, hLv⟩ := hGk
   obtain ⟨adl, cl, rfl⟩ := hCL.slice
   obtain ⟨adL, cL, rfl⟩ := hCLs.slice
   obtain ⟨gL, rfl⟩ := hCLs.addr oZ
   have hw : 3 ≤ xs.length ∧ xs.length ≤ 5 := by omega
   have hw0 : 0 < xs.length := by omega
   obtain ⟨hnp0, hnp1⟩ := needP_le hw b.length
   iterate 7 (refine zd E ?_; clear E a; intro a E)
   refine wpList_nil ?_
   refine zAb hK ?_; clear hK K
   iterate 2 (refine wp_seq_k ?_; intro K hK)
   refine zAa ?_
   iterate 3 (refine zd E ?_; clear E a; intro a E)
   refine zBg E (t := 43) rfl (rfl) (fun hb43 => ?_)
   iterate 2 (refine zyd E hb43 ?_; clear E a; intro a E)
   refine zp E (zAk E rfl rfl hb43 rfl) ?_; clear E a; intro a E
   refine wpList_nil ?_
   refine zAb hK ?_; clear hK K
   refine zAt E rfl (rfl) ?_
   refine wp_skip ?_
   refine zAb hK ?_; clear hK K
   refine wp_seq_k ?_; intro K hK
   refine zAa ?_
   rcases Classical.em (zIh xs.length 32 at_ b.length) with hfit | hfit
   ·skip
    obtain ⟨hbb, hat0, hN⟩ := fitP_is hw hfit; obtain ⟨an, rfl⟩ : ∃ an : Nat, at_ = an := ⟨at_.toNat, by omega⟩; have hN : an + (layP xs.length b).length ≤ xs.length * 32 := oZ
    iterate 2 (refine zd E ?_; clear E a; intro a E)
    refine zp E (by first | exact zAc (q := 3) E rfl rfl rfl | exact zAd (q := 3) E rfl rfl rfl) ?_; clear E a; intro a E
    iterate 3 (refine zd E ?_; clear E a; intro a E)
    refine zAg E rfl rfl dZ rfl Tryz.func8 rfl yZ rfl (zIs p R C hC xs 0 hU oZ hw hnd Lv hLv t adl cl _ CL hCL oZ hnf an _ b O hb0 3 oZ hfit hbb ⟨hN, (zFn hw hbb).2.1⟩ _ (S.hp.sel sZ)) ?_
    rintro v53 w ⟨rfl, R1, C1, Lv1, hC1, hLv1, hU1, hW1, hLi, hT⟩; clear E a; intro a E
    have S := S.call sZ hT; simp only [List.cons_append, List.nil_append] at S
    refine zd E ?_; clear E a; intro a E
    refine wpList_nil ?_
    refine zAb hK ?_; clear hK K
    refine wp_seq_k ?_; intro K hK
    replace E := E.keep (e' := [(0, _), (1, _), (2, _), (8, _), (11, _)]) (kE5 rfl rfl rfl rfl rfl)
    refine zAa ?_
    iterate 2 (refine zd E ?_; clear E a; intro a E)
    refine zp E (by first | exact zAc (q := 3) E rfl rfl rfl | exact zAd (q := 3) E rfl rfl rfl) ?_; clear E a; intro a E
    iterate 3 (refine zd E ?_; clear E a; intro a E)
    refine zAg E rfl rfl dZ rfl Tryz.func10 rfl yZ rfl (zGu t adl xs.length cl _ 32 _ mZ hw b.length _ S.hp) ?_
    rintro v60 w ⟨rfl, hT⟩; clear E a; intro a E
    have S := S.all hT
    refine zd E ?_; clear E a; intro a E
    refine wpList_nil ?_
    refine zAb hK ?_; clear hK K
    iterate 2 (refine wp_seq_k ?_; intro K hK)
    refine zAa ?_
    iterate 2 (refine zd E ?_; clear E a; intro a E)
    refine wpList_nil ?_
    refine zAb hK ?_; clear hK K
    refine zAt E rfl (rfl) ?_
    refine wp_skip ?_
    refine zAb hK ?_; clear hK K
    iterate 2 (refine wp_seq_k ?_; intro K hK)
    obtain ⟨e1, e2, e3⟩ := zFn hw hbb
    have hlf := zFg hw0 hW1
    have hrow := layP_row hw hbb
    have hLs := zGv (w := xs.length) hbb
    obtain ⟨L, hLe⟩ : ∃ L, L = layP xs.length b := ⟨_, rfl⟩
    rw [← hLe] at hLi e1 e2 e3 hN hrow hLs
    obtain ⟨N, hNe⟩ : ∃ N, N = L.length := ⟨_, rfl⟩
    rw [← hNe] at hLi e1 e2 e3 hN
    rw [e1] at E
    refine zAa ?_
    refine zd E ?_; clear E a; intro a E
    refine wpList_nil ?_
    refine zAb hK ?_; clear hK K
    refine wp_block ?_
    refine wp_loop_ghost (fun (m : Nat) (a : Act) (w' : World) => ∃ (r q : Nat) (Lv' : zAj), q = r * xs.length ∧ m = N + xs.length - q ∧ q < N + xs.length ∧ LvC (lvs xs) Lv' ∧ St w0 [O] w' [C1, Lv', [(x, zLa p vD (.slice (some ⟨gL, 0, none⟩) xs.length cL) (ptr t) v4 v5 v6 v7)], CLs, O] ∧ Fr a 203 [(0, .int .i64 nn), (1, .int .i64 an), (2, .slice adb b.length cb), (8, ptr x), (12, .int .i64 N), (13, .int .i64 q)]) (N + xs.length - 0) ?_ ?_
    ·exact ⟨0, 0, Lv1, by simp, rfl, by omega, hLv1, S.only sZ, E.keep (kE6 rfl rfl rfl rfl rfl rfl)⟩
    clear E; clear a; (try clear S); rintro m a w ⟨r, q, Lv', hqr, rfl, hqN, hLv', S, E⟩
    iterate 2 (refine wp_seq_k ?_; intro K hK)
    refine zAa ?_
    iterate 3 (refine zd E ?_; clear E a; intro a E)
    refine wpList_nil ?_
    refine zAb hK ?_; clear hK K
    refine zAs E rfl (fun hb => ?_) (fun hb => ?_)
    ·replace hb := Nrm.nrm hb
     refine wp_skip ?_
     refine zAb hK ?_; clear hK K
     refine wp_seq_k ?_; intro K hK
     refine wp_block ?_
     refine wp_seq_k ?_; intro K hK
     refine zAa ?_
     refine zAf rfl (zCn (by' := 1) E S rfl rfl dZ rfl rfl rfl rfl rfl rfl rfl rfl rfl rfl rfl (k := 128) (mkb oZ) (by simp only [maxLen]; omega) ?_); clear E S a; intro a w g86 E S
     rw [hz] at S
     refine zd E ?_; clear E a; intro a E
     refine wpList_nil ?_
     refine zAb hK ?_; clear hK K
     iterate 2 (refine wp_seq_k ?_; intro K hK)
     have hql : q < N := by omega
     obtain ⟨hi2, hhi2⟩ : ∃ hi2, hi2 = min N (q + xs.length) := ⟨_, rfl⟩
     obtain ⟨row, hrw⟩ : ∃ row, row = (L.drop q).take xs.length := ⟨_, rfl⟩
     have hrl : row.length = hi2 - q := by rw [hrw, List.length_take, List.length_drop]; omega
     have hrs : Secs row := by rw [hrw]; exact (hLs.drop _).take _
     have hra : xall row = z128 := by rw [hrw, hqr]; exact hrow r
     have hadq : IntKind.i64.wrap ((q : Int) + nn) = ((q + nn : Nat) : Int) := by rw [show (q : Int) + nn = ((q + nn : Nat) : Int) by omega]; exact w_in oZ
     refine zAa ?_
     iterate 2 (refine zd E ?_; clear E a; intro a E)
     refine wpList_nil ?_
     refine zAb hK ?_; clear hK K
     refine wp_block ?_
     refine wp_loop_ghost (fun (m : Nat) (a : Act) (w' : World) => ∃ (j : Nat) (Lv' : zAj), m = hi2 - (q + j) ∧ q + j ≤ hi2 ∧ LvC (lvs xs) Lv' ∧ St w0 [O] w' [[(g86, cel (byt (xall (row.take j))) 5)], C1, Lv', [(x, zLa p vD (.slice (some ⟨gL, 0, none⟩) xs.length cL) (ptr t) v4 v5 v6 v7)], CLs, O] ∧ Fr a 203 [(0, .int .i64 nn), (1, .int .i64 an), (2, .slice adb b.length cb), (8, ptr x), (12, .int .i64 N), (13, .int .i64 q), (14, .slice (some ⟨g86, 0, none⟩) 128 128), (15, .int .i64 ((q + j : Nat) : Int))]) (hi2 - q) ?_ ?_
     ·exact ⟨0, Lv', rfl, by omega, hLv', S, E.keep (kE8 rfl rfl rfl rfl rfl rfl rfl rfl)⟩
     clear E; clear a; (try clear S); rintro m a w ⟨j, Lv', rfl, hj, hLv', S, E⟩
     iterate 2 (refine wp_seq_k ?_; intro K hK)
     refine zDl (fun (a : Act) (w' : World) => ∃ bt : Bool, (bt = true ↔ q + j < hi2) ∧ St w0 [O] w' [[(g86, cel (byt (xall (row.take j))) 5)], C1, Lv', [(x, zLa p vD (.slice (some ⟨gL, 0, none⟩) xs.length cL) (ptr t) v4 v5 v6 v7)], CLs, O] ∧ Fr a 203 [(0, .int .i64 nn), (1, .int .i64 an), (2, .slice adb b.length cb), (8, ptr x), (12, .int .i64 N), (13, .int .i64 q), (14, .slice (some ⟨g86, 0, none⟩) 128 128), (15, .int .i64 ((q + j : Nat) : Int)), (97, .bool bt)]) ?_ ?_
     ·skip
      refine zAa ?_
      iterate 3 (refine zd E ?_; clear E a; intro a E)
      refine zp E (zAy E rfl rfl rfl (hadq)) ?_; clear E a; intro a E
      iterate 2 (refine zd E ?_; clear E a; intro a E)
      refine zAr E (t := 93) rfl (fun hb93 => ?_) (fun hb93 => ?_)
      ·have hb93n := hb93; replace hb93n := Nrm.nrm hb93n
       iterate 3 (refine zyd E hb93 ?_; clear E a; intro a E)
       refine zp E (zAi E rfl rfl hb93 rfl) ?_; clear E a; intro a E
       refine wpList_nil ?_
       refine zAx ?_
       exact ⟨_, by first | (simp; omega) | (simp only [decide_eq_true_eq]; omega), S, E.keep (kE9 rfl rfl rfl rfl rfl rfl rfl rfl rfl)⟩
      ·have hb93n := hb93; replace hb93n := Nrm.nrm hb93n
       iterate 3 (refine zn E hb93 ?_; clear E a; intro a E)
       refine zp E (zAk E rfl rfl hb93 rfl) ?_; clear E a; intro a E
       refine wpList_nil ?_
       refine zAx ?_
       exact ⟨_, by first | (simp; omega) | (simp only [decide_eq_true_eq]; omega), S, E.keep (kE9 rfl rfl rfl rfl rfl rfl rfl rfl rfl)⟩
     ·clear E S a; intro a w J; obtain ⟨bt, hbt2, S, E⟩ := J
      refine zAb hK ?_; clear hK K
      refine zAs E rfl (fun hb => ?_) (fun hb => ?_)
      ·replace hb := Nrm.nrm hb
       have hjl : q + j < hi2 := hbt2.1 hb
       refine wp_skip ?_
       refine zAb hK ?_; clear hK K
       refine wp_seq_k ?_; intro K hK
       refine wp_block ?_
       refine wp_seq_k ?_; intro K hK
       have hil : q + j < N := by omega
       obtain ⟨i, hie⟩ : ∃ i, i = q + j := ⟨_, rfl⟩
       obtain ⟨hm, hat⟩ := zEg (xs := xs) hw0 (an + i)
       have hml := Nat.mod_lt (an + i) hw0
       have hdv : (an + i) / xs.length < 32 := (Nat.div_lt_iff_lt_mul oZ).2 (by rw [Nat.mul_comm]; omega)
       have hatl : (lvs xs)[(an + i) % xs.length]? = some (some (onX xs (an + i))) := by rw [List.getElem?_map, hat]; rfl
       have hcell : (xs.map fun y => ptr y.1)[(an + i) % xs.length]? = some (ptr (onX xs (an + i)).1) := by rw [List.getElem?_map, hat]; rfl
       obtain ⟨xd, hxd⟩ : ∃ xd, xd = (an + i) / xs.length := ⟨_, rfl⟩
       obtain ⟨xm, hxm⟩ : ∃ xm, xm = (an + i) % xs.length := ⟨_, rfl⟩
       rw [← hxd] at hdv
       rw [← hxm] at hml hatl hcell
       have hsec : secP R1 xs (an + i) = secB (dkOf R1 (onX xs (an + i)).2).now (274 + xd) := by unfold secP; rw [hxd]
       have hnow := hU1.nw _ hm
       have hrd := lfRead_on hU1.on.off (y := dkOf R1 (onX xs (an + i)).2) (by rw [hU1.nw _ hm, hU1.pl _ hm]) (at_ := (xd : Int)) (n := 1) (by unfold zIb; rw [hU1.size _ hm]; omega)
       rw [show ((274 + (xd : Int)).toNat * 128) = 128 * (274 + xd) by omega, show List.take (1 * 128) (List.drop (128 * (274 + xd)) (dkOf R1 (onX xs (an + i)).2).now) = secP R1 xs (an + i) by rw [hsec]; rfl, show ((1 : Nat) : Int) = 1 from rfl] at hrd
       have hsl : (secP R1 xs (an + i)).length = 128 := by rw [hsec]; exact zCf (by rw [hnow]; omega)
       rw [show (dkOf R1 (onX xs (an + i)).2).failed = false from hlf (an + i), if_neg (by simp)] at hrd
       have hadd : IntKind.i64.wrap ((an : Int) + i) = ((an + i : Nat) : Int) := by rw [show (an : Int) + i = ((an + i : Nat) : Int) by omega]; exact w_in oZ
       have hse : secP R1 xs (an + i) = row[j]'oZ := by
        rw [hLi i oZ oZ]
        simp only [hrw, List.getElem_take, List.getElem_drop, hie]
       rw [hse] at hrd hsl
       rw [← hie] at E
       refine zAw S (.ofL [(0, 0), (1, 0), (2, 0), (3, 0), (4, 0), (5, 0), (6, 0), (7, 0), (8, 0), (9, 0), (10, 0), (11, 0), (12, 0), (13, 0), (14, 0), (15, 0), (16, 3), (17, 2), (18, 2), (19, 2), (20, 2), (21, 2)]) yZ yZ ?_
       clear S; intro w S
       iterate 2 (refine zmd E ?_; clear E a; intro a E)
       refine zm E rfl (fun w h => by first | exact zAc (q := 2) E rfl rfl rfl | exact zAd (q := 2) E rfl rfl rfl) ?_; clear E a; intro a E
       iterate 3 (refine zmd E ?_; clear E a; intro a E)
       refine zm E rfl (fun w h => zAy E rfl rfl rfl (hadd)) ?_; clear E a; intro a E
       refine zmd E ?_; clear E a; intro a E
       refine zm E rfl (fun w h => zGh E rfl rfl rfl (by first | decide | omega) (show ((an + i : Nat) : Int).tmod nn = ((xm : Nat) : Int) by rw [zIi, hxm, hlen])) ?_; clear E a; intro a E
       refine zm E rfl (fun w h => zAp (i := xm) E rfl rfl rfl rfl rfl rfl oZ) ?_; clear E a; intro a E
       refine zm E rfl (fun w h => zAo E rfl rfl rfl (hCLs.rd.cells (h.at mZ) rfl xm _ hcell)) ?_; clear E a; intro a E
       iterate 2 (refine zmd E ?_; clear E a; intro a E)
       refine zm E rfl (fun w h => zAy E rfl rfl rfl (hadd)) ?_; clear E a; intro a E
       refine zmd E ?_; clear E a; intro a E
       refine zm E rfl (fun w h => zGg E rfl rfl rfl (by first | decide | omega) (show IntKind.i64.wrap (((an + i : Nat) : Int).tdiv nn) = ((xd : Nat) : Int) by rw [zJq, hxd, hlen]; exact w_in (by rw [← hlen, ← hxd]; omega))) ?_; clear E a; intro a E
       refine zDd E rfl rfl rfl dZ rfl Tryz.func15 rfl yZ rfl (lread_in p R1 C1 hC1 (lvs xs) Lv' hLv' xm (onX xs (an + i)) hatl (hU1.has _ hm) xd 1 oZ _ (S.hp.sel sZ)) ?_
       rintro v117 w ⟨vb, Cb, Lv2, rfl, hCb, hLv2, hT⟩; clear E a; intro a E
       have S := S.call3 sZ hT; rw [hrd] at E hCb; replace hCb : Buf Cb 5 1 vb 128 (byt (row[j]'oZ)) := (by rw [← hsl]; exact hCb); obtain ⟨adc, cpc, rfl⟩ := hCb.slice; obtain ⟨gc, rfl⟩ := hCb.addr oZ
       refine zBp E rfl rfl rfl dZ (fun w => zCp E rfl rfl) ?_; clear E a; intro a E
       iterate 2 (refine zBp E rfl rfl rfl dZ (fun w => zDw E rfl rfl rfl) ?_; clear E a; intro a E)
       iterate 2 (refine zBp E rfl rfl rfl dZ (fun w => zCi E rfl rfl) ?_; clear E a; intro a E)
       refine zBd ?_
       refine zAb hK ?_; clear hK K
       iterate 2 (refine wp_seq_k ?_; intro K hK)
       refine zAa ?_
       iterate 3 (refine zd E ?_; clear E a; intro a E)
       refine zBg E (t := 122) rfl (rfl) (fun hb122 => ?_)
       iterate 3 (refine zyd E hb122 ?_; clear E a; intro a E)
       refine zp E (zAk E rfl rfl hb122 rfl) ?_; clear E a; intro a E
       refine wpList_nil ?_
       refine zAb hK ?_; clear hK K
       refine zAt E rfl (rfl) ?_
       refine wp_skip ?_
       refine zAb hK ?_; clear hK K
       refine wp_seq_k ?_; intro K hK
       obtain ⟨X, hX⟩ : ∃ X, X = xall (row.take j) := ⟨_, rfl⟩
       have hXl : X.length = 128 := by rw [hX]; exact zEy (hrs.take j)
       have hnx : xall (row.take (j + 1)) = xr X (row[j]'oZ) := by rw [zLi oZ, hX]
       obtain ⟨sx, hsx⟩ : ∃ sx, sx = row[j]'oZ := ⟨_, rfl⟩
       rw [← hsx] at hnx hCb hsl
       rw [← hX] at S
       refine zAa ?_
       refine zd E ?_; clear E a; intro a E
       refine wpList_nil ?_
       refine zAb hK ?_; clear hK K
       refine wp_block ?_
       refine wp_loop_ghost (fun (m : Nat) (a : Act) (w' : World) => ∃ (y : Nat), m = 128 - y ∧ y ≤ 128 ∧ St w0 [O] w' [[(g86, cel (byt (xorB X (sx.take y))) 5)], Cb, C1, Lv2, [(x, zLa p vD (.slice (some ⟨gL, 0, none⟩) xs.length cL) (ptr t) v4 v5 v6 v7)], CLs, O] ∧ Fr a 203 [(0, .int .i64 nn), (1, .int .i64 an), (2, .slice adb b.length cb), (8, ptr x), (12, .int .i64 N), (13, .int .i64 q), (14, .slice (some ⟨g86, 0, none⟩) 128 128), (15, .int .i64 i), (16, .slice (some ⟨gc, 0, none⟩) 128 cpc), (18, .int .i64 y)]) (128 - 0) ?_ ?_
       ·exact ⟨0, rfl, by omega, by rw [List.take_zero, xorB_nil]; exact S.only sZ, E.keep (kE10 rfl rfl rfl rfl rfl rfl rfl rfl rfl rfl)⟩
       clear E; clear a; (try clear S); rintro m a w ⟨y, rfl, hy0, S, E⟩
       iterate 2 (refine wp_seq_k ?_; intro K hK)
       refine zAa ?_
       iterate 2 (refine zd E ?_; clear E a; intro a E)
       refine wpList_nil ?_
       refine zAb hK ?_; clear hK K
       refine zAs E rfl (fun hb => ?_) (fun hb => ?_)
       ·replace hb := Nrm.nrm hb
        refine wp_skip ?_
        refine zAb hK ?_; clear hK K
        refine wp_seq_k ?_; intro K hK
        refine wp_block ?_
        have hyl : y < 128 := by omega
        obtain ⟨z, hz1⟩ : ∃ z, sx[y]? = some z := ⟨_, List.getElem?_eq_getElem oZ⟩
        obtain ⟨u, hu⟩ : ∃ u, X[y]? = some u := ⟨_, List.getElem?_eq_getElem oZ⟩
        have hzb : (byt sx)[y]? = some (.int .u8 z.toNat) := by simp [byt, hz1]
        have hyi : (xorB X (sx.take y))[y]? = some u := by rw [zFt _ _ _ (by rw [List.length_take]; omega)]; exact hu
        have hyb : (byt (xorB X (sx.take y)))[y]? = some (.int .u8 u.toNat) := by simp [byt, hyi]
        have hCx : Buf [(g86, cel (byt (xorB X (sx.take y))) 5)] 5 1 (.slice (some ⟨g86, 0, none⟩) 128 128) 128 (byt (xorB X (sx.take y))) := by
         have := zHf (r := []) (T := 5) (g := g86) (c := 128) (m := 128) (s := 1) (xs := byt (xorB X (sx.take y))) (by rw [zAv, zCg]; omega) (zCq _) oZ (by simp [maxLen]) (by rw [zAv, zCg, List.length_nil]; omega)
         rwa [List.append_nil] at this
        refine zAw S (.ofL [(0, 0), (1, 0), (2, 0), (3, 0), (4, 0), (5, 0), (6, 0), (7, 0), (8, 0), (9, 0), (10, 0), (11, 0), (12, 3)]) yZ yZ ?_
        clear S; intro w S
        iterate 4 (refine zmd E ?_; clear E a; intro a E)
        refine zm E rfl (fun w h => zHn (i := y) E rfl rfl rfl rfl rfl rfl oZ) ?_; clear E a; intro a E
        refine zm E rfl (fun w h => zAo E rfl rfl rfl (by have := hCx.rd.cells (h.at mZ) rfl y _ hyb; rwa [Nat.zero_add] at this)) ?_; clear E a; intro a E
        iterate 2 (refine zmd E ?_; clear E a; intro a E)
        refine zm E rfl (fun w h => zAp (i := y) E rfl rfl rfl rfl rfl rfl oZ) ?_; clear E a; intro a E
        refine zm E rfl (fun w h => zAo E rfl rfl rfl (hCb.rd.cells (h.at mZ) rfl y _ hzb)) ?_; clear E a; intro a E
        refine zm E rfl (fun w h => zDs E rfl rfl rfl (xor8 u z)) ?_; clear E a; intro a E
        refine zm E rfl (fun w h => zHn (i := y) E rfl rfl rfl rfl rfl rfl oZ) ?_; clear E a; intro a E
        refine zCd rfl rfl (zBa E S rfl rfl rfl rfl rfl rfl pZ (by rw [zAv, zCg]; omega) ?_); clear E S a; intro a w E S; try dsimp only [List.set] at S
        refine zBd ?_
        refine zAq ?_
        refine zAb hK ?_; clear hK K
        refine zAa ?_
        refine zd E ?_; clear E a; intro a E
        refine zp E (zAy E rfl rfl rfl (w_in oZ)) ?_; clear E a; intro a E
        refine zd E ?_; clear E a; intro a E
        refine wpList_nil ?_
        refine zAn ?_
        exact ⟨_, by omega, y + 1, rfl, by omega, by rw [byt_set, zKk hu hz1] at S; exact S, E.keep (kE10 rfl rfl rfl rfl rfl rfl rfl rfl rfl rfl)⟩
       ·replace hb := Nrm.nrm hb
        refine wp_exit ?_
        refine zAl ?_; clear hK K
        refine zAl ?_
        refine zBi ?_
        refine zAq ?_
        refine zAb hK ?_; clear hK K
        obtain rfl : y = 128 := by omega
        rw [List.take_of_length_le oZ, xorB_xr oZ, ← hnx] at S
        rw [hie] at E
        refine zAa ?_
        refine zd E ?_; clear E a; intro a E
        refine zp E (zAy E rfl rfl rfl (show IntKind.i64.wrap (((q + j : Nat) : Int) + 1) = ((q + (j + 1) : Nat) : Int) by rw [show ((q + j : Nat) : Int) + 1 = ((q + (j + 1) : Nat) : Int) by omega]; exact w_in oZ)) ?_; clear E a; intro a E
        refine zd E ?_; clear E a; intro a E
        refine wpList_nil ?_
        refine zAn ?_
        exact ⟨_, by omega, j + 1, Lv2, rfl, by omega, hLv2, S.only sZ, E.keep (kE8 rfl rfl rfl rfl rfl rfl rfl rfl)⟩
      ·replace hb := Nrm.nrm hb
       have hjl : ¬ q + j < hi2 := (fun h => by have := hbt2.2 h; rw [this] at hb; cases hb)
       refine wp_exit ?_
       refine zAl ?_; clear hK K
       refine zAl ?_
       refine zBi ?_
       refine zAb hK ?_; clear hK K
       refine wp_seq_k ?_; intro K hK
       rw [show row.take j = row from List.take_of_length_le oZ, hra] at S
       refine zAw S (.ofL [(0, 0), (1, 0), (2, 1), (3, 1), (4, 0)]) yZ yZ ?_
       clear S; intro w S
       refine zmd E ?_; clear E a; intro a E
       refine zm E rfl (fun w h => zCc E rfl rfl rfl rfl rfl (show Rd [(g86, cel (byt z128) 5)] 1 (.slice (some ⟨g86, 0, none⟩) 128 128) z128.length (byt z128) from by rw [zEb]; exact zBn (by rw [zAv, zEb]) (zCq _) oZ _) (h.at mZ)) ?_; clear E a; intro a E
       refine zDb rfl rfl (zCn (by' := 1) E S rfl rfl dZ rfl rfl rfl rfl rfl rfl rfl rfl rfl rfl rfl (k := 128) (mkb oZ) (by simp only [maxLen]; omega) ?_); clear E S a; intro a w g145 E S; refine ⟨S.stab.sub (by first | (simp; done) | (simp +contextual; done) | (simp [*]; done)), ?_⟩
       rw [hz] at S
       refine zDb rfl rfl (wp_take E (zCc E rfl rfl rfl rfl rfl (show Rd [(g145, cel (byt z128) 5)] 1 (.slice (some ⟨g145, 0, none⟩) 128 128) z128.length (byt z128) from by rw [zEb]; exact zBn (by rw [zAv, zEb]) (zCq _) oZ _) (S.stab.at mZ)) rfl dZ ?_); clear E a; intro a E; refine ⟨S.stab.sub (by first | (simp; done) | (simp +contextual; done) | (simp [*]; done)), ?_⟩
       refine zmd E ?_; clear E a; intro a E
       refine zBd ?_
       refine zAb hK ?_; clear hK K
       refine zAt E rfl ((by simp)) ?_
       refine wp_skip ?_
       refine zAq ?_
       refine zAb hK ?_; clear hK K
       refine zAa ?_
       iterate 2 (refine zd E ?_; clear E a; intro a E)
       refine zp E (zAy E rfl rfl rfl (hadq)) ?_; clear E a; intro a E
       refine zd E ?_; clear E a; intro a E
       refine wpList_nil ?_
       refine zAn ?_
       exact ⟨_, by rw [hlen] at hqN ⊢; omega, r + 1, q + xs.length, Lv', by rw [Nat.succ_mul, hqr], rfl, by omega, hLv', S.only sZ, by rw [hlen]; exact E.keep (kE6 rfl rfl rfl rfl rfl rfl)⟩
    ·replace hb := Nrm.nrm hb
     refine wp_exit ?_
     refine zAl ?_; clear hK K
     refine zAl ?_
     refine zBi ?_
     refine zAb hK ?_; clear hK K
     refine wp_seq_k ?_; intro K hK
     refine zAa ?_
     refine zd E ?_; clear E a; intro a E
     refine zAg E rfl rfl dZ rfl Tryz.func16 rfl yZ rfl (dsha_ret O _ b hb0 hbl _ mZ (hL.2.1.sub (fun Q hQ => by rw [List.mem_singleton.1 hQ]; exact mZ)) (hL.2.2.sub (fun Q hQ => by rw [List.mem_singleton.1 hQ]; exact mZ)) _ S.hp) ?_
     rintro v149 w ⟨rfl, hT⟩; clear E a; intro a E
     have S := S.all hT
     refine zAf rfl (zBs E S rfl rfl dZ rfl rfl rfl ?_); clear E S a; intro a w b19 E S
     refine zAf rfl (zBr E S rfl rfl rfl rfl (by simp [Value.oneCell']) rfl pZ (by simp) ?_); clear E S a; intro a w E S; simp only [List.take_succ_cons, List.take_zero, List.drop_succ_cons, List.drop_zero, List.cons_append, List.nil_append, List.append_nil, List.length_cons, List.length_nil, Nat.zero_add, Nat.add_zero] at S
     refine wpList_nil ?_
     refine zAb hK ?_; clear hK K
     iterate 2 (refine wp_seq_k ?_; intro K hK)
     obtain ⟨sm, hsm⟩ : ∃ sm, sm = shaF b := ⟨_, rfl⟩
     rw [← hsm] at E S
     have hck : chkK 2 sm b = true := by rw [hsm]; exact chkK_self (kind := 2) (.inr rfl) b
     rw [hlen] at hfit
     rw [hLe, hlen] at hNe
     rw [hlen] at hN
     refine zAa ?_
     refine zd E ?_; clear E a; intro a E
     refine wpList_nil ?_
     refine zAb hK ?_; clear hK K
     refine wp_block ?_
     refine wp_loop_ghost (fun (m : Nat) (a : Act) (w' : World) => ∃ (i : Nat), m = nn - i ∧ i ≤ nn ∧ St w0 [O] w' [[(b19, cel [.int .u64 sm.a, .int .u64 sm.b, .int .u64 sm.c, .int .u64 sm.d] 29)], O] ∧ Fr a 203 [(0, .int .i64 nn), (1, .int .i64 an), (2, .slice adb b.length cb), (19, ptr b19), (20, .int .i64 i)]) (nn - 0) ?_ ?_
     ·exact ⟨0, rfl, by omega, S.only sZ, E.keep (kE5 rfl rfl rfl rfl rfl)⟩
     clear E; clear a; (try clear S); rintro m a w ⟨i, rfl, hi, S, E⟩
     iterate 2 (refine wp_seq_k ?_; intro K hK)
     refine zAa ?_
     iterate 3 (refine zd E ?_; clear E a; intro a E)
     refine wpList_nil ?_
     refine zAb hK ?_; clear hK K
     refine zAs E rfl (fun hb => ?_) (fun hb => ?_)
     ·replace hb := Nrm.nrm hb
      refine wp_skip ?_
      refine zAb hK ?_; clear hK K
      refine wp_seq_k ?_; intro K hK
      refine wp_block ?_
      refine wp_seq_k ?_; intro K hK
      refine zAa ?_
      refine zd E ?_; clear E a; intro a E
      refine zAg E rfl rfl dZ rfl Tryz.func6 rfl yZ rfl (zIu nn oZ _) ?_
      rintro v157 w ⟨x, p, t, R, C, ys, Lv, vl, vk, CL, CK, vD, CD, vL, CLs, v4, v5, v6, v7, rfl, hGk, hCL, hCK, hCD, hCLs, hT⟩; clear E a; intro a E
      have S := S.call sZ hT; simp only [List.cons_append, List.nil_append] at S; have hU := hGk.up oZ; have hyl := hGk.len; have hnd := hGk.nd; have hnf := fun x hx => (hGk.dk x hx).1; obtain ⟨hC, _, _, _, hLv⟩ := hGk
      obtain ⟨adl, cl, rfl⟩ := hCL.slice
      obtain ⟨adD, cD, rfl⟩ := hCD.slice
      obtain ⟨gD, rfl⟩ := hCD.addr oZ
      have hwy : 3 ≤ ys.length ∧ ys.length ≤ 5 := by omega
      have hwy0 : 0 < ys.length := by omega
      have hiy : i < ys.length := by omega
      have hNy : an + (layP ys.length b).length ≤ ys.length * 32 := by rw [hyl, ← hNe]; exact hN
      have hcell : (ys.map fun y => ptr y.2)[i]? = some (ptr ys[i].2) := by rw [List.getElem?_map, List.getElem?_eq_getElem hiy]; rfl
      iterate 7 (refine zd E ?_; clear E a; intro a E)
      refine wpList_nil ?_
      refine zAb hK ?_; clear hK K
      iterate 2 (refine wp_seq_k ?_; intro K hK)
      refine zAa ?_
      iterate 2 (refine zd E ?_; clear E a; intro a E)
      refine wpList_nil ?_
      refine zAb hK ?_; clear hK K
      refine zAt E rfl (rfl) ?_
      refine wp_skip ?_
      refine zAb hK ?_; clear hK K
      refine wp_seq_k ?_; intro K hK
      refine zAa ?_
      iterate 2 (refine zd E ?_; clear E a; intro a E)
      refine zp E (by first | exact zAc (q := 3) E rfl rfl rfl | exact zAd (q := 3) E rfl rfl rfl) ?_; clear E a; intro a E
      iterate 3 (refine zd E ?_; clear E a; intro a E)
      refine zAg E rfl rfl dZ rfl Tryz.func8 rfl yZ rfl (zIs p R C hC ys 0 hU oZ hwy hnd Lv hLv t adl cl _ CL hCL oZ hnf an _ b O hb0 3 oZ (by rw [hyl]; exact hfit) hbb ⟨hNy, (zFn hwy hbb).2.1⟩ _ (S.hp.sel sZ)) ?_
      rintro v169 w ⟨rfl, R2, C2, Lv2, hC2, hLv2, hU2, hW2, hLi2, hT⟩; clear E a; intro a E
      have S := S.call sZ hT; simp only [List.cons_append, List.nil_append] at S
      refine zd E ?_; clear E a; intro a E
      refine wpList_nil ?_
      refine zAb hK ?_; clear hK K
      refine wp_seq_k ?_; intro K hK
      refine zAa ?_
      iterate 2 (refine zd E ?_; clear E a; intro a E)
      refine zp E (by first | exact zAc (q := 1) E rfl rfl rfl | exact zAd (q := 1) E rfl rfl rfl) ?_; clear E a; intro a E
      iterate 2 (refine zd E ?_; clear E a; intro a E)
      refine zp E (zAp (i := i) E rfl rfl rfl rfl rfl rfl oZ) ?_; clear E a; intro a E
      refine zp E (zAo E rfl rfl rfl (hCD.rd.cells (S.stab.at mZ) rfl i _ hcell)) ?_; clear E a; intro a E
      refine zAg E rfl rfl dZ rfl Tryz.func17 rfl yZ rfl (fail_in p R2 C2 hC2 ys 96 hU2 ys[i] (List.getElem_mem hiy) _ (S.hp.sel sZ)) ?_
      rintro v177 w ⟨C3, hC3, hT⟩; clear E a; intro a E
      have S := S.call1 sZ hT; have hU3 := (hU2.fail (List.getElem_mem hiy)).1; obtain ⟨hH3, hd3⟩ := hurt_fail hwy0 hU2 hnd hiy hW2 hLi2
      refine wpList_nil ?_
      refine zAb hK ?_; clear hK K
      refine wp_seq_k ?_; intro K hK
      obtain ⟨R3, hR3⟩ : ∃ R3, R3 = R2.fail (dkOf R2 ys[i].2) := ⟨_, rfl⟩
      rw [← hR3] at hC3 hU3 hH3 hd3
      refine zAw S (.ofL [(0, 0), (1, 0), (2, 0), (3, 0), (4, 0), (5, 0), (6, 0), (7, 0), (8, 3), (9, 2), (10, 2), (11, 2), (12, 2), (13, 2)]) yZ yZ ?_
      clear S; intro w S
      iterate 2 (refine zmd E ?_; clear E a; intro a E)
      refine zm E rfl (fun w h => by first | exact zAc (q := 3) E rfl rfl rfl | exact zAd (q := 3) E rfl rfl rfl) ?_; clear E a; intro a E
      iterate 4 (refine zmd E ?_; clear E a; intro a E)
      refine zm E rfl (fun w h => zBf (vs := [_, _, _, _]) E rfl rfl rfl (h.one mZ) rfl rfl) ?_; clear E a; intro a E
      refine zDd E rfl rfl rfl dZ rfl Tryz.func13 rfl yZ rfl (pRead_good p R3 C3 hC3 ys 96 hU3 oZ hwy hnd Lv2 hLv2 t adl cl _ CL hCL hH3.one O hL.1 an b hbb hNy 2 (.inr rfl) sm (hH3.finds hwy hbb hNy hU3 hiy hck) (hH3.goods hwy hbb hNy hU3 (hH3.dead hwy hbb hd3 hck)) _ (S.hp.sel sZ)) ?_
      rintro v187 w ⟨v9, Cg9, R4, C4, Lv4, rfl, hRd9, hC4, hLv4, hU4, hf4, hs4, hT⟩; clear E a; intro a E
      have S := S.call sZ hT; simp only [List.cons_append, List.nil_append] at S
      obtain ⟨ad9, c9, rfl⟩ := hRd9.slice
      refine zBp E rfl rfl rfl dZ (fun w => zCp E rfl rfl) ?_; clear E a; intro a E
      iterate 2 (refine zBp E rfl rfl rfl dZ (fun w => zDw E rfl rfl rfl) ?_; clear E a; intro a E)
      iterate 2 (refine zBp E rfl rfl rfl dZ (fun w => zCi E rfl rfl) ?_; clear E a; intro a E)
      refine zBd ?_
      refine zAb hK ?_; clear hK K
      refine wp_seq_k ?_; intro K hK
      refine zAa ?_
      iterate 3 (refine zd E ?_; clear E a; intro a E)
      refine zBg E (t := 192) rfl (rfl) (fun hb192 => ?_)
      iterate 2 (refine zyd E hb192 ?_; clear E a; intro a E)
      refine zp E (zAk E rfl rfl hb192 rfl) ?_; clear E a; intro a E
      refine zd E ?_; clear E a; intro a E
      refine zBg E (t := 196) rfl (rfl) (fun hb196 => ?_)
      refine zyd E hb196 ?_; clear E a; intro a E
      refine zy E hb196 (zCc E rfl rfl rfl rfl rfl (sl_of Cg9 (b := b) hRd9 rfl rfl) (S.stab.at mZ)) ?_; clear E a; intro a E
      refine zyd E hb196 ?_; clear E a; intro a E
      refine zy E hb196 (zCc E rfl rfl rfl rfl rfl hb0 (S.stab.at mZ)) ?_; clear E a; intro a E
      refine zyd E hb196 ?_; clear E a; intro a E
      refine zp E (zAk E rfl rfl hb196 rfl) ?_; clear E a; intro a E
      refine wpList_nil ?_
      refine zAb hK ?_; clear hK K
      refine zAt E rfl ((by simp)) ?_
      refine wp_skip ?_
      refine zAq ?_
      refine zAb hK ?_; clear hK K
      refine zAa ?_
      refine zd E ?_; clear E a; intro a E
      refine zp E (zAy E rfl rfl rfl (w_in oZ)) ?_; clear E a; intro a E
      refine zd E ?_; clear E a; intro a E
      refine wpList_nil ?_
      refine zAn ?_
      exact ⟨_, by omega, i + 1, rfl, by omega, S.only sZ, E.keep (kE5 rfl rfl rfl rfl rfl)⟩
     ·replace hb := Nrm.nrm hb
      refine wp_exit ?_
      refine zAl ?_; clear hK K
      refine zAl ?_
      refine zBi ?_
      refine zAb hK ?_; clear hK K
      refine wp_seq_k ?_; intro K hK
      refine zAa ?_
      refine zd E ?_; clear E a; intro a E
      refine wpList_nil ?_
      refine zAb hK ?_; clear hK K
      refine wp_ret ?_
      refine ret1 E rfl rfl ?_
      exact ⟨_, rfl, rfl, (S.only (Bs := [O]) sZ).tr⟩
   ·skip
    iterate 2 (refine zd E ?_; clear E a; intro a E)
    refine zp E (by first | exact zAc (q := 3) E rfl rfl rfl | exact zAd (q := 3) E rfl rfl rfl) ?_; clear E a; intro a E
    iterate 3 (refine zd E ?_; clear E a; intro a E)
    refine zAg E rfl rfl dZ rfl Tryz.func8 rfl yZ rfl (pWrite_no xs hw t adl cl _ at_ ha _ b O hb0 3 hfit _ mZ _ S.hp) ?_
    rintro v53 w ⟨rfl, hT⟩; clear E a; intro a E
    have S := S.all hT
    refine zd E ?_; clear E a; intro a E
    refine wpList_nil ?_
    refine zAb hK ?_; clear hK K
    refine wp_seq_k ?_; intro K hK
    replace E := E.keep (e' := [(0, _), (1, _), (2, _), (8, _), (11, _)]) (kE5 rfl rfl rfl rfl rfl)
    refine zAa ?_
    iterate 2 (refine zd E ?_; clear E a; intro a E)
    refine zp E (by first | exact zAc (q := 3) E rfl rfl rfl | exact zAd (q := 3) E rfl rfl rfl) ?_; clear E a; intro a E
    iterate 3 (refine zd E ?_; clear E a; intro a E)
    refine zAg E rfl rfl dZ rfl Tryz.func10 rfl yZ rfl (zGu t adl xs.length cl _ 32 _ mZ hw b.length _ S.hp) ?_
    rintro v60 w ⟨rfl, hT⟩; clear E a; intro a E
    have S := S.all hT
    refine zd E ?_; clear E a; intro a E
    refine wpList_nil ?_
    refine zAb hK ?_; clear hK K
    iterate 2 (refine wp_seq_k ?_; intro K hK)
    refine zAa ?_
    iterate 2 (refine zd E ?_; clear E a; intro a E)
    refine wpList_nil ?_
    refine zAb hK ?_; clear hK K
    refine zCk E rfl (rfl) ?_
    refine wp_seq_k ?_; intro K hK
    refine zAa ?_
    iterate 3 (refine zd E ?_; clear E a; intro a E)
    refine zAr E (t := 65) rfl (fun hb65 => ?_) (fun hb65 => ?_)
    ·have hb65n := hb65; replace hb65n := Nrm.nrm hb65n
     iterate 2 (refine zn E hb65 ?_; clear E a; intro a E)
     refine zp E (zAi E rfl rfl hb65 rfl) ?_; clear E a; intro a E
     refine zd E ?_; clear E a; intro a E
     iterate 9 (refine zn E rfl ?_; clear E a; intro a E)
     refine zp E (zAi E rfl rfl rfl rfl) ?_; clear E a; intro a E
     refine zd E ?_; clear E a; intro a E
     refine wpList_nil ?_
     refine zAb hK ?_; clear hK K
     refine wp_ret ?_
     refine zBc ?_; clear hK K
     refine ret1 E rfl rfl ?_
     exact ⟨_, rfl, by first | rfl | (have hb1 : 1 ≤ b.length ∧ b.length ≤ 1024 := (by have hm := (zEz hw b.length).2.2.1 oZ; unfold zDq at hm; split at hm <;> omega); have := fitP_not hw hfit oZ oZ oZ; simp only [decide_eq_true (show ((xs.length : Int) * 32 - zFf xs.length b.length) < at_ by omega)]), (S.only (Bs := [O]) sZ).tr⟩
    ·have hb65n := hb65; replace hb65n := Nrm.nrm hb65n
     iterate 2 (refine zyd E hb65 ?_; clear E a; intro a E)
     refine zp E (zAk E rfl rfl hb65 rfl) ?_; clear E a; intro a E
     refine zd E ?_; clear E a; intro a E
     refine zAr E (t := 69) rfl (fun hb69 => ?_) (fun hb69 => ?_)
     ·have hb69n := hb69; replace hb69n := Nrm.nrm hb69n
      iterate 9 (refine zn E hb69 ?_; clear E a; intro a E)
      refine zp E (zAi E rfl rfl hb69 rfl) ?_; clear E a; intro a E
      refine zd E ?_; clear E a; intro a E
      refine wpList_nil ?_
      refine zAb hK ?_; clear hK K
      refine wp_ret ?_
      refine zBc ?_; clear hK K
      refine ret1 E rfl rfl ?_
      exact ⟨_, rfl, by first | rfl | (have hb1 : 1 ≤ b.length ∧ b.length ≤ 1024 := (by have hm := (zEz hw b.length).2.2.1 oZ; unfold zDq at hm; split at hm <;> omega); have := fitP_not hw hfit oZ oZ oZ; simp only [decide_eq_true (show ((xs.length : Int) * 32 - zFf xs.length b.length) < at_ by omega)]), (S.only (Bs := [O]) sZ).tr⟩
     ·have hb69n := hb69; replace hb69n := Nrm.nrm hb69n
      iterate 3 (refine zyd E hb69 ?_; clear E a; intro a E)
      refine zy E hb69 (by first | exact zAc (q := 3) E rfl rfl rfl | exact zAd (q := 3) E rfl rfl rfl) ?_; clear E a; intro a E
      refine zyd E hb69 ?_; clear E a; intro a E
      refine zBy E rfl rfl rfl rfl hb69 ?_; refine zCe E rfl dZ rfl Tryz.func9 rfl yZ rfl (zIj t adl xs.length cl _ 32 _ mZ hw oZ _ S.hp) ?_
      rintro v75 w ⟨rfl, hT⟩; clear E a; intro a E
      have S := S.all hT
      refine zyd E hb69 ?_; clear E a; intro a E
      refine zy E hb69 (zCo E rfl rfl rfl (w_in oZ)) ?_; clear E a; intro a E
      refine zyd E hb69 ?_; clear E a; intro a E
      refine zp E (zAk E rfl rfl hb69 rfl) ?_; clear E a; intro a E
      refine zd E ?_; clear E a; intro a E
      refine wpList_nil ?_
      refine zAb hK ?_; clear hK K
      refine wp_ret ?_
      refine zBc ?_; clear hK K
      refine ret1 E rfl rfl ?_
      exact ⟨_, rfl, by first | rfl | (have hb1 : 1 ≤ b.length ∧ b.length ≤ 1024 := (by have hm := (zEz hw b.length).2.2.1 oZ; unfold zDq at hm; split at hm <;> omega); have := fitP_not hw hfit oZ oZ oZ; simp only [decide_eq_true (show ((xs.length : Int) * 32 - zFf xs.length b.length) < at_ by omega)]), (S.only (Bs := [O]) sZ).tr⟩
end Go.Proofs.YtpjidiaekifmbaaGreatDoor
namespace Go.Proofs.YtpjidiaekifmbaaGreatDoor
open Go.Sl
set_option maxRecDepth 10000
abbrev I64 (z : Int) : Prop := -9223372036854775808 ≤ z ∧ z ≤ 9223372036854775807
theorem rows7_row (W : World) (hL : Lay3 (old W)) (n : Int) (_ : I64 n) (at_ : Int) (ha : I64 at_) (v : Value) (b : List UInt8) (hO : Rd (old W) 1 v b.length (byt b)) (hl : b.length ≤ 140737488352000) (w0 : World) (H : Hp w0 [old W]) :
  Ret Tryz.prog 4 #[.int .i64 n, .int .i64 at_, v] w0 fun u w' => u = .bool true ∧ Trs w0 w' [old W] [old W] :=
 rows7_walk (old W) hL n at_ ha v b hO hl w0 H
end Go.Proofs.YtpjidiaekifmbaaGreatDoor
