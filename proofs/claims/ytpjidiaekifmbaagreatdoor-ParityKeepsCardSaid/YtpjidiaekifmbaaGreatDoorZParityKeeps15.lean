/-
  Texts put together (15).
-/
import Derived.Test.YtpjidiaekifmbaaGreatDoorZParityKeeps14
namespace Go.Proofs.YtpjidiaekifmbaaGreatDoor
open Go.Sl
set_option maxRecDepth 10000
section
variable (P : Nat) (R : Rk) (C : zAk) (hC : RkC P R C) (xs : List (Nat × Nat)) (k : Nat) (hU : Up R xs k) (hw : 3 ≤ xs.length ∧ xs.length ≤ 5) (Lv : zAk) (hLv : LvC (lvs xs) Lv) (x : Nat) (vD vL v4 v5 v6 v7 : Value) (CLs : zAk) (hCLs : Buf CLs 53 1 vL xs.length (xs.map fun y => ptr y.1))
 (t : Nat) (ad : Option Addr) (c : Nat) (vk : Value) (O : zAk) (hL : Lay3 O) (at_ : Nat) (v : Value) (b : List UInt8) (hb0 : Rd O 1 v b.length (byt b)) (hb : 1 ≤ b.length ∧ b.length ≤ 1024) (hN : at_ + (layP xs.length b).length ≤ xs.length * 32) (kind : Int) (s : Fs)
include hC hU hw hLv hCLs hL hb0 hb hN
set_option maxHeartbeats 4000000 in
theorem clash_ret (w0 : World) (H : Hp w0 [C, Lv, [(x, zDc P vD vL (ptr t) v4 v5 v6 v7)], [(t, ptcl (.slice ad xs.length c) vk 32)], CLs, O]) :
  Ret Tryz.prog 12 #[ptr x, .int .i64 at_, v, .int .i64 kind, s.agg] w0 fun u w' => ∃ (r : Bool) (Lv' : zAk), u = .bool r ∧ LvC (lvs xs) Lv' ∧
   (r = false → lsTo R xs at_ (layP xs.length b).length = none → (chkK kind s ((blkF xs.length 0 (rdTo R xs at_ (layP xs.length b).length)).take b.length) = true → (blkF xs.length 0 (rdTo R xs at_ (layP xs.length b).length)).take b.length = b) ∧
    ∀ col, col < xs.length → chkK kind s ((blkF xs.length 0 (rebF xs.length at_ col (rdTo R xs at_ (layP xs.length b).length))).take b.length) = true → (blkF xs.length 0 (rebF xs.length at_ col (rdTo R xs at_ (layP xs.length b).length))).take b.length = b) ∧
   Trs w0 w' [C, Lv, [(x, zDc P vD vL (ptr t) v4 v5 v6 v7)], [(t, ptcl (.slice ad xs.length c) vk 32)], CLs, O] [C, Lv', [(x, zDc P vD vL (ptr t) v4 v5 v6 v7)], [(t, ptcl (.slice ad xs.length c) vk 32)], CLs, O] := by
 have S := St.begin H
 obtain ⟨e1, e2, e3⟩ := zFz hw hb
 have hbb := hb
 obtain ⟨N, hNe⟩ : ∃ N, N = (layP xs.length b).length := ⟨_, rfl⟩
 rw [← hNe] at hN e1 e2 e3 ⊢
 have hz : List.replicate 128 (.int .u8 0) = byt z128 := (zFl 128).symm
 obtain ⟨adL, cL, rfl⟩ := hCLs.slice
 obtain ⟨gL, rfl⟩ := hCLs.addr oZ
 obtain ⟨adb, cb, rfl⟩ := hb0.slice
 refine enter5 172 Tryz.func12 rfl rfl dZ ?_; intro a E
 refine wp_seq_k ?_; intro K hK
 refine zAa ?_
 refine zAg rfl (zCc E S rfl rfl dZ rfl rfl ?_); clear E S a; intro a w b9 E S
 refine zd E ?_; clear E a; intro a E
 refine wpList_nil ?_
 refine zAb hK ?_; clear hK K
 refine wp_seq_k ?_; intro K hK
 refine zAa ?_
 iterate 2 (refine zd E ?_; clear E a; intro a E)
 refine zp E (by first | exact zAc (q := 2) E rfl rfl rfl | exact zAd (q := 2) E rfl rfl rfl) ?_; clear E a; intro a E
 iterate 3 (refine zd E ?_; clear E a; intro a E)
 refine wpList_nil ?_
 refine zAb hK ?_; clear hK K
 refine wp_seq_k ?_; intro K hK
 refine zAa ?_
 iterate 2 (refine zd E ?_; clear E a; intro a E)
 refine zp E (by first | exact zAc (q := 3) E rfl rfl rfl | exact zAd (q := 3) E rfl rfl rfl) ?_; clear E a; intro a E
 iterate 3 (refine zd E ?_; clear E a; intro a E)
 refine zAh E rfl rfl dZ rfl Tryz.func10 rfl yZ rfl (zFn t ad xs.length c vk 32 _ mZ hw b.length _ S.hp) ?_
 rintro v35 w ⟨rfl, hT⟩; clear E a; intro a E
 have S := S.all hT; rw [e1] at E
 refine zd E ?_; clear E a; intro a E
 refine wpList_nil ?_
 refine zAb hK ?_; clear hK K
 refine wp_seq_k ?_; intro K hK
 refine zAa ?_
 refine zd E ?_; clear E a; intro a E
 refine wpList_nil ?_
 refine zAb hK ?_; clear hK K
 iterate 2 (refine wp_seq_k ?_; intro K hK)
 refine zAa ?_
 refine zd E ?_; clear E a; intro a E
 refine wpList_nil ?_
 refine zAb hK ?_; clear hK K
 refine wp_block ?_
 refine wp_loop_ghost (fun (m : Nat) (a : Act) (w' : World) => ∃ (i : Nat) (CA Lv' : zAk) (va : Value), m = N - i ∧ i ≤ N ∧ LvC (lvs xs) Lv' ∧ (∀ j, j < i → zEn R xs (at_ + j) = false) ∧ Buf CA 5 1 va (128 * i) (byt (rdTo R xs at_ i).flatten) ∧ St w0 [C, Lv, [(x, zDc P vD (.slice (some ⟨gL, 0, none⟩) xs.length cL) (ptr t) v4 v5 v6 v7)], [(t, ptcl (.slice ad xs.length c) vk 32)], CLs, O] w' [CA, [(b9, cel [.int .u64 s.a, .int .u64 s.b, .int .u64 s.c, .int .u64 s.d] 29)], C, Lv', [(x, zDc P vD (.slice (some ⟨gL, 0, none⟩) xs.length cL) (ptr t) v4 v5 v6 v7)], [(t, ptcl (.slice ad xs.length c) vk 32)], CLs, O] ∧ Fr a 172 [(0, ptr x), (1, .int .i64 at_), (2, .slice adb b.length cb), (3, .int .i64 kind), (9, ptr b9), (11, .int .i64 xs.length), (12, .int .i64 N), (13, va), (14, .int .i64 i)]) (N - 0) ?_ ?_
 ·exact ⟨0, [], Lv, _, rfl, by omega, hLv, fun j h => absurd h oZ, Buf.nil _ _, S.addNil.only sZ, E.keep (kE9 rfl rfl rfl rfl rfl rfl rfl rfl rfl)⟩
 clear E; clear a; (try clear S); rintro m a w ⟨i, CA, Lv', va, rfl, hi, hLv', hwell, hCA, S, E⟩
 iterate 2 (refine wp_seq_k ?_; intro K hK)
 refine zAa ?_
 iterate 3 (refine zd E ?_; clear E a; intro a E)
 refine wpList_nil ?_
 refine zAb hK ?_; clear hK K
 refine zAt E rfl (fun hb => ?_) (fun hb => ?_)
 ·replace hb := Nrm.nrm hb
  refine wp_skip ?_
  refine zAb hK ?_; clear hK K
  refine wp_seq_k ?_; intro K hK
  refine wp_block ?_
  refine wp_seq_k ?_; intro K hK
  have hil : i < N := by omega
  obtain ⟨hm, hat⟩ := zDs (xs := xs) oZ (at_ + i)
  have hml := Nat.mod_lt (at_ + i) (show 0 < xs.length by omega)
  have hdv : (at_ + i) / xs.length < 32 := (Nat.div_lt_iff_lt_mul oZ).2 (by rw [Nat.mul_comm]; omega)
  have hatl : (lvs xs)[(at_ + i) % xs.length]? = some (some (onX xs (at_ + i))) := by rw [List.getElem?_map, hat]; rfl
  have hcell : (xs.map fun y => ptr y.1)[(at_ + i) % xs.length]? = some (ptr (onX xs (at_ + i)).1) := by rw [List.getElem?_map, hat]; rfl
  obtain ⟨xd, hxd⟩ : ∃ xd, xd = (at_ + i) / xs.length := ⟨_, rfl⟩
  obtain ⟨xm, hxm⟩ : ∃ xm, xm = (at_ + i) % xs.length := ⟨_, rfl⟩
  rw [← hxd] at hdv
  rw [← hxm] at hml hatl hcell
  have hsec : secP R xs (at_ + i) = secB (dkOf R (onX xs (at_ + i)).2).now (274 + xd) := by unfold secP; rw [hxd]
  have hnow := hU.nw _ hm
  have hrd := lfRead_on hU.on.off (y := dkOf R (onX xs (at_ + i)).2) (by rw [hU.nw _ hm, hU.pl _ hm]) (at_ := (xd : Int)) (n := 1) (by unfold zIu; rw [hU.size _ hm]; omega)
  rw [show ((274 + (xd : Int)).toNat * 128) = 128 * (274 + xd) by omega, show List.take (1 * 128) (List.drop (128 * (274 + xd)) (dkOf R (onX xs (at_ + i)).2).now) = secP R xs (at_ + i) by rw [hsec]; rfl, show ((1 : Nat) : Int) = 1 from rfl] at hrd
  have hsl : (secP R xs (at_ + i)).length = 128 := by rw [hsec]; exact zCp (by rw [hnow]; omega)
  have hadd : IntKind.i64.wrap ((at_ : Int) + i) = ((at_ + i : Nat) : Int) := by rw [show (at_ : Int) + i = ((at_ + i : Nat) : Int) by omega]; exact w_in oZ
  refine zAw S (.ofL [(0, 0), (1, 0), (2, 0), (3, 0), (4, 0), (5, 0), (6, 0), (7, 0), (8, 0), (9, 0), (10, 0), (11, 0), (12, 0), (13, 0), (14, 0), (15, 0), (16, 3), (17, 2), (18, 2), (19, 2), (20, 2), (21, 2)]) yZ yZ ?_
  clear S; intro w S
  iterate 2 (refine zmd E ?_; clear E a; intro a E)
  refine zm E rfl (fun w h => by first | exact zAc (q := 2) E rfl rfl rfl | exact zAd (q := 2) E rfl rfl rfl) ?_; clear E a; intro a E
  iterate 3 (refine zmd E ?_; clear E a; intro a E)
  refine zm E rfl (fun w h => zBc E rfl rfl rfl (hadd)) ?_; clear E a; intro a E
  refine zmd E ?_; clear E a; intro a E
  refine zm E rfl (fun w h => zFs E rfl rfl rfl (by first | decide | omega) (show ((at_ + i : Nat) : Int).tmod xs.length = ((xm : Nat) : Int) by rw [zGt, ← hxm])) ?_; clear E a; intro a E
  refine zm E rfl (fun w h => zAr (i := xm) E rfl rfl rfl rfl rfl rfl oZ) ?_; clear E a; intro a E
  refine zm E rfl (fun w h => zAq E rfl rfl rfl (hCLs.rd.cells (h.at mZ) rfl xm _ hcell)) ?_; clear E a; intro a E
  iterate 2 (refine zmd E ?_; clear E a; intro a E)
  refine zm E rfl (fun w h => zBc E rfl rfl rfl (hadd)) ?_; clear E a; intro a E
  refine zmd E ?_; clear E a; intro a E
  refine zm E rfl (fun w h => zFr E rfl rfl rfl (by first | decide | omega) (show IntKind.i64.wrap (((at_ + i : Nat) : Int).tdiv xs.length) = ((xd : Nat) : Int) by rw [zIz, ← hxd]; exact w_in oZ)) ?_; clear E a; intro a E
  rcases hfd : zEn R xs (at_ + i) with _ | _
  ·skip
   rw [show (dkOf R (onX xs (at_ + i)).2).failed = false from hfd, if_neg (by simp)] at hrd
   refine zCz E rfl rfl rfl dZ rfl Tryz.func15 rfl yZ rfl (zKe P R C hC (lvs xs) Lv' hLv' xm (onX xs (at_ + i)) hatl (hU.has _ hm) xd 1 oZ _ (S.hp.sel sZ)) ?_
   rintro v58 w ⟨vb, Cb, Lv2, rfl, hCb, hLv2, hT⟩; clear E a; intro a E
   have S := S.call3 sZ hT; rw [hrd] at E hCb; replace hCb : Buf Cb 5 1 vb 128 (byt (secP R xs (at_ + i))) := (by rw [← hsl]; exact hCb); obtain ⟨adc, cpc, rfl⟩ := hCb.slice
   refine zBa E rfl rfl rfl dZ (fun w => zBs E rfl rfl) ?_; clear E a; intro a E
   iterate 2 (refine zBa E rfl rfl rfl dZ (fun w => zDh E rfl rfl rfl) ?_; clear E a; intro a E)
   iterate 2 (refine zBa E rfl rfl rfl dZ (fun w => zBm E rfl rfl) ?_; clear E a; intro a E)
   refine zAz ?_
   refine zAb hK ?_; clear hK K
   iterate 2 (refine wp_seq_k ?_; intro K hK)
   refine zAa ?_
   iterate 3 (refine zd E ?_; clear E a; intro a E)
   refine zBj E (t := 63) rfl (rfl) (fun hb63 => ?_)
   iterate 3 (refine zyd E hb63 ?_; clear E a; intro a E)
   refine zp E (zAi E rfl rfl hb63 rfl) ?_; clear E a; intro a E
   refine wpList_nil ?_
   refine zAb hK ?_; clear hK K
   refine zAv E rfl (rfl) ?_
   refine wp_skip ?_
   refine zAb hK ?_; clear hK K
   refine zAa ?_
   iterate 2 (refine zd E ?_; clear E a; intro a E)
   refine zAg rfl (zBn (by' := 1) E S rfl rfl dZ rfl rfl hCA pZ (hCb.rd.src (S.stab.at mZ) rfl) rfl rfl rfl rfl rfl rfl (by simp only [maxLen]; omega) oZ ?_); clear E S a; intro a w v70 C70 E S hB70
   refine zd E ?_; clear E a; intro a E
   refine wpList_nil ?_
   refine zAs ?_
   refine zAb hK ?_; clear hK K
   refine zAa ?_
   refine zd E ?_; clear E a; intro a E
   refine zp E (zBc E rfl rfl rfl (w_in oZ)) ?_; clear E a; intro a E
   refine zd E ?_; clear E a; intro a E
   refine wpList_nil ?_
   refine zAn ?_
   refine ⟨_, by omega, i + 1, C70, Lv2, v70, rfl, by omega, hLv2, fun j hj => ?_, ?_, S.only sZ, E.keep (kE9 rfl rfl rfl rfl rfl rfl rfl rfl rfl)⟩
   ·rcases Nat.lt_or_ge j i with q | q
    ·exact hwell j q
    ·rw [show j = i by omega]; exact hfd
   ·rw [zJa, hfd]; simp only [Bool.false_eq_true, if_false]
    rw [flat_take_succ, zCa, show 128 * (i + 1) = 128 * i + 128 by omega]; exact hB70
  ·skip
   rw [show (dkOf R (onX xs (at_ + i)).2).failed = true from hfd, if_pos rfl] at hrd
   refine zCz E rfl rfl rfl dZ rfl Tryz.func15 rfl yZ rfl (zKe P R C hC (lvs xs) Lv' hLv' xm (onX xs (at_ + i)) hatl (hU.has _ hm) xd 1 oZ _ (S.hp.sel sZ)) ?_
   rintro v58 w ⟨vb, Cb, Lv2, rfl, hCb, hLv2, hT⟩; clear E a; intro a E
   have S := S.call3 sZ hT; rw [hrd] at E hCb; skip
   refine zBa E rfl rfl rfl dZ (fun w => zBs E rfl rfl) ?_; clear E a; intro a E
   iterate 2 (refine zBa E rfl rfl rfl dZ (fun w => zDh E rfl rfl rfl) ?_; clear E a; intro a E)
   iterate 2 (refine zBa E rfl rfl rfl dZ (fun w => zBm E rfl rfl) ?_; clear E a; intro a E)
   refine zAz ?_
   refine zAb hK ?_; clear hK K
   iterate 2 (refine wp_seq_k ?_; intro K hK)
   refine zAa ?_
   iterate 3 (refine zd E ?_; clear E a; intro a E)
   refine zBy E (t := 63) rfl (rfl) (fun hb63 => ?_)
   iterate 3 (refine zn E hb63 ?_; clear E a; intro a E)
   refine zp E (zAf E rfl rfl hb63 rfl) ?_; clear E a; intro a E
   refine wpList_nil ?_
   refine zAb hK ?_; clear hK K
   refine zCj E rfl rfl ?_
   refine wp_seq_k ?_; intro K hK
   refine zAa ?_
   refine zd E ?_; clear E a; intro a E
   refine wpList_nil ?_
   refine zAb hK ?_; clear hK K
   refine wp_ret ?_
   refine zAu ?_; clear hK K
   refine zDg ?_
   refine zAu ?_; clear hK K
   refine zAu ?_
   refine zDg ?_
   refine zAu ?_; clear hK K
   refine ret1 E rfl rfl ?_
   exact ⟨_, rfl, false, Lv2, rfl, hLv2, fun _ hno => (by rw [zGj hno i hil] at hfd; cases hfd), (S.only sZ).tr⟩
 ·replace hb := Nrm.nrm hb
  refine wp_exit ?_
  refine zAm ?_; clear hK K
  refine zAm ?_
  refine zBk ?_
  refine zAb hK ?_; clear hK K
  iterate 2 (refine wp_seq_k ?_; intro K hK)
  obtain rfl : i = N := by omega
  obtain ⟨ss, hss⟩ : ∃ ss, ss = rdTo R xs at_ i := ⟨_, rfl⟩
  have hsl : ss.length = i := by rw [hss, zDv]
  have hdv : ∀ j, j < i → (at_ + j) / xs.length < 32 := fun j hj => (Nat.div_lt_iff_lt_mul oZ).2 (by rw [Nat.mul_comm]; omega)
  have hSs : Secs ss := fun t ht => by
   rw [hss] at ht
   obtain ⟨j, hj, rfl⟩ := List.mem_map.1 ht
   rw [List.mem_range] at hj
   rw [hwell j hj]
   exact secP_len hU oZ (hdv j hj)
  rw [← hss] at hCA
  obtain ⟨adA, cA, rfl⟩ := hCA.slice
  obtain ⟨gA, rfl⟩ := hCA.addr oZ
  have hcapA := hCA.cap_le
  obtain ⟨N, rfl⟩ : ∃ N, N = i := ⟨_, rfl⟩
  have hN12 : N ≤ 12 := e2
  refine zAa ?_
  refine zd E ?_; clear E a; intro a E
  refine wpList_nil ?_
  refine zAb hK ?_; clear hK K
  refine wp_block ?_
  refine wp_loop_ghost (fun (m : Nat) (a : Act) (w' : World) => ∃ (cI : Nat), m = xs.length + 1 - cI ∧ cI ≤ xs.length + 1 ∧ (∀ c, c < cI → chkK kind s ((blkF xs.length 0 (colS xs.length at_ ss c)).take b.length) = true → (blkF xs.length 0 (colS xs.length at_ ss c)).take b.length = b) ∧ St w0 [C, Lv, [(x, zDc P vD (.slice (some ⟨gL, 0, none⟩) xs.length cL) (ptr t) v4 v5 v6 v7)], [(t, ptcl (.slice ad xs.length c) vk 32)], CLs, O] w' [CA, [(b9, cel [.int .u64 s.a, .int .u64 s.b, .int .u64 s.c, .int .u64 s.d] 29)], C, Lv', [(x, zDc P vD (.slice (some ⟨gL, 0, none⟩) xs.length cL) (ptr t) v4 v5 v6 v7)], [(t, ptcl (.slice ad xs.length c) vk 32)], CLs, O] ∧ Fr a 172 [(1, .int .i64 at_), (2, .slice adb b.length cb), (3, .int .i64 kind), (9, ptr b9), (11, .int .i64 xs.length), (12, .int .i64 N), (13, .slice (some ⟨gA, 0, none⟩) (128 * N) cA), (17, .int .i64 ((cI : Int) - 1))]) (xs.length + 1 - 0) ?_ ?_
  ·exact ⟨0, rfl, by omega, fun c h => absurd h oZ, S, E.keep (kE8 rfl rfl rfl rfl rfl rfl rfl rfl)⟩
  clear E; clear a; (try clear S); rintro m a w ⟨cI, rfl, hcI, hdone, S, E⟩
  iterate 2 (refine wp_seq_k ?_; intro K hK)
  refine zAa ?_
  iterate 3 (refine zd E ?_; clear E a; intro a E)
  refine wpList_nil ?_
  refine zAb hK ?_; clear hK K
  refine zAt E rfl (fun hb => ?_) (fun hb => ?_)
  ·replace hb := Nrm.nrm hb
   refine wp_skip ?_
   refine zAb hK ?_; clear hK K
   refine wp_seq_k ?_; intro K hK
   refine wp_block ?_
   refine wp_seq_k ?_; intro K hK
   have hcl : cI < xs.length + 1 := by omega
   obtain ⟨T, hT⟩ : ∃ T, T = colS xs.length at_ ss cI := ⟨_, rfl⟩
   have hTl : T.length = N := by rw [hT, colS_len, hsl]
   have hTs : Secs T := by rw [hT]; exact colS_secs hSs cI
   have S := S.addNil
   refine zAa ?_
   refine zd E ?_; clear E a; intro a E
   refine wpList_nil ?_
   refine zAb hK ?_; clear hK K
   iterate 2 (refine wp_seq_k ?_; intro K hK)
   refine zAa ?_
   refine zd E ?_; clear E a; intro a E
   refine wpList_nil ?_
   refine zAb hK ?_; clear hK K
   refine wp_block ?_
   refine wp_loop_ghost (fun (m : Nat) (a : Act) (w' : World) => ∃ (i : Nat) (Co : zAk) (vo : Value), m = N - i ∧ i ≤ N ∧ Buf Co 5 1 vo (blkF xs.length 0 (T.take i)).length (byt (blkF xs.length 0 (T.take i))) ∧ St w0 [C, Lv, [(x, zDc P vD (.slice (some ⟨gL, 0, none⟩) xs.length cL) (ptr t) v4 v5 v6 v7)], [(t, ptcl (.slice ad xs.length c) vk 32)], CLs, O] w' [Co, CA, [(b9, cel [.int .u64 s.a, .int .u64 s.b, .int .u64 s.c, .int .u64 s.d] 29)], C, Lv', [(x, zDc P vD (.slice (some ⟨gL, 0, none⟩) xs.length cL) (ptr t) v4 v5 v6 v7)], [(t, ptcl (.slice ad xs.length c) vk 32)], CLs, O] ∧ Fr a 172 [(1, .int .i64 at_), (2, .slice adb b.length cb), (3, .int .i64 kind), (9, ptr b9), (11, .int .i64 xs.length), (12, .int .i64 N), (13, .slice (some ⟨gA, 0, none⟩) (128 * N) cA), (17, .int .i64 ((cI : Int) - 1)), (18, vo), (19, .int .i64 i)]) (N - 0) ?_ ?_
   ·exact ⟨0, [], _, rfl, by omega, Buf.nil _ _, S.only sZ, E.keep (kE10 rfl rfl rfl rfl rfl rfl rfl rfl rfl rfl)⟩
   clear E; clear a; (try clear S); rintro m a w ⟨i, Co, vo, rfl, hi, hCo, S, E⟩
   iterate 2 (refine wp_seq_k ?_; intro K hK)
   refine zAa ?_
   iterate 3 (refine zd E ?_; clear E a; intro a E)
   refine wpList_nil ?_
   refine zAb hK ?_; clear hK K
   refine zAt E rfl (fun hb => ?_) (fun hb => ?_)
   ·replace hb := Nrm.nrm hb
    refine wp_skip ?_
    refine zAb hK ?_; clear hK K
    refine wp_seq_k ?_; intro K hK
    refine wp_block ?_
    iterate 2 (refine wp_seq_k ?_; intro K hK)
    have hil : i < N := by omega
    have hilT : i < T.length := by omega
    obtain ⟨im, him⟩ : ∃ im, im = i % xs.length := ⟨_, rfl⟩
    have hbs := zHx xs.length hilT
    have hble := zLl xs.length 0 (T.take i) (hTs.take i)
    rw [List.length_take, Nat.min_eq_left oZ] at hble
    rw [← him] at hbs
    refine zAa ?_
    iterate 2 (refine zd E ?_; clear E a; intro a E)
    refine zp E (zFs E rfl rfl rfl (by first | decide | omega) (show (i : Int).tmod xs.length = ((im : Nat) : Int) by rw [zGt, ← him])) ?_; clear E a; intro a E
    refine zd E ?_; clear E a; intro a E
    refine wpList_nil ?_
    refine zAb hK ?_; clear hK K
    refine zAt E rfl (fun hb => ?_) (fun hb => ?_)
    ·replace hb := Nrm.nrm hb
     have h0 : im = 0 := oZ
     refine wp_exit ?_
     refine zAm ?_; clear hK K
     refine zBk ?_
     refine zAb hK ?_; clear hK K
     refine zAa ?_
     refine zd E ?_; clear E a; intro a E
     refine zp E (zBc E rfl rfl rfl (w_in oZ)) ?_; clear E a; intro a E
     refine zd E ?_; clear E a; intro a E
     refine wpList_nil ?_
     refine zAn ?_
     rw [if_pos h0, List.append_nil] at hbs
     exact ⟨_, by omega, i + 1, Co, vo, rfl, by omega, by rw [hbs]; exact hCo, S, E.keep (kE10 rfl rfl rfl rfl rfl rfl rfl rfl rfl rfl)⟩
    ·replace hb := Nrm.nrm hb
     have h0 : im ≠ 0 := oZ
     refine wp_skip ?_
     refine zAb hK ?_; clear hK K
     refine wp_seq_k ?_; intro K hK
     have hils : i < ss.length := by omega
     have hm1 : IntKind.i64.wrap ((128 : Int) * i) = ((128 * i : Nat) : Int) := by rw [show (128 : Int) * i = ((128 * i : Nat) : Int) by omega]; exact w_in oZ
     have hm2 : IntKind.i64.wrap (((128 * i : Nat) : Int) + 128) = ((128 * i + 128 : Nat) : Int) := by rw [show ((128 * i : Nat) : Int) + 128 = ((128 * i + 128 : Nat) : Int) by omega]; exact w_in oZ
     obtain ⟨ad5, hs5, hR5⟩ := hCA.rd.cutc (lo := 128 * i) (hi := 128 * i + 128) oZ oZ oZ
     rw [show 128 * i + 128 - 128 * i = 128 by omega, Nat.mul_one, Nat.mul_one, zEt, zEl, flat_cut hSs hils] at hR5
     rw [show 128 * i + 128 - 128 * i = 128 by omega] at hs5
     have S := S.addNil
     refine zAa ?_
     iterate 2 (refine zd E ?_; clear E a; intro a E)
     refine zp E (zDa E rfl rfl rfl (hm1)) ?_; clear E a; intro a E
     refine zd E ?_; clear E a; intro a E
     refine zp E (zDa E rfl rfl rfl (hm1)) ?_; clear E a; intro a E
     refine zp E (zBc E rfl rfl rfl (hm2)) ?_; clear E a; intro a E
     refine zp E (zFj (s := 1) (lo := 128 * i) (hi := 128 * i + 128) E rfl rfl rfl rfl rfl rfl rfl oZ oZ oZ) ?_; clear E a; intro a E
     rw [hs5] at E
     refine zAg rfl (zBn (by' := 1) E S rfl rfl dZ rfl rfl (Buf.nil 5 1) pZ (hR5.src (S.stab.at mZ) rfl) rfl rfl rfl rfl rfl rfl (by simp only [maxLen]; omega) oZ ?_); clear E S a; intro a w v92 C92 E S hB92
     rw [Nat.zero_add, List.nil_append] at hB92
     refine zd E ?_; clear E a; intro a E
     refine wpList_nil ?_
     refine zAb hK ?_; clear hK K
     iterate 2 (refine wp_seq_k ?_; intro K hK)
     obtain ⟨xm, hxm⟩ : ∃ xm, xm = (at_ + i) % xs.length := ⟨_, rfl⟩
     have hadd : IntKind.i64.wrap ((at_ : Int) + i) = ((at_ + i : Nat) : Int) := by rw [show (at_ : Int) + i = ((at_ + i : Nat) : Int) by omega]; exact w_in oZ
     obtain ⟨tg, htg⟩ : ∃ tg, tg = T[i] := ⟨_, rfl⟩
     have hta : tg = if xm + 1 = cI then xr (xall ((ss.drop (i / xs.length * xs.length)).take xs.length)) ss[i] else ss[i] := by rw [htg, hxm]; subst hT; exact colS_at hils
     have htl : tg.length = 128 := by rw [htg]; exact hTs _ (List.getElem_mem hilT)
     rw [← htg] at hbs
     refine zAa ?_
     iterate 2 (refine zd E ?_; clear E a; intro a E)
     refine zp E (zBc E rfl rfl rfl (hadd)) ?_; clear E a; intro a E
     refine zd E ?_; clear E a; intro a E
     refine zp E (zFs E rfl rfl rfl (by first | decide | omega) (show ((at_ + i : Nat) : Int).tmod xs.length = ((xm : Nat) : Int) by rw [zGt, ← hxm])) ?_; clear E a; intro a E
     iterate 2 (refine zd E ?_; clear E a; intro a E)
     refine wpList_nil ?_
     refine zAb hK ?_; clear hK K
     refine zDm (fun (a : Act) (w' : World) => ∃ (Cc : zAk) (vc : Value), Rd Cc 1 vc 128 (byt tg) ∧ St w0 [C, Lv, [(x, zDc P vD (.slice (some ⟨gL, 0, none⟩) xs.length cL) (ptr t) v4 v5 v6 v7)], [(t, ptcl (.slice ad xs.length c) vk 32)], CLs, O] w' [Cc, Co, CA, [(b9, cel [.int .u64 s.a, .int .u64 s.b, .int .u64 s.c, .int .u64 s.d] 29)], C, Lv', [(x, zDc P vD (.slice (some ⟨gL, 0, none⟩) xs.length cL) (ptr t) v4 v5 v6 v7)], [(t, ptcl (.slice ad xs.length c) vk 32)], CLs, O] ∧ Fr a 172 [(1, .int .i64 at_), (2, .slice adb b.length cb), (3, .int .i64 kind), (9, ptr b9), (11, .int .i64 xs.length), (12, .int .i64 N), (13, .slice (some ⟨gA, 0, none⟩) (128 * N) cA), (17, .int .i64 ((cI : Int) - 1)), (18, vo), (19, .int .i64 i), (20, vc)]) ?_ ?_
     ·skip
      refine zAt E rfl (fun hb => ?_) (fun hb => ?_)
      ·replace hb := Nrm.nrm hb
       have hc : xm + 1 = cI := oZ
       refine wp_seq_k ?_; intro K hK
       refine zAa ?_
       refine zAg rfl (zCv (by' := 1) E S rfl rfl dZ rfl rfl rfl rfl rfl rfl rfl rfl rfl rfl rfl (k := 128) (mkb oZ) (by simp only [maxLen]; omega) ?_); clear E S a; intro a w g100 E S
       rw [hz] at S
       refine zd E ?_; clear E a; intro a E
       refine wpList_nil ?_
       refine zAb hK ?_; clear hK K
       refine wp_seq_k ?_; intro K hK
       have hdi := Nat.div_mul_le_self i xs.length
       have hdl := Nat.div_le_self i xs.length
       obtain ⟨lo, hlo⟩ : ∃ lo, lo = i / xs.length * xs.length := ⟨_, rfl⟩
       have hlow : i < lo + xs.length := by
        have h1 := Nat.div_add_mod i xs.length
        have h2 := Nat.mod_lt i (show 0 < xs.length by omega)
        rw [hlo, Nat.mul_comm]; omega
       obtain ⟨rw_, hrw⟩ : ∃ rw_, rw_ = rowS xs.length ss i := ⟨_, rfl⟩
       have hrl : rw_.length = min N (lo + xs.length) - lo := by rw [hrw, rowS_len, hsl, ← hlo]
       have hrs : Secs rw_ := by rw [hrw]; exact rowS_secs hSs i
       have hra : xall rw_ = tg := by rw [hrw, rowS_all hSs oZ hils, hta, if_pos hc]
       have hrat : ∀ q (h : q < rw_.length), rw_[q] = if lo + q = i then z128 else ss[lo + q]'oZ := fun q h => by subst hrw; simp only [hlo]; exact rowS_at h
       rw [← hlo] at hdi
       obtain ⟨xq, hxq⟩ : ∃ xq, xq = i / xs.length := ⟨_, rfl⟩
       rw [← hxq] at hdl hlo
       have hdiv : IntKind.i64.wrap ((i : Int).tdiv xs.length) = (xq : Int) := by rw [zIz, ← hxq]; exact w_in oZ
       have hmul : IntKind.i64.wrap ((xq : Int) * xs.length) = (lo : Int) := by rw [← Int.natCast_mul, ← hlo]; exact w_in oZ
       have hhi : IntKind.i64.wrap ((lo : Int) + xs.length) = ((lo + xs.length : Nat) : Int) := by rw [show (lo : Int) + xs.length = ((lo + xs.length : Nat) : Int) by omega]; exact w_in oZ
       obtain ⟨hi2, hhi2⟩ : ∃ hi2, hi2 = min N (lo + xs.length) := ⟨_, rfl⟩
       rw [← hhi2] at hrl
       refine zAa ?_
       iterate 2 (refine zd E ?_; clear E a; intro a E)
       refine zp E (zFr E rfl rfl rfl (by first | decide | omega) (hdiv)) ?_; clear E a; intro a E
       refine zd E ?_; clear E a; intro a E
       refine zp E (zDa E rfl rfl rfl (hmul)) ?_; clear E a; intro a E
       refine zd E ?_; clear E a; intro a E
       refine wpList_nil ?_
       refine zAb hK ?_; clear hK K
       refine wp_block ?_
       refine wp_loop_ghost (fun (m : Nat) (a : Act) (w' : World) => ∃ (q : Nat), m = hi2 - (lo + q) ∧ lo + q ≤ hi2 ∧ St w0 [C, Lv, [(x, zDc P vD (.slice (some ⟨gL, 0, none⟩) xs.length cL) (ptr t) v4 v5 v6 v7)], [(t, ptcl (.slice ad xs.length c) vk 32)], CLs, O] w' [[(g100, cel (byt (xall (rw_.take q))) 5)], Co, CA, [(b9, cel [.int .u64 s.a, .int .u64 s.b, .int .u64 s.c, .int .u64 s.d] 29)], C, Lv', [(x, zDc P vD (.slice (some ⟨gL, 0, none⟩) xs.length cL) (ptr t) v4 v5 v6 v7)], [(t, ptcl (.slice ad xs.length c) vk 32)], CLs, O] ∧ Fr a 172 [(1, .int .i64 at_), (2, .slice adb b.length cb), (3, .int .i64 kind), (9, ptr b9), (11, .int .i64 xs.length), (12, .int .i64 N), (13, .slice (some ⟨gA, 0, none⟩) (128 * N) cA), (17, .int .i64 ((cI : Int) - 1)), (18, vo), (19, .int .i64 i), (20, .slice (some ⟨g100, 0, none⟩) 128 128), (21, .int .i64 ((lo + q : Nat) : Int))]) (hi2 - lo) ?_ ?_
       ·exact ⟨0, rfl, by omega, S.only sZ, E.keep (kE12 rfl rfl rfl rfl rfl rfl rfl rfl rfl rfl rfl rfl)⟩
       clear E; clear a; (try clear S); rintro m a w ⟨q, rfl, hq, S, E⟩
       iterate 2 (refine wp_seq_k ?_; intro K hK)
       refine zDm (fun (a : Act) (w' : World) => ∃ bt : Bool, (bt = true ↔ lo + q < hi2) ∧ St w0 [C, Lv, [(x, zDc P vD (.slice (some ⟨gL, 0, none⟩) xs.length cL) (ptr t) v4 v5 v6 v7)], [(t, ptcl (.slice ad xs.length c) vk 32)], CLs, O] w' [[(g100, cel (byt (xall (rw_.take q))) 5)], Co, CA, [(b9, cel [.int .u64 s.a, .int .u64 s.b, .int .u64 s.c, .int .u64 s.d] 29)], C, Lv', [(x, zDc P vD (.slice (some ⟨gL, 0, none⟩) xs.length cL) (ptr t) v4 v5 v6 v7)], [(t, ptcl (.slice ad xs.length c) vk 32)], CLs, O] ∧ Fr a 172 [(1, .int .i64 at_), (2, .slice adb b.length cb), (3, .int .i64 kind), (9, ptr b9), (11, .int .i64 xs.length), (12, .int .i64 N), (13, .slice (some ⟨gA, 0, none⟩) (128 * N) cA), (17, .int .i64 ((cI : Int) - 1)), (18, vo), (19, .int .i64 i), (20, .slice (some ⟨g100, 0, none⟩) 128 128), (21, .int .i64 ((lo + q : Nat) : Int)), (119, .bool bt)]) ?_ ?_
       ·skip
        refine zAa ?_
        iterate 4 (refine zd E ?_; clear E a; intro a E)
        refine zAo E (t := 109) rfl (fun hb109 => ?_) (fun hb109 => ?_)
        ·have hb109n := hb109; replace hb109n := Nrm.nrm hb109n
         iterate 3 (refine zyd E hb109 ?_; clear E a; intro a E)
         refine zy E hb109 (zFr E rfl rfl rfl (by first | decide | omega) (hdiv)) ?_; clear E a; intro a E
         refine zyd E hb109 ?_; clear E a; intro a E
         refine zy E hb109 (zDa E rfl rfl rfl (hmul)) ?_; clear E a; intro a E
         refine zyd E hb109 ?_; clear E a; intro a E
         refine zy E hb109 (zBc E rfl rfl rfl (hhi)) ?_; clear E a; intro a E
         refine zyd E hb109 ?_; clear E a; intro a E
         refine zp E (zAf E rfl rfl hb109 rfl) ?_; clear E a; intro a E
         refine wpList_nil ?_
         refine zAy ?_
         exact ⟨_, by first | (simp; omega) | (simp only [decide_eq_true_eq]; omega), S, E.keep (kE13 rfl rfl rfl rfl rfl rfl rfl rfl rfl rfl rfl rfl rfl)⟩
        ·have hb109n := hb109; replace hb109n := Nrm.nrm hb109n
         iterate 9 (refine zn E hb109 ?_; clear E a; intro a E)
         refine zp E (zAi E rfl rfl hb109 rfl) ?_; clear E a; intro a E
         refine wpList_nil ?_
         refine zAy ?_
         exact ⟨_, by first | (simp; omega) | (simp only [decide_eq_true_eq]; omega), S, E.keep (kE13 rfl rfl rfl rfl rfl rfl rfl rfl rfl rfl rfl rfl rfl)⟩
       ·clear E S a; intro a w J; obtain ⟨bt, hbt, S, E⟩ := J
        refine zAb hK ?_; clear hK K
        refine zAt E rfl (fun hb => ?_) (fun hb => ?_)
        ·replace hb := Nrm.nrm hb
         have hql : lo + q < hi2 := hbt.1 hb
         refine wp_skip ?_
         refine zAb hK ?_; clear hK K
         refine wp_seq_k ?_; intro K hK
         refine wp_block ?_
         refine wp_seq_k ?_; intro K hK
         have hqr : q < rw_.length := by omega
         have hkl : lo + q < ss.length := by omega
         obtain ⟨X, hX⟩ : ∃ X, X = xall (rw_.take q) := ⟨_, rfl⟩
         have hXl : X.length = 128 := by rw [hX]; exact zFf (hrs.take q)
         have hnx : xall (rw_.take (q + 1)) = xr X rw_[q] := by rw [xall_take_succ hqr, hX]
         have hrq := hrat q hqr
         obtain ⟨sx, hsx⟩ : ∃ sx, sx = ss[lo + q] := ⟨_, rfl⟩
         rw [← hsx] at hrq
         have hsxl : sx.length = 128 := by rw [hsx]; exact hSs _ (List.getElem_mem hkl)
         rw [← hX] at S
         refine zAa ?_
         refine zd E ?_; clear E a; intro a E
         refine wpList_nil ?_
         refine zAb hK ?_; clear hK K
         refine wp_block ?_
         refine wp_loop_ghost (fun (m : Nat) (a : Act) (w' : World) => ∃ (j : Nat), m = 128 - j ∧ j ≤ 128 ∧ (lo + q = i → j = 0) ∧ St w0 [C, Lv, [(x, zDc P vD (.slice (some ⟨gL, 0, none⟩) xs.length cL) (ptr t) v4 v5 v6 v7)], [(t, ptcl (.slice ad xs.length c) vk 32)], CLs, O] w' [[(g100, cel (byt (xorB X (sx.take j))) 5)], Co, CA, [(b9, cel [.int .u64 s.a, .int .u64 s.b, .int .u64 s.c, .int .u64 s.d] 29)], C, Lv', [(x, zDc P vD (.slice (some ⟨gL, 0, none⟩) xs.length cL) (ptr t) v4 v5 v6 v7)], [(t, ptcl (.slice ad xs.length c) vk 32)], CLs, O] ∧ Fr a 172 [(1, .int .i64 at_), (2, .slice adb b.length cb), (3, .int .i64 kind), (9, ptr b9), (11, .int .i64 xs.length), (12, .int .i64 N), (13, .slice (some ⟨gA, 0, none⟩) (128 * N) cA), (17, .int .i64 ((cI : Int) - 1)), (18, vo), (19, .int .i64 i), (20, .slice (some ⟨g100, 0, none⟩) 128 128), (21, .int .i64 ((lo + q : Nat) : Int)), (22, .int .i64 j)]) (128 - 0) ?_ ?_
         ·exact ⟨0, rfl, by omega, fun _ => rfl, by rw [List.take_zero, zKb]; exact S, E.keep (kE13 rfl rfl rfl rfl rfl rfl rfl rfl rfl rfl rfl rfl rfl)⟩
         clear E; clear a; (try clear S); rintro m a w ⟨j, rfl, hj, hj0, S, E⟩
         iterate 2 (refine wp_seq_k ?_; intro K hK)
         refine zAa ?_
         iterate 4 (refine zd E ?_; clear E a; intro a E)
         refine zAo E (t := 125) rfl (fun hb125 => ?_) (fun hb125 => ?_)
         ·have hb125n := hb125; replace hb125n := Nrm.nrm hb125n
          iterate 2 (refine zyd E hb125 ?_; clear E a; intro a E)
          refine zp E (zAf E rfl rfl hb125 rfl) ?_; clear E a; intro a E
          refine wpList_nil ?_
          refine zAb hK ?_; clear hK K
          refine zAt E rfl (fun hb => ?_) (fun hb => ?_)
          ·replace hb := Nrm.nrm hb
           refine wp_skip ?_
           refine zAb hK ?_; clear hK K
           refine wp_seq_k ?_; intro K hK
           refine wp_block ?_
           have hjl : j < 128 := by omega
           have hki : lo + q ≠ i := by omega
           obtain ⟨z, hz1⟩ : ∃ z, sx[j]? = some z := ⟨_, List.getElem?_eq_getElem oZ⟩
           obtain ⟨y, hy⟩ : ∃ y, X[j]? = some y := ⟨_, List.getElem?_eq_getElem oZ⟩
           have hzb : (byt ss.flatten)[128 * (lo + q) + j]? = some (.int .u8 z.toNat) := by
            have := flat_sec hSs hkl j hjl
            rw [List.getElem?_eq_getElem hkl] at this
            simp only [byt, List.getElem?_map, this, Option.getD_some, ← hsx, hz1, Option.map_some]
           have hyi : (xorB X (sx.take j))[j]? = some y := by rw [zGf _ _ _ (by rw [List.length_take]; omega)]; exact hy
           have hyb : (byt (xorB X (sx.take j)))[j]? = some (.int .u8 y.toNat) := by simp [byt, hyi]
           have hCx : Buf [(g100, cel (byt (xorB X (sx.take j))) 5)] 5 1 (.slice (some ⟨g100, 0, none⟩) 128 128) 128 (byt (xorB X (sx.take j))) := by
            have := zHt (r := []) (T := 5) (g := g100) (c := 128) (m := 128) (s := 1) (xs := byt (xorB X (sx.take j))) (by rw [zBb, zCq]; omega) (zCy _) oZ (by simp [maxLen]) (by rw [zBb, zCq, List.length_nil]; omega)
            rwa [List.append_nil] at this
           have hmk : IntKind.i64.wrap ((128 : Int) * ((lo + q : Nat) : Int)) = ((128 * (lo + q) : Nat) : Int) := by rw [show (128 : Int) * ((lo + q : Nat) : Int) = ((128 * (lo + q) : Nat) : Int) by omega]; exact w_in oZ
           have hak : IntKind.i64.wrap (((128 * (lo + q) : Nat) : Int) + j) = ((128 * (lo + q) + j : Nat) : Int) := by rw [show ((128 * (lo + q) : Nat) : Int) + j = ((128 * (lo + q) + j : Nat) : Int) by omega]; exact w_in oZ
           refine zAw S (.ofL [(0, 0), (1, 0), (2, 0), (3, 0), (4, 0), (5, 0), (6, 0), (7, 0), (8, 0), (9, 0), (10, 0), (11, 0), (12, 0), (13, 0), (14, 0), (15, 3)]) yZ yZ ?_
           clear S; intro w S
           iterate 4 (refine zmd E ?_; clear E a; intro a E)
           refine zm E rfl (fun w h => zIf (i := j) E rfl rfl rfl rfl rfl rfl oZ) ?_; clear E a; intro a E
           refine zm E rfl (fun w h => zAq E rfl rfl rfl (by have := hCx.rd.cells (h.at mZ) rfl j _ hyb; rwa [Nat.zero_add] at this)) ?_; clear E a; intro a E
           iterate 2 (refine zmd E ?_; clear E a; intro a E)
           refine zm E rfl (fun w h => zDa E rfl rfl rfl (hmk)) ?_; clear E a; intro a E
           refine zmd E ?_; clear E a; intro a E
           refine zm E rfl (fun w h => zBc E rfl rfl rfl (hak)) ?_; clear E a; intro a E
           refine zm E rfl (fun w h => zAr (i := 128 * (lo + q) + j) E rfl rfl rfl rfl rfl rfl oZ) ?_; clear E a; intro a E
           refine zm E rfl (fun w h => zAq E rfl rfl rfl (hCA.rd.cells (h.at mZ) rfl (128 * (lo + q) + j) _ hzb)) ?_; clear E a; intro a E
           refine zm E rfl (fun w h => zEa E rfl rfl rfl (xor8 y z)) ?_; clear E a; intro a E
           refine zm E rfl (fun w h => zIf (i := j) E rfl rfl rfl rfl rfl rfl oZ) ?_; clear E a; intro a E
           refine zCo rfl rfl (zBe E S rfl rfl rfl rfl rfl rfl pZ (by rw [zBb, zCq]; omega) ?_); clear E S a; intro a w E S; try dsimp only [List.set] at S
           refine zAz ?_
           refine zAs ?_
           refine zAb hK ?_; clear hK K
           refine zAa ?_
           refine zd E ?_; clear E a; intro a E
           refine zp E (zBc E rfl rfl rfl (w_in oZ)) ?_; clear E a; intro a E
           refine zd E ?_; clear E a; intro a E
           refine wpList_nil ?_
           refine zAn ?_
           exact ⟨_, by omega, j + 1, rfl, by omega, fun q => absurd q hki, by rw [byt_set, zKx hy hz1] at S; exact S, E.keep (kE13 rfl rfl rfl rfl rfl rfl rfl rfl rfl rfl rfl rfl rfl)⟩
          ·replace hb := Nrm.nrm hb
           refine wp_exit ?_
           refine zAm ?_; clear hK K
           refine zAm ?_
           refine zBk ?_
           refine zAs ?_
           refine zAb hK ?_; clear hK K
           refine zAa ?_
           refine zd E ?_; clear E a; intro a E
           refine zp E (zBc E rfl rfl rfl (w_in oZ)) ?_; clear E a; intro a E
           refine zd E ?_; clear E a; intro a E
           refine wpList_nil ?_
           refine zAn ?_
           obtain rfl : j = 128 := by omega
           have hki : lo + q ≠ i := by omega
           rw [if_neg hki] at hrq
           rw [List.take_of_length_le oZ, xorB_xr oZ, ← hrq, ← hnx] at S
           exact ⟨_, by omega, q + 1, rfl, by omega, S, E.keep (kE12 rfl rfl rfl rfl rfl rfl rfl rfl rfl rfl rfl rfl)⟩
         ·have hb125n := hb125; replace hb125n := Nrm.nrm hb125n
          iterate 2 (refine zn E hb125 ?_; clear E a; intro a E)
          refine zp E (zAi E rfl rfl hb125 rfl) ?_; clear E a; intro a E
          refine wpList_nil ?_
          refine zAb hK ?_; clear hK K
          refine zAv E rfl rfl ?_
          refine wp_exit ?_
          refine zAm ?_; clear hK K
          refine zAm ?_
          refine zBk ?_
          refine zAs ?_
          refine zAb hK ?_; clear hK K
          refine zAa ?_
          refine zd E ?_; clear E a; intro a E
          refine zp E (zBc E rfl rfl rfl (w_in oZ)) ?_; clear E a; intro a E
          refine zd E ?_; clear E a; intro a E
          refine wpList_nil ?_
          refine zAn ?_
          have hki : lo + q = i := by omega
          obtain rfl := hj0 hki
          rw [if_pos hki] at hrq
          rw [hrq, zLh hXl] at hnx
          rw [List.take_zero, zKb, ← hnx] at S
          exact ⟨_, by omega, q + 1, rfl, by omega, S, E.keep (kE12 rfl rfl rfl rfl rfl rfl rfl rfl rfl rfl rfl rfl)⟩
        ·replace hb := Nrm.nrm hb
         have hql : ¬ lo + q < hi2 := (fun h => by have := hbt.2 h; rw [this] at hb; cases hb)
         refine wp_exit ?_
         refine zAm ?_; clear hK K
         refine zAm ?_
         refine zBk ?_
         refine zAy ?_
         rw [show rw_.take q = rw_ from List.take_of_length_le oZ, hra] at S
         exact ⟨_, _, zBt (T := 5) (by rw [zBb, htl]) (zCy _) oZ _, S, E.keep (kE11 rfl rfl rfl rfl rfl rfl rfl rfl rfl rfl rfl)⟩
      ·replace hb := Nrm.nrm hb
       have hc : xm + 1 ≠ cI := oZ
       refine wp_skip ?_
       refine zAy ?_
       rw [if_neg hc] at hta
       rw [← hta] at hB92
       exact ⟨_, _, hB92.rd, S.only sZ, E.keep (kE11 rfl rfl rfl rfl rfl rfl rfl rfl rfl rfl rfl)⟩
     ·clear S E a; intro a w J; obtain ⟨Cc, vc, hCc, S, E⟩ := J
      refine zAb hK ?_; clear hK K
      refine zAa ?_
      iterate 2 (refine zd E ?_; clear E a; intro a E)
      refine zAg rfl (zBn (by' := 1) E S rfl rfl dZ rfl rfl hCo pZ (hCc.src (S.stab.at mZ) rfl) rfl rfl rfl rfl rfl rfl (by simp only [maxLen]; omega) oZ ?_); clear E S a; intro a w v148 C148 E S hB148
      refine zd E ?_; clear E a; intro a E
      refine wpList_nil ?_
      refine zAs ?_
      refine zAb hK ?_; clear hK K
      refine zAa ?_
      refine zd E ?_; clear E a; intro a E
      refine zp E (zBc E rfl rfl rfl (w_in oZ)) ?_; clear E a; intro a E
      refine zd E ?_; clear E a; intro a E
      refine wpList_nil ?_
      refine zAn ?_
      rw [if_neg h0] at hbs
      exact ⟨_, by omega, i + 1, C148, v148, rfl, by omega, by rw [hbs, zCa, List.length_append, htl]; exact hB148, S.only sZ, E.keep (kE10 rfl rfl rfl rfl rfl rfl rfl rfl rfl rfl)⟩
   ·replace hb := Nrm.nrm hb
    refine wp_exit ?_
    refine zAm ?_; clear hK K
    refine zAm ?_
    refine zBk ?_
    refine zAb hK ?_; clear hK K
    iterate 2 (refine wp_seq_k ?_; intro K hK)
    obtain rfl : i = N := by omega
    rw [List.take_of_length_le oZ] at hCo
    obtain ⟨Bk, hBk⟩ : ∃ Bk, Bk = blkF xs.length 0 T := ⟨_, rfl⟩
    have hlong := zKh hw hbb (l := T) (by rw [hTl, hNe]) hTs
    have hdn := hdone
    rw [← hBk] at hCo hlong
    obtain ⟨ado, co, rfl⟩ := hCo.slice
    obtain ⟨go, rfl⟩ := hCo.addr oZ
    have hcapo := hCo.cap_le
    have hpre := Buf.pre hCo hlong.2
    have hctl : (Bk.take b.length).length = b.length := by rw [List.length_take]; omega
    have hpre2 : Buf Co 5 1 (.slice (some ⟨go, 0, none⟩) b.length co) (Bk.take b.length).length (byt (Bk.take b.length)) := by rw [hctl]; exact hpre
    refine zAa ?_
    iterate 5 (refine zd E ?_; clear E a; intro a E)
    refine wpList_nil ?_
    refine zAb hK ?_; clear hK K
    refine zAt E rfl (fun hb => ?_) (fun hb => ?_)
    ·replace hb := Nrm.nrm hb
     exfalso; omega
    ·replace hb := Nrm.nrm hb
     skip
     refine wp_skip ?_
     refine zAb hK ?_; clear hK K
     refine wp_seq_k ?_; intro K hK
     refine zAw S (.ofL [(0, 0), (1, 0), (2, 0), (3, 0), (4, 0), (5, 0), (6, 3), (7, 2)]) yZ yZ ?_
     clear S; intro w S
     refine zmd E ?_; clear E a; intro a E
     refine zm E rfl (fun w h => zBg (vs := [_, _, _, _]) E rfl rfl rfl (h.one mZ) rfl rfl) ?_; clear E a; intro a E
     iterate 3 (refine zmd E ?_; clear E a; intro a E)
     refine zm E rfl (fun w h => zGe (s := 1) (hi := b.length) E rfl rfl rfl rfl rfl rfl oZ) ?_; clear E a; intro a E
     rw [zHo] at E
     refine zCz E rfl rfl rfl dZ rfl Tryz.func39 rfl yZ rfl (dchkK_ret Co _ (Bk.take b.length) hpre2.rd (by rw [hctl]; omega) _ mZ (hL.2.1.sub (fun Q hQ => by rw [List.mem_singleton.1 hQ]; exact mZ)) (hL.2.2.sub (fun Q hQ => by rw [List.mem_singleton.1 hQ]; exact mZ)) kind s _ S.hp) ?_
     rintro v160 w ⟨rfl, hT2⟩; clear E a; intro a E
     have S := S.all hT2
     refine zBa E rfl rfl rfl dZ (fun w => zBm E rfl rfl) ?_; clear E a; intro a E
     refine zAz ?_
     refine zAb hK ?_; clear hK K
     refine wp_seq_k ?_; intro K hK
     refine zAw S (.ofL [(0, 0), (1, 0), (2, 0), (3, 0), (4, 0), (5, 0), (6, 0), (7, 0), (8, 0), (9, 0), (10, 0)]) yZ yZ ?_
     clear S; intro w S
     iterate 2 (refine zmd E ?_; clear E a; intro a E)
     refine zAo E (t := 162) rfl (fun hb162 => ?_) (fun hb162 => ?_)
     ·have hb162n := hb162; replace hb162n := Nrm.nrm hb162n
      iterate 2 (refine zAe E rfl rfl rfl rfl rfl hb162 rfl dZ (fun w h => zBs E rfl rfl) ?_; clear E a; intro a E)
      refine zAe E rfl rfl rfl rfl rfl hb162 rfl dZ (fun w h => by first | exact zFq E rfl rfl rfl | exact zCx E rfl rfl rfl | exact zCb E rfl rfl rfl) ?_; clear E a; intro a E
      refine zAe E rfl rfl rfl rfl rfl hb162 rfl dZ (fun w h => zGe (s := 1) (hi := b.length) E rfl rfl rfl rfl rfl rfl oZ) ?_; clear E a; intro a E
      rw [zHo] at E
      refine zAe E rfl rfl rfl rfl rfl hb162 rfl dZ (fun w h => zCh E rfl rfl rfl rfl rfl hpre2.rd (h.at mZ)) ?_; clear E a; intro a E
      refine zAe E rfl rfl rfl rfl rfl hb162 rfl dZ (fun w h => zBs E rfl rfl) ?_; clear E a; intro a E
      refine zAe E rfl rfl rfl rfl rfl hb162 rfl dZ (fun w h => zCh E rfl rfl rfl rfl rfl hb0 (h.at mZ)) ?_; clear E a; intro a E
      refine zAe E rfl rfl rfl rfl rfl hb162 rfl dZ (fun w h => by first | exact rn_neq E rfl rfl rfl | exact zEb E rfl rfl rfl rfl | exact zFg E rfl rfl rfl rfl | exact zEj E rfl rfl rfl) ?_; clear E a; intro a E
      refine zm E rfl (fun w h => zAf E rfl rfl hb162 rfl) ?_; clear E a; intro a E
      refine zAz ?_
      refine zAb hK ?_; clear hK K
      refine zAt E rfl (fun hb => ?_) (fun hb => ?_)
      ·replace hb := Nrm.nrm hb
       refine wp_seq_k ?_; intro K hK
       refine zAa ?_
       refine zd E ?_; clear E a; intro a E
       refine wpList_nil ?_
       refine zAb hK ?_; clear hK K
       refine wp_ret ?_
       refine zDg ?_
       refine zAu ?_; clear hK K
       refine zAu ?_
       refine zDg ?_
       refine zAu ?_; clear hK K
       refine ret1 E rfl rfl ?_
       exact ⟨_, rfl, true, Lv', rfl, hLv', fun q => Bool.noConfusion q, (S.only sZ).tr⟩
      ·replace hb := Nrm.nrm hb
       refine wp_skip ?_
       refine zAs ?_
       refine zAb hK ?_; clear hK K
       refine zAa ?_
       refine zd E ?_; clear E a; intro a E
       refine zp E (zBc E rfl rfl rfl (show IntKind.i64.wrap ((cI : Int) - 1 + 1) = (((cI + 1 : Nat) : Int) - 1) by rw [show (cI : Int) - 1 + 1 = ((cI + 1 : Nat) : Int) - 1 by omega]; exact w_in oZ)) ?_; clear E a; intro a E
       refine zd E ?_; clear E a; intro a E
       refine wpList_nil ?_
       refine zAn ?_
       have hbE := hb
       refine ⟨_, by omega, cI + 1, rfl, by omega, fun c h q => ?_, S.only sZ, E.keep (kE8 rfl rfl rfl rfl rfl rfl rfl rfl)⟩
       rcases Nat.lt_or_ge c cI with h2 | h2
       ·exact hdone c h2 q
       ·obtain rfl : c = cI := by omega
        rw [← hT, ← hBk]; simpa using hbE
     ·have hb162n := hb162; replace hb162n := Nrm.nrm hb162n
      iterate 8 (refine zAl E rfl rfl rfl rfl rfl hb162 rfl dZ ?_; clear E a; intro a E)
      refine zm E rfl (fun w h => zAi E rfl rfl hb162 rfl) ?_; clear E a; intro a E
      refine zAz ?_
      refine zAb hK ?_; clear hK K
      refine zAv E rfl rfl ?_
      refine wp_skip ?_
      refine zAs ?_
      refine zAb hK ?_; clear hK K
      refine zAa ?_
      refine zd E ?_; clear E a; intro a E
      refine zp E (zBc E rfl rfl rfl (show IntKind.i64.wrap ((cI : Int) - 1 + 1) = (((cI + 1 : Nat) : Int) - 1) by rw [show (cI : Int) - 1 + 1 = ((cI + 1 : Nat) : Int) - 1 by omega]; exact w_in oZ)) ?_; clear E a; intro a E
      refine zd E ?_; clear E a; intro a E
      refine wpList_nil ?_
      refine zAn ?_
      refine ⟨_, by omega, cI + 1, rfl, by omega, fun c h q => ?_, S.only sZ, E.keep (kE8 rfl rfl rfl rfl rfl rfl rfl rfl)⟩
      rcases Nat.lt_or_ge c cI with h2 | h2
      ·exact hdone c h2 q
      ·obtain rfl : c = cI := by omega
       rw [← hT, ← hBk, hb162n] at q; cases q
  ·replace hb := Nrm.nrm hb
   refine wp_exit ?_
   refine zAm ?_; clear hK K
   refine zAm ?_
   refine zBk ?_
   refine zAb hK ?_; clear hK K
   refine wp_seq_k ?_; intro K hK
   refine zAa ?_
   refine zd E ?_; clear E a; intro a E
   refine wpList_nil ?_
   refine zAb hK ?_; clear hK K
   refine wp_ret ?_
   refine ret1 E rfl rfl ?_
   refine ⟨_, rfl, false, Lv', rfl, hLv', fun _ _ => ⟨?_, fun col hcol => ?_⟩, (S.only sZ).tr⟩
   ·rw [← hss]; exact hdone 0 oZ
   ·rw [← hss]; exact hdone (col + 1) oZ
end
end Go.Proofs.YtpjidiaekifmbaaGreatDoor
namespace Go.Proofs.YtpjidiaekifmbaaGreatDoor
open Go.Sl
set_option maxRecDepth 10000
structure Hurt (R : Rk) (xs : List (Nat × Nat)) (bad at_ : Nat) (b : List UInt8) : Prop where
 lost : ∀ x, zEn R xs x = true → x % xs.length = bad
 sec : ∀ i (h : i < (layP xs.length b).length), (at_ + i) % xs.length ≠ bad → secP R xs (at_ + i) = (layP xs.length b)[i]
def Finds (R : Rk) (xs : List (Nat × Nat)) (at_ : Nat) (b : List UInt8) (kind : Int) (s : Fs) : Prop :=
 (lsTo R xs at_ (layP xs.length b).length = none ∧ chkK kind s ((blkF xs.length 0 (rdTo R xs at_ (layP xs.length b).length)).take b.length) = true) ∨ ∃ col, Cand xs.length at_ (layP xs.length b).length (lsTo R xs at_ (layP xs.length b).length) col ∧ chkK kind s ((blkF xs.length 0 (rebF xs.length at_ col (rdTo R xs at_ (layP xs.length b).length))).take b.length) = true
def Goods (R : Rk) (xs : List (Nat × Nat)) (at_ : Nat) (b : List UInt8) (kind : Int) (s : Fs) : Prop :=
 ∀ col l, LookOk R xs at_ (layP xs.length b).length b.length kind s col l → (blkF xs.length 0 l).take b.length = b
def NoClash (R : Rk) (xs : List (Nat × Nat)) (at_ : Nat) (b : List UInt8) (kind : Int) (s : Fs) : Prop :=
 lsTo R xs at_ (layP xs.length b).length = none → (chkK kind s ((blkF xs.length 0 (rdTo R xs at_ (layP xs.length b).length)).take b.length) = true → (blkF xs.length 0 (rdTo R xs at_ (layP xs.length b).length)).take b.length = b) ∧
  ∀ col, col < xs.length → chkK kind s ((blkF xs.length 0 (rebF xs.length at_ col (rdTo R xs at_ (layP xs.length b).length))).take b.length) = true → (blkF xs.length 0 (rebF xs.length at_ col (rdTo R xs at_ (layP xs.length b).length))).take b.length = b
section
variable {R : Rk} {xs : List (Nat × Nat)} {bad at_ k : Nat} {b : List UInt8} {kind : Int} {s : Fs} (hw : 3 ≤ xs.length ∧ xs.length ≤ 5) (hb : 1 ≤ b.length ∧ b.length ≤ 1024) (hN : at_ + (layP xs.length b).length ≤ xs.length * 32) (hU : Up R xs k)
theorem Hurt.one (h : Hurt R xs bad at_ b) : zIm R xs := fun x y hx hy => (h.lost x hx).trans (h.lost y hy).symm
theorem Hurt.rd (h : Hurt R xs bad at_ b) {i : Nat} (hi : i < (layP xs.length b).length) (hi2 : i < (rdTo R xs at_ (layP xs.length b).length).length) (hq : (at_ + i) % xs.length ≠ bad) : (rdTo R xs at_ (layP xs.length b).length)[i] = (layP xs.length b)[i] := by
 have hl : zEn R xs (at_ + i) = false := by
  rcases hx : zEn R xs (at_ + i) with _ | _
  ·rfl
  ·exact absurd (h.lost _ hx) hq
 simp only [rdTo, List.getElem_map, List.getElem_range, hl, Bool.false_eq_true, if_false]
 exact h.sec i hi hq
include hw hb hN hU in
theorem Hurt.reb (h : Hurt R xs bad at_ b) : rebF xs.length at_ bad (rdTo R xs at_ (layP xs.length b).length) = layP xs.length b :=
 reb_fix oZ (zJc hb) (zJd hU hw.1 hN) (layP_row hw hb) (zDv ..) fun _ h1 h2 hq => h.rd h2 h1 hq
theorem Hurt.same (h : Hurt R xs bad at_ b) (hn : zGu xs.length at_ bad (layP xs.length b).length = false) : rdTo R xs at_ (layP xs.length b).length = layP xs.length b :=
 List.ext_getElem (zDv ..) fun i h1 h2 => h.rd h2 h1 fun q => by
  rw [zJb.2 ⟨i, h2, q⟩] at hn; cases hn
theorem Hurt.ls (h : Hurt R xs bad at_ b) : lsTo R xs at_ (layP xs.length b).length = none ∨ lsTo R xs at_ (layP xs.length b).length = some bad := by
 rcases hq : lsTo R xs at_ (layP xs.length b).length with _ | j
 ·exact .inl rfl
 ·obtain ⟨i, h1, h2, h3⟩ := lsTo_is hq
  rw [h3, h.lost _ h2]; exact .inr rfl
theorem Hurt.ls_no (h : Hurt R xs bad at_ b) (hn : zGu xs.length at_ bad (layP xs.length b).length = false) : lsTo R xs at_ (layP xs.length b).length = none := by
 refine lsTo_no fun i hi => ?_
 rcases hx : zEn R xs (at_ + i) with _ | _
 ·rfl
 ·rw [zJb.2 ⟨i, hi, h.lost _ hx⟩] at hn; cases hn
include hw hb hN hU in
theorem Hurt.finds (h : Hurt R xs bad at_ b) (hbad : bad < xs.length) (hck : chkK kind s b = true) : Finds R xs at_ b kind s := by
 rcases hn : zGu xs.length at_ bad (layP xs.length b).length with _ | _
 ·exact .inl ⟨h.ls_no hn, by rw [h.same hn, zGk hw hb]; exact hck⟩
 ·exact .inr ⟨bad, ⟨hbad, h.ls, hn⟩, by rw [h.reb hw hb hN hU, zGk hw hb]; exact hck⟩
include hw hb hN hU in
theorem Hurt.goods (h : Hurt R xs bad at_ b) (hno : NoClash R xs at_ b kind s) : Goods R xs at_ b kind s := fun col l hl => by
 rcases hl.2.1 with ⟨_, h2, rfl⟩ | ⟨cn, ⟨h1, h2, h3⟩, _, rfl⟩
 ·exact (hno h2).1 hl.1
 ·rcases h2 with h2 | h2
  ·exact (hno h2).2 cn h1 hl.1
  ·rcases h.ls with q | q
   ·rw [q] at h2; cases h2
   ·rw [q] at h2; cases h2
    rw [h.reb hw hb hN hU]; exact zGk hw hb
theorem Hurt.dead (hw : 3 ≤ xs.length ∧ xs.length ≤ 5) (hb : 1 ≤ b.length ∧ b.length ≤ 1024) (h : Hurt R xs bad at_ b) (hd : ∀ x, x % xs.length = bad → zEn R xs x = true) (hck : chkK kind s b = true) : NoClash R xs at_ b kind s := fun hq => by
 have hn : zGu xs.length at_ bad (layP xs.length b).length = false := by
  rcases hn : zGu xs.length at_ bad (layP xs.length b).length with _ | _
  ·rfl
  ·obtain ⟨i, h1, h2⟩ := zJb.1 hn
   have := zGj hq i h1
   rw [hd _ h2] at this; cases this
 rw [h.same hn]
 refine ⟨fun _ => zGk hw hb, fun col hc _ => ?_⟩
 rw [reb_fix (L := layP xs.length b) oZ (zJc hb) (zJc hb) (layP_row hw hb) rfl fun _ _ _ _ => rfl]
 exact zGk hw hb
theorem direct_finds (hq : lsTo R xs at_ (layP xs.length b).length = none) (he : (blkF xs.length 0 (rdTo R xs at_ (layP xs.length b).length)).take b.length = b) (hck : chkK kind s b = true) : Finds R xs at_ b kind s := .inl ⟨hq, by rw [he]; exact hck⟩
theorem direct_goods (hq : lsTo R xs at_ (layP xs.length b).length = none) (he : (blkF xs.length 0 (rdTo R xs at_ (layP xs.length b).length)).take b.length = b) (hck : chkK kind s b = true) : Goods R xs at_ b kind s := fun col l hl => by
 have hc := hl.2.2 hq (by rw [he]; exact hck)
 rcases hl.2.1 with ⟨_, _, rfl⟩ | ⟨cn, _, hcn, _⟩
 ·exact he
 ·omega
end
theorem lost_same {R R' : Rk} {xs : List (Nat × Nat)} (hw : 0 < xs.length) (h : ∀ y ∈ xs, (dkOf R' y.2).failed = (dkOf R y.2).failed) (x : Nat) : zEn R' xs x = zEn R xs x := h _ (zDs hw x).1
theorem lsTo_same {R R' : Rk} {xs : List (Nat × Nat)} {at_ : Nat} (h : ∀ x, zEn R' xs x = zEn R xs x) : ∀ N, lsTo R' xs at_ N = lsTo R xs at_ N
 | 0 => rfl
 | N + 1 => by rw [lsTo, lsTo, h, lsTo_same h N]
theorem after_read {R R' : Rk} {xs : List (Nat × Nat)} {at_ : Nat} {b : List UInt8} {kind : Int} {s : Fs} (hw : 0 < xs.length) (hfl : ∀ y ∈ xs, (dkOf R' y.2).failed = (dkOf R y.2).failed) (hF : Finds R xs at_ b kind s) (hG : Goods R xs at_ b kind s) (hck : chkK kind s b = true)
  (h : (R' = R ∧ (lsTo R xs at_ (layP xs.length b).length = none → chkK kind s ((blkF xs.length 0 (rdTo R xs at_ (layP xs.length b).length)).take b.length) = true)) ∨ (lsTo R xs at_ (layP xs.length b).length = none ∧ ∃ l, l.length = (layP xs.length b).length ∧ Secs l ∧ (blkF xs.length 0 l).take b.length = b ∧ Lies R' xs at_ l (layP xs.length b).length)) :
  Finds R' xs at_ b kind s ∧ Goods R' xs at_ b kind s := by
 rcases h with ⟨rfl, _⟩ | ⟨hq, l, hl1, _, hl3, hl4⟩
 ·exact ⟨hF, hG⟩
 ·have hq' : lsTo R' xs at_ (layP xs.length b).length = none := by rw [lsTo_same (lost_same hw hfl)]; exact hq
  have he : (blkF xs.length 0 (rdTo R' xs at_ (layP xs.length b).length)).take b.length = b := by
   rw [← hl1] at hq' hl4 ⊢
   rw [lies_rd (fun i hi => zGj hq' i hi) hl4]; exact hl3
  exact ⟨direct_finds hq' he hck, direct_goods hq' he hck⟩
theorem hurt_fail {R : Rk} {xs : List (Nat × Nat)} {at_ k bad : Nat} {b : List UInt8} (hw : 0 < xs.length) (hU : Up R xs k) (hnd : (xs.map Prod.snd).Nodup) (hbad : bad < xs.length) (hf : ∀ y ∈ xs, (dkOf R y.2).failed = false) (hL : Lies R xs at_ (layP xs.length b) (layP xs.length b).length) :
  Hurt (R.fail (dkOf R xs[bad].2)) xs bad at_ b ∧ ∀ x, x % xs.length = bad → zEn (R.fail (dkOf R xs[bad].2)) xs x = true := by
 obtain ⟨_, hK⟩ := hU.fail (List.getElem_mem hbad)
 have hon : ∀ x, onX xs x = xs[x % xs.length]'(Nat.mod_lt _ hw) := fun x => by
  have := (zDs hw x).2
  rw [List.getElem?_eq_getElem (Nat.mod_lt _ hw)] at this
  exact (Option.some.inj this).symm
 have hne : ∀ x, x % xs.length ≠ bad → (onX xs x).2 ≠ xs[bad].2 := fun x hx => by rw [hon]; exact xs_neq hnd hbad (Nat.mod_lt _ hw) hx
 have hd : ∀ x, dkOf (R.fail (dkOf R xs[bad].2)) (onX xs x).2 = if x % xs.length = bad then { dkOf R xs[bad].2 with now := (dkOf R xs[bad].2).pl, failed := true } else dkOf R (onX xs x).2 := fun x => by
  rw [hK _ (zDs hw x).1]
  by_cases q : x % xs.length = bad
  ·rw [if_pos q, if_pos (by rw [hon]; simp only [q])]
  ·rw [if_neg q, if_neg (hne x q)]
 refine ⟨⟨fun x hx => ?_, fun i hi hq => ?_⟩, fun x hx => ?_⟩
 ·apply Classical.byContradiction
  intro q
  unfold zEn at hx
  rw [hd, if_neg q, hf _ (zDs hw x).1] at hx; cases hx
 ·unfold secP
  rw [hd, if_neg hq]; exact hL i hi hi
 ·unfold zEn; rw [hd, if_pos hx]
theorem hurt_mask {R R' : Rk} {xs : List (Nat × Nat)} {at_ bad : Nat} {b : List UInt8} (hw : 0 < xs.length) (hnd : (xs.map Prod.snd).Nodup) (hbad : bad < xs.length) (hf : ∀ y ∈ xs, (dkOf R y.2).failed = false) (hL : Lies R xs at_ (layP xs.length b) (layP xs.length b).length)
  (hs : ∀ y ∈ xs, (dkOf R' y.2).failed = (dkOf R y.2).failed ∧ (y.2 ≠ xs[bad].2 → dkOf R' y.2 = dkOf R y.2)) : Hurt R' xs bad at_ b := by
 refine ⟨fun x hx => ?_, fun i hi hq => ?_⟩
 ·have : zEn R' xs x = false := by unfold zEn; rw [(hs _ (zDs hw x).1).1]; exact hf _ (zDs hw x).1
  rw [this] at hx; cases hx
 ·unfold secP
  have hon : onX xs (at_ + i) = xs[(at_ + i) % xs.length]'(Nat.mod_lt _ hw) := by
   have := (zDs hw (at_ + i)).2
   rw [List.getElem?_eq_getElem (Nat.mod_lt _ hw)] at this
   exact (Option.some.inj this).symm
  rw [(hs _ (zDs hw _).1).2 (by rw [hon]; exact xs_neq hnd hbad (Nat.mod_lt _ hw) hq)]
  exact hL i hi hi
end Go.Proofs.YtpjidiaekifmbaaGreatDoor
